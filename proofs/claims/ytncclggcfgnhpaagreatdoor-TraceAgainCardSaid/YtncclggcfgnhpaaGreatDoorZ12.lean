import Derived.Test.YtncclggcfgnhpaaGreatDoorZ11
namespace Go.Proofs.YtncclggcfgnhpaaGreatDoor
set_option maxRecDepth 100000
set_option maxHeartbeats 8000000
set_option linter.all false
open Go.Proofs.Tryz
open _root_.Bool renaming true->ι,false->ν,and_eq_true->aI,false_eq_true->aK,not_eq_true'->bX,true_and->iO,not_eq_false'->vS
open _root_.Classical renaming byContradiction->aG
open _root_.Go renaming World->η,Value->χ,undef->ψ,Calls->aE,Addr->bW,TypeId->cS,bodyPost_ret->cU,reachBytes->oT,DataW->Pk,MemPlace->Pm
open Go.DataW renaming trod->kC,weightsEach->vU,trod_int->oS,trod_struct->JF,weights->SA,lit->Ur
open Go.DataW.agg renaming injEq->ez
open Go.Deep renaming open_slice->YK
open Go.Ending renaming returned->σ
open Go.Exit renaming inBlock->Lc
open Go.IntKind renaming i64->Ξ
open Go.IntWalk renaming i64_in->aM
open Go.Obj renaming cells->π
open Go.OpenSpec renaming ofChange->yM
open Go.Proofs.Tryz renaming prog->γ,underlying3->dB,underlying4->eW,underlying81->Mt
open Go.RowKit renaming intOf->ξ,Hid->aQ
open Go.RowKit.Below renaming refl->μ
open Go.Value renaming string->Δ,slice->Θ,int->Υ,bool->ω,tuple->bT
open Go.World renaming cells?_some->JE
open _root_.Inhabited renaming default->Γ
open _root_.Int renaming toNat_natCast->gG,le_refl->AV
open _root_.List renaming getD_eq_getElem?_getD->Ω,length_map->υ,length_cons->aC,length_append->aJ,getElem?_eq_getElem->aS,mem_cons_self->bO,mem_cons_of_mem->cC,range->cI,mem_map_of_mem->dC,map_congr_left->eB,map_append->dV,map_map->eH,map_cons->fN,flatMap_def->fT,flatMap_cons->gS,mem_append_left->gU,flatten_cons->jP,length_range->jQ,flatMap_append->kA,foldl_cons->oB,map->oO,range_succ->sB,getElem?_map->oP,map_nil->wS,mem_range->xS,map_flatten->Mv,length->Jr,count_cons_self->ef
open _root_.List.cons renaming injEq->AZ
open _root_.Nat renaming le_refl->θ,mod_eq_of_lt->aT,zero_le->aP,mod_lt->aV,zero_add->bD,reduceAdd->cL,mod_add_mod->eV,le_of_lt->fM,add_mod_right->gQ,add_zero->jN,mod_self->mY,reduceMod->tX,zero_mul->vO
open _root_.Option renaming none->δ,some->ζ,getD_some->bK
open _root_.Option.some renaming inj->dZ
open _root_.Prod renaming fst->Bl,snd->Bm
open _root_.Rat renaming le_of_lt->gZ,mul_nonneg->AY,le_refl->OY
variable{i N t j k r fuel:Nat}{aZ ls xE:List Lp}{rs:List Rg}{fs:List Fr}{z:List UInt8}{s:Sg}{X Y:Int}{w:Wy}{e:Rat}{E:List Sg}{α:Type}{at':List (List UInt8)}{ps qs:List Pt}{Ab:List (List Pt)}{a:bW}{cs:List χ}
section
open Go Go.Lib
def sgW(side:Int)(w:Wy)(m:Nat):Sg:=
 if w.d%2=1 then⟨side,ι,w.x,w.y,if w.d=1 then w.y+m else w.y-m⟩else⟨side,ν,w.y,w.x,if w.d=0 then w.x+m else w.x-m⟩
theorem Sh(side w){m:Nat}(hm:0<m)(hd:w.d<4):(sgW side w m).len=m/\(sgW side w m).dir=w.d/\(sgW side w m).side=side/\(sgW side w m).px 0=w.x/\(sgW side w m).py 0=w.y/\(sgW side w m).a≠(sgW side w m).b:=by
 obtain⟨x,y,d⟩:=w;have h4:d=0\/d=1\/d=2\/d=3:=by simp only at hd;omega
 rcases h4 with rfl|rfl|rfl|rfl<;>unfold sgW Sg.len Sg.dir Sg.px Sg.py<;>simp <;>omega
theorem au9(side w){m:Nat}(hm:0<m)(hd:w.d<4):cV (sgW side w m) 0=w:=by
 obtain⟨-,h1,-,h2,h3,-⟩:=Sh side w hm hd;unfold cV;rw[h1,h2,h3]
section
variable{c:Int->Int->Bool}
theorem ym(hb:eX c w=ι)(hk:0<k)(hp:fW (eY c) k w=w)(e)(he:e<4):∃j,j<k/\(fW (eY c) j w).d=e:=by
 have hbj:=fun j=>AL hb j;have hs:∀j,fW (eY c) (j+1) w=eY c (fW (eY c) j w):=fun j=>rfl;have hN:=fun j=>rE (hbj j);have hx:∀j,(fW (eY c) (j+1) w).x=(fW (eY c) j w).x+(if(fW (eY c) j w).d=0 then 1 else if(fW (eY c) j w).d=2 then -1 else 0):=fun j=>by
  rw[hs,(hN j).2.2.1];have:=(hN j).1;unfold fU;generalize(fW (eY c) j w).d=q at *;match q,this with
  |0,_=>simp
  |1,_=>simp
  |2,_=>simp;omega
  |3,_=>simp
 have hy:∀j,(fW (eY c) (j+1) w).y=(fW (eY c) j w).y+(if(fW (eY c) j w).d=1 then 1 else if(fW (eY c) j w).d=3 then -1 else 0):=fun j=>by
  rw[hs,(hN j).2.2.2.1];have:=(hN j).1;unfold fV;generalize(fW (eY c) j w).d=q at *;match q,this with
  |0,_=>simp
  |1,_=>simp
  |2,_=>simp
  |3,_=>simp;omega
 have key:∃j,j<k/\(fW (eY c) (j+1) w).d=e/\(fW (eY c) j w).d≠e:=by
  have h4:e=0\/e=1\/e=2\/e=3:=oM;rcases h4 with rfl|rfl|rfl|rfl
  .exact zG 0 k dD (fun j=>(fW (eY c) j w).d) (fun j=>(fW (eY c) j w).x) (fun j=>(fW (eY c) j w).y) hk (fun j=>(hN j).1) (fun j _=>hx j) (fun j _=>hy j) (fun j _=>(hN j).2.2.2.2) (by rw[hp];rfl) (by rw[hp];rfl) (by rw[hp];rfl)
  .exact zG 1 k dD (fun j=>(fW (eY c) j w).d) (fun j=>(fW (eY c) j w).y) (fun j=>-(fW (eY c) j w).x) hk (fun j=>(hN j).1) (fun j _=>hy j) (fun j _=>by have:=hx j;simp only[cL,tX];rw[this];(repeat' split)<;>omega) (fun j _=>(hN j).2.2.2.2) (by rw[hp];rfl) (by rw[hp];rfl) (by rw[hp];rfl)
  .exact zG 2 k dD (fun j=>(fW (eY c) j w).d) (fun j=>-(fW (eY c) j w).x) (fun j=>-(fW (eY c) j w).y) hk (fun j=>(hN j).1) (fun j _=>by have:=hx j;simp only[cL,tX];rw[this];(repeat' split)<;>omega) (fun j _=>by have:=hy j;simp only[cL,tX];rw[this];(repeat' split)<;>omega) (fun j _=>(hN j).2.2.2.2) (by rw[hp];rfl) (by rw[hp];rfl) (by rw[hp];rfl)
  .exact zG 3 k dD (fun j=>(fW (eY c) j w).d) (fun j=>-(fW (eY c) j w).y) (fun j=>(fW (eY c) j w).x) hk (fun j=>(hN j).1) (fun j _=>by have:=hy j;simp only[cL,tX];rw[this];(repeat' split)<;>omega) (fun j _=>hx j) (fun j _=>(hN j).2.2.2.2) (by rw[hp];rfl) (by rw[hp];rfl) (by rw[hp];rfl)
 obtain⟨j,h1,h2,-⟩:=key;by_cases q:j+1<k
 .exact⟨j+1,q,h2⟩
 .refine⟨0,hk,?_⟩;rw[show j+1=k by omega,hp]at h2;exact h2
theorem yn(g:Nat->α)(F:Nat->Nat):∀n,((cI n).flatMap fun i=>(cI (F i)).map fun t=>g (bv7 F i+t))=(cI (bv7 F n)).map g:=by
 intro n;induction n with
 |zero=>rfl
 |succ n ih=>
  rw[sB,kA,ih,bv7,List.range_add,dV,eH];congr 1;simp
structure Ua(c:Int->Int->Bool)(S:WL)(xs ys:List (List UInt8))(l:List Wy)(E:List Sg):Prop where
 four:4<=E.length
 ring:oZ E
 long:∀j,j<E.length->(E.getD j Γ).a≠(E.getD j Γ).b
 ways:(E.flatMap sE).Perm l
 turn:∀j,j<E.length->eY c (cV (E.getD j Γ) ((E.getD j Γ).len-1))=cV (E.getD ((j+1)%E.length) Γ) 0
 diff:∀j,j<E.length->(E.getD j Γ).dir≠(E.getD ((j+1)%E.length) Γ).dir\/(E.getD j Γ).side≠(E.getD ((j+1)%E.length) Γ).side
 side:∀j t,j<E.length->t<(E.getD j Γ).len->rU S (cV (E.getD j Γ) t)=(E.getD j Γ).side
 parts:fF S xs ys l=E.map (uG xs ys)
theorem aK1(S xs ys){L:Nat}(hb:eX c w=ι)(hP:it (eY c) w L):∃E,Ua c S xs ys (jX (eY c) w L) E:=by
 have hL:=hP.1
 have DN:(jX (eY c) w L).length=L:=BY _ _
 have hbj:=fun j=>AL hb j
 have hN:=fun j=>rE (hbj j)
 obtain⟨f0,hf0,hch,bs3⟩:∃f0,f0<L/\mF S (fW (eY c) ((f0+L-1)%L) w) (fW (eY c) f0 w)=ν/\eO S (jX (eY c) w L)=f0:=by
  have hex:∃m,m<L/\mF S (fW (eY c) ((m+L-1)%L) w) (fW (eY c) m w)=ν:=by
   obtain⟨j,h1,h2,h3⟩:=Rj hb hL hP.2.1 0 dD
   have hne:mF S (fW (eY c) j w) (fW (eY c) (j+1) w)=ν:=by
    unfold mF
    rw[decide_eq_false,Bool.false_and]
    rw[h2];intro e;rw[e]at h3;exact h3 rfl
   by_cases q:j+1<L
   .exact⟨j+1,q,by rw[show j+1+L-1=j+L by omega,gQ,aT h1];exact hne⟩
   .refine⟨0,hL,?_⟩
    rw[bD,aT oM,show L-1=j by omega]
    rw[show j+1=L by omega,hP.2.1]at hne
    exact hne
  obtain⟨m,hm⟩:=hex
  obtain⟨k,⟨k1,k2⟩,k3⟩:=as8 (P:=fun m=>m<L/\mF S (fW (eY c) ((m+L-1)%L) w) (fW (eY c) m w)=ν) m hm
  refine⟨k,k1,k2,E9 (by rw[DN];exact k1) (fun j hj=>?_) ?_⟩
  .rw[DN,qF (aV _ hL),qF oM]
   refine aG fun q=>k3 j hj ⟨oM,?_⟩
   simpa using q
  .rw[DN,qF (aV _ hL),qF k1];exact k2
 obtain⟨u,hu⟩:=nm (fW (eY c) f0 w)
 have hPu:it (eY c) u L:=by rw[<-hu];exact hP.from (fM hf0)
 have hbu:eX c u=ι:=by rw[<-hu];exact hbj _
 have ZS:Eo (jX (eY c) w L) f0=jX (eY c) u L:=by rw[Xv hP.2.1 (fM hf0),hu]
 have hch:mF S (fW (eY c) (L-1) u) u=ν:=by
  have e:fW (eY c) ((f0+L-1)%L) w=fW (eY c) (L-1) u:=by
   rw[<-hu,<-mM]
   by_cases q:f0=0
   .subst q;rw[bD,jN,aT oM]
   .rw[show f0+L-1=(f0-1)+L by omega,gQ,aT oM,show L-1+f0=(f0-1)+L by omega,mM,hP.2.1]
  rw[e,hu]at hch
  exact hch
 have PI:=fun j=>AL hbu j
 have hNu:=fun j=>rE (PI j)
 obtain⟨n,F,n0,BQ,hF,Dn,aI3⟩:=cj (fun k=>B7 S (fW (eY c) k u)) L hL
 have hlt:∀i t,i<n->t<F i->bv7 F i+t<L:=fun i t hi ht=>by rw[<-BQ];exact Di hi ht
 obtain⟨sg,hsg⟩:∃sg:Nat->Sg,sg=fun i=>sgW (rU S (fW (eY c) (bv7 F i) u)) (fW (eY c) (bv7 F i) u) (F i):=⟨_,rfl⟩
 have J5:∀k,(fW (eY c) k u).d<4:=fun k=>(hNu k).1
 have Fe:∀i,i<n->(sg i).len=F i/\(sg i).dir=(fW (eY c) (bv7 F i) u).d/\(sg i).side=rU S (fW (eY c) (bv7 F i) u)/\(sg i).a≠(sg i).b/\cV (sg i) 0=fW (eY c) (bv7 F i) u:=fun i hi=>by
  rw[hsg]
  obtain⟨h1,h2,h3,-,-,h4⟩:=Sh (rU S (fW (eY c) (bv7 F i) u)) (fW (eY c) (bv7 F i) u) (hF i hi) (J5 _)
  exact⟨h1,h2,h3,h4,au9 _ _ (hF i hi) (J5 _)⟩
 have aZ7:∀i,i<n->∀t,t<F i->B7 S (fW (eY c) (bv7 F i+t) u)=B7 S (fW (eY c) (bv7 F i) u):=fun i hi t=>by
  induction t with
  |zero=>intro _;rfl
  |succ t ih=>intro ht;rw[<-Dn i hi t ht];exact ih oM
 have IW:∀i,i<n->∀t,t<F i->fW (eY c) (bv7 F i+t) u=cV (sg i) t:=fun i hi t=>by
  obtain⟨h1,h2,h3,h4,h5⟩:=Fe i hi
  induction t with
  |zero=>intro _;rw[jN,h5]
  |succ t ih=>
   intro ht
   have e:=ih oM
   have hk:=aZ7 i hi (t+1) ht
   unfold B7 at hk
   injection hk with Yo hk2
   have lI:=rH (sg i) t
   have hn:=hNu (bv7 F i+t)
   have AF:fW (eY c) (bv7 F i+(t+1)) u=eY c (fW (eY c) (bv7 F i+t) u):=rfl
   have ex:=hn.2.2.1
   have ey:=hn.2.2.2.1
   rw[<-AF,e]at ex ey
   have ed:(fW (eY c) (bv7 F i+(t+1)) u).d=(sg i).dir:=by rw[Yo,h2]
   generalize fW (eY c) (bv7 F i+(t+1)) u=v at *
   obtain⟨vx,vy,vd⟩:=v
   unfold cV at ex ey|-
   simp only at ex ey ed
   rw[lI.1,lI.2,ex,ey,ed]
 have aP8:∀i,i<n->eY c (cV (sg i) (F i-1))=cV (sg ((i+1)%n)) 0:=fun i hi=>by
  have h0:=hF i hi
  rw[<-IW i hi (F i-1) oM]
  have hm:(i+1)%n<n:=aV _ n0
  show fW (eY c) (bv7 F i+(F i-1)+1) u=_
  rw[show bv7 F i+(F i-1)+1=bv7 F (i+1) by rw[bv7];omega,(Fe _ hm).2.2.2.2]
  by_cases q:i+1<n
  .rw[aT q]
  .rw[show i+1=n by omega,mY,BQ,hPu.2.1];rfl
 have Xw:∀i,i<n->B7 S (cV (sg i) (F i-1))≠B7 S (cV (sg ((i+1)%n)) 0):=fun i hi=>by
  have h0:=hF i hi
  have hm:(i+1)%n<n:=aV _ n0
  rw[<-IW i hi (F i-1) oM,(Fe _ hm).2.2.2.2]
  by_cases q:i+1<n
  .rw[aT q];exact aI3 i q
  .rw[show i+1=n by omega,mY]
   have e:bv7 F i+(F i-1)=L-1:=by
    have:bv7 F (i+1)=L:=by rw[show i+1=n by omega,BQ]
    rw[bv7]at this;omega
   rw[e]
   rw[wJ]at hch
   exact of_decide_eq_false hch
 have hEl:((cI n).map sg).length=n:=sP
 have hEg:∀i,i<n->((cI n).map sg).getD i Γ=sg i:=fun i hi=>rJ sg hi
 refine⟨(cI n).map sg,?_,?_,?_,?_,?_,?_,?_,?_⟩
 .
  rw[hEl]
  have hdir:∀e,e<4->∃i,i<n/\(sg i).dir=e:=fun e he=>by
   obtain⟨j,hj,hjd⟩:=ym hbu hL hPu.2.1 e he
   have:∃i t,i<n/\t<F i/\j=bv7 F i+t:=by
    have:∀m,j<bv7 F m->∃i t,i<m/\t<F i/\j=bv7 F i+t:=by
     intro m
     induction m with
     |zero=>intro h;unfold bv7 at h;omega
     |succ m ih=>
      intro h
      rw[bv7]at h
      by_cases q:j<bv7 F m
      .obtain⟨i,t,a,b,d⟩:=ih q
       exact⟨i,t,oM,b,d⟩
      .exact⟨m,j-bv7 F m,oM,oM,oM⟩
    exact this n (by rw[BQ];exact hj)
   obtain⟨i,t,hi,ht,rfl⟩:=this
   rw[IW i hi t ht]at hjd
   exact⟨i,hi,hjd⟩
  obtain⟨i0,a0,b0⟩:=hdir 0 dD
  obtain⟨i1,a1,b1⟩:=hdir 1 dD
  obtain⟨i2,a2,b2⟩:=hdir 2 dD
  obtain⟨i3,a3,b3⟩:=hdir 3 dD
  have n01:i0≠i1:=fun e=>by rw[e]at b0;omega
  have n02:i0≠i2:=fun e=>by rw[e]at b0;omega
  have n03:i0≠i3:=fun e=>by rw[e]at b0;omega
  have n12:i1≠i2:=fun e=>by rw[e]at b1;omega
  have n13:i1≠i3:=fun e=>by rw[e]at b1;omega
  have n23:i2≠i3:=fun e=>by rw[e]at b2;omega
  omega
 .intro j hj
  rw[hEl]at hj|-
  have hm:(j+1)%n<n:=aV _ n0
  rw[hEg j hj,hEg _ hm,<-Mj,<-DI]
  have h1:=aP8 j hj
  have h0:=hF j hj
  have hw:=IW j hj (F j-1) oM
  have hn:=hNu (bv7 F j+(F j-1))
  rw[hw]at hn
  have lI:=rH (sg j) (F j-1)
  rw[show F j-1+1=F j by omega]at lI
  rw[h1]at hn
  rw[(Fe j hj).1,lI.1,lI.2]
  exact Prod.ext hn.2.2.1.symm hn.2.2.2.1.symm
 .intro j hj
  rw[hEl]at hj
  rw[hEg j hj]
  exact(Fe j hj).2.2.2.1
 .have e:((cI n).map sg).flatMap sE=jX (eY c) u L:=by
   rw[List.flatMap_map]
   have:(cI n).flatMap (fun i=>sE (sg i))=(cI n).flatMap fun i=>(cI (F i)).map fun t=>fW (eY c) (bv7 F i+t) u:=by
    rw[fT,fT]
    congr 1
    refine eB fun i hi=>?_
    rw[xS]at hi
    unfold sE
    rw[(Fe i hi).1]
    exact eB fun t ht=>(IW i hi t (List.mem_range.1 ht)).symm
   rw[this,yn (fun k=>fW (eY c) k u),BQ]
   rfl
  rw[e,<-ZS]
  unfold Eo
  exact(List.perm_append_comm).trans (by rw[List.take_append_drop])
 .intro j hj
  rw[hEl]at hj|-
  rw[hEg j hj,hEg _ (aV _ n0),(Fe j hj).1]
  exact aP8 j hj
 .intro j hj
  rw[hEl]at hj|-
  have hm:(j+1)%n<n:=aV _ n0
  rw[hEg j hj,hEg _ hm]
  have h:=Xw j hj
  have h0:=hF j hj
  have e1:B7 S (cV (sg j) (F j-1))=((sg j).dir,(sg j).side):=by
   rw[<-IW j hj _ oM,aZ7 j hj _ oM]
   unfold B7
   rw[(Fe j hj).2.1,(Fe j hj).2.2.1]
  have e2:B7 S (cV (sg ((j+1)%n)) 0)=((sg ((j+1)%n)).dir,(sg ((j+1)%n)).side):=by
   rw[(Fe _ hm).2.2.2.2]
   unfold B7
   rw[(Fe _ hm).2.1,(Fe _ hm).2.2.1]
  rw[e1,e2]at h
  by_cases q:(sg j).dir=(sg ((j+1)%n)).dir
  .exact .inr fun e=>h (by rw[q,e])
  .exact .inl q
 .intro j t hj ht
  rw[hEl]at hj
  rw[hEg j hj]at ht|-
  rw[(Fe j hj).1]at ht
  have hk:=aZ7 j hj t ht
  unfold B7 at hk
  injection hk with Yo hk2
  rw[<-IW j hj t ht,hk2,(Fe j hj).2.2.1]
 .unfold fF
  rw[bs3,ZS,DN]
  have hR:=LP (S:=S) (xs:=xs) (ys:=ys) (l:=jX (eY c) u L) (W:=fun i t=>cV (sg i) t) (L:=F) (n:=n) hF
   (fun i hi t ht=>by rw[qF (hlt i t hi ht)];exact IW i hi t ht)
   (fun i hi t ht=>by
    rw[<-IW i hi t oM,<-IW i hi (t+1) ht,wJ]
    exact decide_eq_true (Dn i hi t ht))
   (fun i hi=>by
    have:=Xw i oM
    rw[aT hi]at this
    rw[wJ]
    exact decide_eq_false this) n (θ _)
  rw[BQ]at hR
  rw[hR,eH]
  refine eB fun i hi=>?_
  rw[xS]at hi
  show _=uG xs ys (sg i)
  unfold uG
  rw[(Fe i hi).1,(Fe i hi).2.2.2.2,(Fe i hi).2.2.1]
end
def av0(fs:List Fr)(at' xs ys:List (List UInt8))(ls:List Lp)(s:Sg):Prop:=
 ∃t:Nat,s.side=t/\t<fs.length/\∃p∈ls.flatMap Lp.ps,p.side=t/\A6 (eP fs at' xs ys p) (cV s 0).x (cV s 0).y (cV s 0).d
theorem aK2(c:Int->Int->Bool)(x y d):sA (fun i k=>if c i k=ι then 1 else 0) x y d=if pv c x y d=ι then 1 else 0:=by
 match d with
 |0=>rfl
 |1=>rfl
 |2=>rfl
 |d+3=>rfl
theorem aK3(c:Int->Int->Bool)(x y d):sK (fun i k=>if c i k=ι then 1 else 0) x y d=if rgt c x y d=ι then 1 else 0:=by
 match d with
 |0=>rfl
 |1=>rfl
 |2=>rfl
 |d+3=>rfl
theorem Qa(rl:List (α×List Sg))(r)(hr:r<rl.length):∃y∈rl,(rl.map (·.2)).getD r []=y.2:=
 ⟨rl[r],List.getElem_mem _,by simp[Ω,hr]⟩
theorem av1{c:Int->Int->Bool}{X Y:Nat}(hc:tG c X Y){S:WL}{xs ys:List (List UInt8)}{rl:List (List Wy×List Sg)}(hR:∀y∈rl,Ua c S xs ys y.1 y.2)(hb:∀w∈(rl.map (·.1)).flatten,eX c w=ι)(hnd:(rl.map (·.1)).flatten.Nodup)(ye:∀w,eX c w=ι->w∈(rl.map (·.1)).flatten):uF (rl.map (·.2)) X Y/\(∀i k,dK X Y (rl.map (·.2)).flatten i k=c i k)/\∀w:Wy,w.d<4->((rl.map (·.2)).flatten.flatMap sE).count w=if eX c w=ι then 1 else 0:=by
 obtain⟨EL,hEL⟩:=nm (rl.map (·.2));have hlen:EL.length=rl.length:=by rw[<-hEL,υ]
 have Mc:∀r,r<EL.length->∃l,(∀w∈l,eX c w=ι)/\Ua c S xs ys l (EL.getD r []):=fun r hr=>by
  obtain⟨y,hy,e⟩:=Qa rl r oM;rw[hEL]at e;exact⟨y.1,fun w hw=>hb w (List.mem_flatten.2 ⟨y.1,dC hy,hw⟩),by rw[e];exact hR y hy⟩
 have Zs:∀r,r<EL.length->∀j,j<(EL.getD r []).length->∀t,t<((EL.getD r []).getD j Γ).len->eX c (cV ((EL.getD r []).getD j Γ) t)=ι:=fun r hr j hj t ht=>by
  obtain⟨l,h1,h2⟩:=Mc r hr;exact h1 _ (h2.ways.mem_iff.1 (List.mem_flatMap.2 ⟨_,aN hj Γ,KO.2 ⟨t,ht,rfl⟩⟩))
 have lj:∀r,r<EL.length->∀j,j<(EL.getD r []).length->0<((EL.getD r []).getD j Γ).len:=fun r hr j hj=>by
  obtain⟨l,-,h2⟩:=Mc r hr;have:=h2.long j hj;unfold Sg.len;omega
 have av2:∀s∈EL.flatten,iT X Y s:=fun s hs=>by
  obtain⟨E,hE,bn⟩:=List.mem_flatten.1 hs;obtain⟨r,hr,rfl⟩:=List.mem_iff_getElem.1 hE;obtain⟨j,hj,rfl⟩:=List.mem_iff_getElem.1 bn;have er:EL[r]=EL.getD r []:=by simp[Ω,hr]
  have ej:EL[r][j]=(EL.getD r []).getD j Γ:=by rw[<-er];simp[Ω,hj]
  rw[er]at hj;rw[ej];obtain⟨l,h1,h2⟩:=Mc r hr;have hm:(j+1)%(EL.getD r []).length<(EL.getD r []).length:=aV _ oM;have b1:=Ca.1 (zZ hc (Zs r hr j hj 0 (lj r hr j hj)));have b2:=Ca.1 (zZ hc (Zs r hr _ hm 0 (lj r hr _ hm)));have g1:=DI ((EL.getD r []).getD j Γ);have g2:=h2.ring j hj;rw[<-DI]at g2;unfold cV at b1 b2;simp only at b1 b2;generalize(EL.getD r []).getD j Γ=s at *;generalize(EL.getD r []).getD ((j+1)%(EL.getD r []).length) Γ=q at *;have e1:=congrArg Bl g1;have e2:=congrArg Bm g1;have e3:=congrArg Bl g2;have e4:=congrArg Bm g2;simp only at e1 e2 e3 e4;unfold Sg.st at e1 e2;unfold Sg.en at e3 e4;unfold iT;cases hu:s.up<;>simp only[hu,if_true,if_false,aK]at e1 e2 e3 e4<;>refine⟨oM,oM,oM,?_,?_⟩<;>intro h<;>first |exact absurd h dD|omega
 have AU:(EL.flatten.flatMap sE).Perm (rl.map (·.1)).flatten:=by
  have e1:EL.flatten.flatMap sE=rl.flatMap fun y=>y.2.flatMap sE:=by
   rw[<-hEL,<-fT,List.flatMap_assoc]
  have e2:(rl.map (·.1)).flatten=rl.flatMap fun y=>y.1:=by rw[<-fT]
  rw[e1,e2];exact Jg fun y hy=>(hR y hy).ways
 have av3:∀w:Wy,w.d<4->(EL.flatten.flatMap sE).count w=if eX c w=ι then 1 else 0:=fun w _=>by
  rw[AU.count_eq,List.Nodup.count hnd];by_cases q:eX c w=ι
  .rw[ip (ye w q),ip q]
  .rw[iN fun h=>q (hb w h),iN q]
 have aP9:=cu hc av2 av3;have hW:bF EL.flatten=fun i k=>if c i k=ι then 1 else 0:=by funext i k;exact aP9 i k
 have ring:∀r,r<EL.length->oZ (EL.getD r []):=fun r hr=>by obtain⟨l,-,h2⟩:=Mc r hr;exact h2.ring
 have rings:∀l∈EL,oZ l:=fun l hl=>by
  obtain⟨r,hr,rfl⟩:=List.mem_iff_getElem.1 hl;have:=ring r hr;rwa[show EL.getD r []=EL[r] by simp[Ω,hr]]at this
 have oV:∀i k,dK X Y EL.flatten i k=c i k:=fun i k=>by
  rw[Jc rings av2,aP9];cases c i k<;>rfl
 have ru:dK X Y EL.flatten=c:=by funext i k;exact oV i k
 rw[hEL];refine⟨⟨ring,fun r hr=>?_,fun r hr=>?_,av2,fun r j t hr hj ht=>?_,fun r j hr hj=>?_,fun r j hr hj=>?_⟩,oV,av3⟩
 .obtain⟨l,-,h2⟩:=Mc r hr;have:=h2.four;omega
 .obtain⟨l,-,h2⟩:=Mc r hr;exact h2.long
 .have h1:=Zs r hr j hj t ht;unfold eX bor at h1;rw[aI,aI,bX]at h1;rw[hW,aK2,aK3];obtain⟨-,h2,h3⟩:=h1;unfold cV at h2 h3;simp only at h2 h3;rw[ip h2,iN (by rw[h3];decide)];exact⟨rfl,rfl⟩
 .obtain⟨l,-,h2⟩:=Mc r hr;rw[ru];exact h2.turn j hj
 .obtain⟨l,-,h2⟩:=Mc r hr;exact h2.diff j hj
theorem OJ{dx dy:List (List UInt8)}(h:wW fs at' ls dx dy)(ha:oI fs at' ls ν=ι):
 ∃ EL:List (List Sg),DA fs at' (aH dx) (aH dy) ls=EL.map (oO (uG (aH dx) (aH dy)))/\uF EL (aH dx).length (aH dy).length/\(∀ E∈EL,4<=E.length)/\(∀ s∈EL.flatten,av0 fs at' (aH dx) (aH dy) ls s)/\
  (∀ i k,dK (aH dx).length (aH dy).length EL.flatten i k=kV fs at' (aH dx) (aH dy) ls i k)/\
  (∀ s∈EL.flatten,∀ t,t < s.len->eX (kV fs at' (aH dx) (aH dy) ls) (cV s t)=ι/\nO (xO fs at' (aH dx) (aH dy) ls) (cV s t)=ζ s.side)/\
  ∀ w:Wy,w.d < 4->(EL.flatten.flatMap sE).count w=if eX (kV fs at' (aH dx) (aH dy) ls) w=ι then 1 else 0:=by
 obtain⟨xs,hxs⟩:=nm (aH dx);obtain⟨ys,hys⟩:=nm (aH dy);have O6:∀ w,eX (kV fs at' xs ys ls) w=ι->∃ t:Nat,nO (xO fs at' xs ys ls) w=ζ (t:Int)/\t < fs.length/\∃ p∈ls.flatMap Lp.ps,p.side=t/\A6 (eP fs at' xs ys p) w.x w.y w.d:=fun w hw=>by
  rw [<- hxs,<- hys] at hw |-;exact EA h ha hw
 rw [hxs,hys];have hc:=Ae fs at' xs ys ls;have yR:=wL hc (oR xs.length ys.length);have ye:=OB hc (oR xs.length ys.length);unfold DA;obtain⟨S,hS⟩:=nm (TE (xO fs at' xs ys ls) xs.length ys.length);rw [hS];obtain⟨c,hcc⟩:=nm (kV fs at' xs ys ls);rw [hcc] at hc yR ye O6 |-;generalize AF:jK c (oR xs.length ys.length)=st at *;obtain⟨rl,e1,e2⟩:=Fb (P:=fun (l:List Wy) (E:List Sg)=>Ua c S xs ys l E) (L:=st.2) fun l hl=>by
  obtain⟨-,w,hb,rfl⟩:=yR.pos l hl;obtain⟨k,hk,-⟩:=GY hc hb;rw [uY hk];exact aK1 S xs ys hb hk
 have hall:=yR.all;rw [<- e1] at hall;obtain⟨hB,oV,aK4⟩:=av1 hc (rl:=rl) e2 (fun w hw=>yR.bor w (by rw [hall];exact hw)) (by rw [<- hall];exact yR.nd) (fun w hw=>by rw [<- hall];exact ye w (zZ hc hw) hw);have BO:∀ s∈(rl.map (·.2)).flatten,(0 < s.len)/\∀ t,t < s.len->eX c (cV s t)=ι/\rU S (cV s t)=s.side:=fun s hs=>by
  obtain⟨E,hE,bn⟩:=List.mem_flatten.1 hs;obtain⟨y,hy,rfl⟩:=List.mem_map.1 hE;have hRy:=e2 y hy;obtain⟨j,hj,rfl⟩:=List.mem_iff_getElem.1 bn;have ej:y.2[j]=y.2.getD j Γ:=by simp [Ω,hj]
  rw [ej];have hl:=hRy.long j hj;refine⟨by unfold Sg.len;omega,fun t ht=>⟨?_,hRy.side j t hj ht⟩⟩;refine yR.bor _ ?_;rw [hall];exact List.mem_flatten.2 ⟨y.1,dC hy,hRy.ways.mem_iff.1 (List.mem_flatMap.2 ⟨_,aN hj Γ,KO.2 ⟨t,ht,rfl⟩⟩)⟩
 have Ib:∀ s∈(rl.map (·.2)).flatten,∀ t,t < s.len->eX c (cV s t)=ι/\nO (xO fs at' xs ys ls) (cV s t)=ζ s.side:=fun s hs t ht=>by
  obtain⟨h0,h1⟩:=BO s hs;obtain⟨h2,h3⟩:=h1 t ht;refine⟨h2,?_⟩;obtain⟨k,hk,-⟩:=O6 _ h2;rw [<- hS,I6 (zZ hc h2)] at h3;unfold Wl at h3;rw [hk] at h3 |-;rw [bK] at h3;rw [h3]
 refine⟨rl.map (·.2),?_,hB,fun E hE=>?_,fun s hs=>?_,oV,Ib,aK4⟩
 .rw [<- e1,eH,eH];exact eB fun y hy=>(e2 y hy).parts
 .obtain⟨y,hy,rfl⟩:=List.mem_map.1 hE;exact(e2 y hy).four
 .obtain⟨h0,h1⟩:=BO s hs;obtain⟨h2,h3⟩:=Ib s hs 0 h0;obtain⟨k,k1,k2,p,hp,k3,k4⟩:=O6 _ h2;rw [k1] at h3;injection h3 with h3;exact⟨k,h3.symm,k2,p,hp,k3,k4⟩
theorem Jj{back:Bool}(h:if back=ι then s.b<=s.a else s.a<=s.b)(hl:s.a≠s.b):s.dir=Er s.up back:=by
 unfold Sg.dir Er;cases back<;>cases s.up<;>simp only[aK,if_false,if_true]at h|-<;>split <;>first |rfl|omega
theorem aK5(hd:w.d<4)(h:A6 s w.x w.y w.d):s.dir=w.d/\s.a≠s.b:=by
 obtain⟨t,ht,-,-,e⟩:=vD hd h;refine⟨e,?_⟩;unfold Sg.len at ht;omega
theorem av4{q:Sg}(hl:0<q.len)(h:A6 s (cV q 0).x (cV q 0).y (cV q 0).d):s.up=q.up/\s.line=q.line:=by
 have AF:=DI q;have hd:=qG q;have J5:=q.dir_lt;unfold cV at h;simp only at h;have e1:=congrArg Bl AF;have e2:=congrArg Bm AF;simp only at e1 e2;rw[e1,e2]at h;unfold Sg.st at h;have h4:q.dir=0\/q.dir=1\/q.dir=2\/q.dir=3:=oM;cases hu:q.up<;>simp only[hu,aK,if_false,if_true]at h hd<;>rcases h4 with e|e|e|e<;>rw[e]at h hd<;>first |omega |(unfold A6 at h;exact⟨h.1,h.2.1⟩)
section
variable{fs:List Fr}{at' xs ys:List (List UInt8)}{ls:List Lp}
theorem aK6(hx:nX xs)(hy:nX ys)(Ts:∀s∈xs,Nm s)(VY:∀s∈ys,Nm s)(hp:∀p∈ls.flatMap Lp.ps,pV fs at' xs ys p)(hg:iT xs.length ys.length s)(hl:s.a≠s.b)(h:av0 fs at' xs ys ls s):
 eP fs at' xs ys (uG xs ys s)=s/\pV fs at' xs ys (uG xs ys s)/\(fs.getD (uG xs ys s).side.toNat Γ).up=s.up/\qJ (fs.getD (uG xs ys s).side.toNat Γ)=s.dir/\0<uA fs (uG xs ys s):=by
 obtain⟨t,AF,ht,p,hpm,lI,PQ⟩:=h
 have hlen:0<s.len:=by unfold Sg.len;omega
 obtain⟨hup,LR⟩:=av4 hlen PQ
 have hI:=hp p hpm
 have il:=Ew hx hy Ts VY hI
 obtain⟨hdir,CW⟩:=aK5 (w:=cV s 0) s.dir_lt PQ
 have hdir:(eP fs at' xs ys p).dir=s.dir:=hdir
 rw[Jj il CW]at hdir
 have hDF:=NP (fs.getD p.side.toNat Γ)
 obtain⟨-,JK,hIy,-,hId,-⟩:=hI
 have hpt:p.side.toNat=t:=by rw[lI];rfl
 have Ii:(uG xs ys s).side.toNat=t:=by show s.side.toNat=t;rw[AF];rfl
 rw[Ii]
 rw[hpt]at il hDF hId hdir
 have h1:=DI s
 have h2:=Mj s
 have h3:=rH s (s.len-1)
 rw[show s.len-1+1=s.len by omega]at h3
 have e1:=congrArg Bl h1
 have e2:=congrArg Bm h1
 have e3:=congrArg Bl h2
 have e4:=congrArg Bm h2
 simp only at e1 e2 e3 e4
 have hd:=qG s
 have hfr:(uG xs ys s).fr=if s.up=ι then ys.getD s.a.toNat []else xs.getD s.a.toNat []:=by
  unfold uG Yp wH cV
  simp only
  rw[e1,e2,hd]
  unfold Sg.st
  cases s.up<;>simp
 have hen:(uG xs ys s).en=if s.up=ι then ys.getD s.b.toNat []else xs.getD s.b.toNat []:=by
  unfold uG Ux wH cV
  simp only
  rw[<-h3.1,<-h3.2,e3,e4,hd]
  unfold Sg.en
  cases s.up<;>simp
 obtain⟨g1,g2,g3,g4,g5⟩:=hg
 have hpu:(eP fs at' xs ys p).up=(fs.getD t Γ).up:=by
  unfold eP;rw[hpt];cases(fs.getD t Γ).up<;>simp
 have cw:(fs.getD t Γ).up=s.up:=by rw[<-hpu,hup]
 rw[hpu]at hdir hup
 have hdF:qJ (fs.getD t Γ)=s.dir:=by rw[hDF,<-hdir]
 have PI:Ev (fs.getD t Γ)=decide (s.b<s.a):=by
  have J5:=hdir
  rw[cw]at J5
  unfold Er Sg.dir at J5
  cases hu:s.up<;>cases hb:Ev (fs.getD t Γ)<;>simp only[hu,hb,aK,if_false,if_true]at J5<;>(split at J5)<;>first |(exfalso;omega)|(symm;rw[decide_eq_true_iff];omega)|(symm;rw[decide_eq_false_iff_not];omega)
 cases hu:s.up
 .
  rw[hu]at cw
  simp only[hu,aK,if_false]at hfr hen
  obtain⟨b1,b2,b3⟩:=g5 hu
  have uE:at'.getD t []∈ys/\(oK ys (at'.getD t []):Int)=s.line:=by
   unfold bA at hIy
   unfold eP at LR
   rw[hpt,cw]at hIy LR
   simp only[aK,if_false]at hIy LR
   exact⟨hIy,LR⟩
  have ia:(oK xs (xs.getD s.a.toNat []):Int)=s.a:=by rw[Fw hx oM];omega
  have ib:(oK xs (xs.getD s.b.toNat []):Int)=s.b:=by rw[Fw hx oM];omega
  have ma:xs.getD s.a.toNat []∈xs:=aN oM []
  have mb:xs.getD s.b.toNat []∈xs:=aN oM []
  have ZJ:0<uA fs (uG xs ys s):=by
   unfold uA
   rw[Ii,NQ hId,PI,hfr,hen]
   have l1:=uZ hx ma mb
   have l2:=uZ hx mb ma
   have c1:=(Ts _ mb).lt (Ts _ ma)
   have c2:=(Ts _ ma).lt (Ts _ mb)
   have hc:=(Ts _ mb).cmp (Ts _ ma)
   by_cases q:s.b<s.a
   .rw[decide_eq_true q,ip rfl]
    have:=c1.2 (l2.1 oM)
    omega
   .rw[decide_eq_false q,iN dD]
    have h5:bZ (xs.getD s.a.toNat [])<bZ (xs.getD s.b.toNat []):=l1.1 oM
    rw[hc]
    have h6:∀x y:Rat,y<x->0<mT x y*1:=fun x y hxy=>by
     unfold mT;rw[iN (by grind),ip (by grind)];decide
    exact h6 _ _ h5
  refine⟨?_,⟨⟨t,AF,ht⟩,?_,?_,?_,by rw[Ii];exact hId,Int.le_of_lt ZJ⟩,cw,hdF,ZJ⟩
  .unfold eP
   rw[Ii,cw,hfr,hen,uE.2,ia,ib]
   obtain⟨sd,up,l,a,b⟩:=s
   simp only at hu
   subst hu
   rfl
  .unfold bA;rw[Ii,cw,hfr];exact ma
  .unfold bA;rw[Ii,cw];exact uE.1
  .rw[Ii,cw,hen];exact mb
 .rw[hu]at cw
  simp only[hu,if_true]at hfr hen
  obtain⟨b1,b2,b3⟩:=g4 hu
  have uE:at'.getD t []∈xs/\(oK xs (at'.getD t []):Int)=s.line:=by
   unfold bA at JK
   unfold eP at LR
   rw[hpt,cw]at JK LR
   simp only[if_true]at JK LR
   exact⟨JK,LR⟩
  have ia:(oK ys (ys.getD s.a.toNat []):Int)=s.a:=by rw[Fw hy oM];omega
  have ib:(oK ys (ys.getD s.b.toNat []):Int)=s.b:=by rw[Fw hy oM];omega
  have ma:ys.getD s.a.toNat []∈ys:=aN oM []
  have mb:ys.getD s.b.toNat []∈ys:=aN oM []
  have ZJ:0<uA fs (uG xs ys s):=by
   unfold uA
   rw[Ii,NQ hId,PI,hfr,hen]
   have l1:=uZ hy ma mb
   have l2:=uZ hy mb ma
   have c1:=(VY _ mb).lt (VY _ ma)
   have hc:=(VY _ mb).cmp (VY _ ma)
   by_cases q:s.b<s.a
   .rw[decide_eq_true q,ip rfl]
    have:=c1.2 (l2.1 oM)
    omega
   .rw[decide_eq_false q,iN dD]
    have h5:bZ (ys.getD s.a.toNat [])<bZ (ys.getD s.b.toNat []):=l1.1 oM
    rw[hc]
    have h6:∀x y:Rat,y<x->0<mT x y*1:=fun x y hxy=>by
     unfold mT;rw[iN (by grind),ip (by grind)];decide
    exact h6 _ _ h5
  refine⟨?_,⟨⟨t,AF,ht⟩,?_,?_,?_,by rw[Ii];exact hId,Int.le_of_lt ZJ⟩,cw,hdF,ZJ⟩
  .unfold eP
   rw[Ii,cw,hfr,hen,uE.2,ia,ib]
   obtain⟨sd,up,l,a,b⟩:=s
   simp only at hu
   subst hu
   rfl
  .unfold bA;rw[Ii,cw];exact uE.1
  .unfold bA;rw[Ii,cw,hfr];exact ma
  .rw[Ii,cw,hen];exact mb
end
theorem na{f g:Fr}(hf:f.dir=1\/f.dir= -1)(hg:g.dir=1\/g.dir= -1)(h:qJ f=qJ g):f.dir=g.dir:=by
 obtain⟨fu,_,fd,_,_⟩:=f;obtain⟨gu,_,gd,_,_⟩:=g;unfold qJ at h;simp only at hf hg h|-;rcases hf with rfl|rfl<;>rcases hg with rfl|rfl<;>cases fu<;>cases gu<;>simp at h<;>rfl
section
variable{fs:List Fr}{at' xs ys:List (List UInt8)}{ls:List Lp}
theorem nc(hs:eP fs at' xs ys (uG xs ys s)=s)(hI:pV fs at' xs ys (uG xs ys s))(hu:(fs.getD (uG xs ys s).side.toNat Γ).up=s.up):
 at'.getD (uG xs ys s).side.toNat []=if s.up=ι then xs.getD s.line.toNat []else ys.getD s.line.toNat []:=by
 obtain⟨-,h1,h2,-,-,-⟩:=hI;unfold bA at h1 h2;have h3:=congrArg Sg.line hs;unfold eP at h3;rw[hu]at h1 h2 h3;cases hs2:s.up<;>simp only[hs2,aK,if_false,if_true]at h1 h2 h3|-
 .rw[<-h3,gG,pB h2]
 .rw[<-h3,gG,pB h1]
theorem ng(xs ys)(hl:s.a≠s.b):(uG xs ys s).fr=(if s.up=ι then ys.getD s.a.toNat []else xs.getD s.a.toNat [])/\(uG xs ys s).en=(if s.up=ι then ys.getD s.b.toNat []else xs.getD s.b.toNat []):=by
 have hlen:0<s.len:=by unfold Sg.len;omega
 have h1:=DI s;have h2:=Mj s;have h3:=rH s (s.len-1);rw[show s.len-1+1=s.len by omega]at h3;have e1:=congrArg Bl h1;have e2:=congrArg Bm h1;have e3:=congrArg Bl h2;have e4:=congrArg Bm h2;simp only at e1 e2 e3 e4;have hd:=qG s;constructor
 .unfold uG Yp wH cV;simp only;rw[e1,e2,hd];unfold Sg.st;cases s.up<;>simp
 .unfold uG Ux wH cV;simp only;rw[<-h3.1,<-h3.2,e3,e4,hd];unfold Sg.en;cases s.up<;>simp
theorem yq{EL:List (List Sg)}(hB:uF EL xs.length ys.length)(h4:∀E∈EL,4<=E.length)(hP:∀s∈EL.flatten,eP fs at' xs ys (uG xs ys s)=s/\pV fs at' xs ys (uG xs ys s)/\(fs.getD (uG xs ys s).side.toNat Γ).up=s.up/\qJ (fs.getD (uG xs ys s).side.toNat Γ)=s.dir/\0<uA fs (uG xs ys s))(right):
 ∀E∈EL,oH fs at' (E.map (uG xs ys)) right =ι:=by
 intro E hE;obtain⟨r,hr,rfl⟩:=List.mem_iff_getElem.1 hE;have er:EL[r]=EL.getD r []:=by simp[Ω,hr]
 have hlen:=h4 _ hE;rw[er]at hlen|-;have XD:=hB.ring r hr;have Si:=hB.long r hr;have mG:∀j,j<(EL.getD r []).length->(EL.getD r []).getD j Γ∈EL.flatten:=fun j hj=>List.mem_flatten.2 ⟨_,aN hr [],aN hj Γ⟩;have Sj:=fun j hj=>rE (hB.bord hr (j:=j) hj (t:=((EL.getD r []).getD j Γ).len-1) (by have:=hB.len0 hr hj;omega));have FU:=fun j hj=>hB.turn r j hr hj;generalize EL.getD r []=E at *;unfold oH;rw[υ,aI,aI,decide_eq_true_eq,bX,bX];refine⟨⟨hlen,bJ.2 fun i hi=>?_⟩,bJ.2 fun i hi=>?_⟩
 .unfold Za;rw[kX _ _ hi];obtain⟨-,⟨⟨t,ht1,UH⟩,-,-,-,-,-⟩,-,-,ha⟩:=hP _ (mG i hi);unfold BN;rw[decide_eq_true (show 0<=(uG xs ys (E.getD i Γ)).side by omega),decide_eq_true (show(uG xs ys (E.getD i Γ)).side<fs.length by omega),decide_eq_false oM,decide_eq_false oM,Bool.and_false];rfl
 .unfold Zb;have hm:(i+1)%E.length<E.length:=aV _ oM;rw[υ,kX _ _ hi,kX _ _ hm];have GG:=XD i hi;have hti:=Sj i hi;rw[FU i hi]at hti;have hdt:(E.getD ((i+1)%E.length) Γ).dir=(E.getD i Γ).dir\/(E.getD ((i+1)%E.length) Γ).dir=((E.getD i Γ).dir+1)%4\/(E.getD ((i+1)%E.length) Γ).dir=((E.getD i Γ).dir+3)%4:=hti.2.2.2.2;obtain⟨a1,a2,a3,a4,-⟩:=hP _ (mG i hi);obtain⟨b1,b2,b3,b4,-⟩:=hP _ (mG _ hm);obtain⟨c1,c2⟩:=ng xs ys (Si i hi);obtain⟨d1,d2⟩:=ng xs ys (Si _ hm);have l1:=nc a1 a2 a3;have l2:=nc b1 b2 b3;have p1:=qG (E.getD i Γ);have p2:=qG (E.getD ((i+1)%E.length) Γ);have k1:=(E.getD i Γ).dir_lt;generalize E.getD ((i+1)%E.length) Γ=q,E.getD i Γ=s at *;rw[vS];unfold AH;rw[a3,b3];unfold Sg.en Sg.st at GG;cases hs:s.up<;>cases hq:q.up<;>simp only[hs,hq,aK,if_false,if_true,bne_self_eq_false]at GG c1 c2 d1 d2 l1 l2 p1 p2|-
  .injection GG with e1 e2;have hd:s.dir=q.dir:=oM;have hf:=na a2.dir b2.dir (by rw[a4,b4,hd]);rw[hf,c2,d1,l1,l2,e1,e2];simp
  .injection GG with e1 e2;rw[c2,d1,l1,l2,e1,e2];simp
  .injection GG with e1 e2;rw[c2,d1,l1,l2,e1,e2];simp
  .injection GG with e1 e2;have hd:s.dir=q.dir:=oM;have hf:=na a2.dir b2.dir (by rw[a4,b4,hd]);rw[hf,c2,d1,l1,l2,e1,e2];simp
end
theorem uF.like{ls nh:List (List Sg)}(h:uF ls X Y)(hp:nh.flatten.Perm ls.flatten)(hr:∀r,r<nh.length->∃q k,q<ls.length/\(nh.getD r []).length=(ls.getD q []).length/\∀j,j<(nh.getD r []).length->(nh.getD r []).getD j Γ=(ls.getD q []).getD ((j+k)%(ls.getD q []).length) Γ):uF nh X Y:=by
 have hW:bF nh.flatten=bF ls.flatten:=by funext i k;exact Wt _ hp
 have hC:dK X Y nh.flatten=dK X Y ls.flatten:=LJ X Y hp;have hn:∀{n j k:Nat},j<n->((j+1)%n+k)%n=((j+k)%n+1)%n:=fun{n j k}hj=>by rw[eV,eV];congr 1;omega
 refine⟨fun r h1 j hj=>?_,fun r h1=>?_,fun r h1 j hj=>?_,fun s hs=>h.grid s (hp.mem_iff.1 hs),fun r j t h1 hj ht=>?_,fun r j h1 hj=>?_,fun r j h1 hj=>?_⟩;all_goals obtain⟨q,k,hq,hl,hg⟩:=hr r h1
 .have hm:(j+1)%(nh.getD r []).length<(nh.getD r []).length:=aV _ oM;rw[hg j hj,hg _ hm,hl,hn (by rw[<-hl];exact hj)];exact h.ring q hq _ (aV _ oM)
 .rw[hl];exact h.two q hq
 .rw[hg j hj];exact h.long q hq _ (aV _ oM)
 .rw[hg j hj]at ht|-;rw[hW];exact h.sides q _ t hq (aV _ oM) ht
 .have hm:(j+1)%(nh.getD r []).length<(nh.getD r []).length:=aV _ oM;rw[hg j hj,hg _ hm,hl,hn (by rw[<-hl];exact hj),hC];exact h.turn q _ hq (aV _ oM)
 .have hm:(j+1)%(nh.getD r []).length<(nh.getD r []).length:=aV _ oM;rw[hg j hj,hg _ hm,hl,hn (by rw[<-hl];exact hj)];exact h.diff q _ hq (aV _ oM)
def XE(φ:Nat->Nat)(n:Nat)(i:Int):Int:=if i<0 then φ 0+i else if i<n then φ i.toNat else φ (n-1)+(i-n+1)
theorem XF{φ:Nat->Nat}{n:Nat}(h:∀i j,i<j->j<n->φ i<φ j):P9 (XE φ n):=by
 intro i j Le;have h0:∀j,j<n->φ 0<=φ j:=fun j hj=>by
  by_cases c:j=0
  .subst c;exact θ _
  .exact fM (h 0 j oM hj)
 have h1:∀j,j<n->φ j<=φ (n-1):=fun j hj=>by
  by_cases c:j=n-1
  .subst c;exact θ _
  .exact fM (h j (n-1) oM oM)
 have a1:=h i.toNat j.toNat;have a2:=h0 j.toNat;have a3:=h1 i.toNat;have a4:n=0\/φ 0<=φ (n-1):=by
  by_cases c:n=0
  .exact .inl c
  .exact .inr (h0 (n-1) oM)
 unfold XE;by_cases c:n=0
 .subst c;have a5:φ (0-1)=φ 0:=rfl;(repeat' split)<;>omega
 . (repeat' split)<;>omega
section
variable{fs:List Fr}{at' xs ys Aw Fx:List (List UInt8)}{aZ:List Lp}
theorem KQ{t:List UInt8}(ht:t∈Aw):XE (fun i=>oK xs (Aw.getD i [])) Aw.length (oK Aw t)=oK xs t:=by
 have h:=vV ht;unfold XE;rw[iN oM,ip oM,gG];show((oK xs (Aw.getD (oK Aw t) []):Nat):Int)=_;rw[pB ht]
theorem ni(hx:nX xs)(hx':nX Aw)(hs:∀t∈Aw,t∈xs):∀i j,i<j->j<Aw.length->oK xs (Aw.getD i [])<oK xs (Aw.getD j []):=fun i j Le hj=>
 (uZ hx (hs _ (aN oM [])) (hs _ (aN hj []))).2 (GZ hx' hj Le)
theorem aK7(hx:nX xs)(hy:nX ys)(hx':nX Aw)(hy':nX Fx)(sx:∀t∈Aw,t∈xs)(sy:∀t∈Fx,t∈ys)(hp:∀p∈aZ.flatMap Lp.ps,pV fs at' Aw Fx p)(hg:∀s∈(eC fs at' Aw Fx aZ).flatten,iT Aw.length Fx.length s)(h:uF (eC fs at' xs ys aZ) xs.length ys.length):uF (eC fs at' Aw Fx aZ) Aw.length Fx.length:=by
 refine uF.pull (Φ:=XE (fun i=>oK xs (Aw.getD i [])) Aw.length) (Ψ:=XE (fun i=>oK ys (Fx.getD i [])) Fx.length) (XF (ni hx hx' sx)) (XF (ni hy hy' sy)) ?_ hg (X':=xs.length) (Y':=ys.length);have e:(eC fs at' Aw Fx aZ).map (oO (pW (XE (fun i=>oK xs (Aw.getD i [])) Aw.length) (XE (fun i=>oK ys (Fx.getD i [])) Fx.length)))=eC fs at' xs ys aZ:=by
  unfold eC;rw[eH];refine eB fun l hl=>?_;show(l.ps.map (eP fs at' Aw Fx)).map _=_;rw[eH];refine eB fun p CW=>?_;obtain⟨-,h1,h2,h3,-,-⟩:=hp p (List.mem_flatMap.2 ⟨l,hl,CW⟩);show pW _ _ (eP fs at' Aw Fx p)=eP fs at' xs ys p;unfold bA at h1 h2;unfold eP pW;by_cases hu:(fs.getD p.side.toNat Γ).up=ι
  .simp only[hu,if_true]at h1 h2 h3|-;rw[KQ h1,KQ h2,KQ h3]
  .simp only[hu,aK,if_false]at h1 h2 h3|-;rw[KQ h2,KQ h1,KQ h3]
 rw[e];exact h
end
structure Trd0(fs:List Fr)(at':List (List UInt8))(aZ:List Lp):Prop where
 brd:uF (eC fs at' (Cg fs at' aZ) (Ch fs at' aZ) aZ) (Cg fs at' aZ).length (Ch fs at' aZ).length
 part:∀p∈aZ.flatMap Lp.ps,pV fs at' (Cg fs at' aZ) (Ch fs at' aZ) p/\rX fs at' p/\0<uA fs p
 four:∀l∈aZ,4<=l.ps.length
 whole:∀right,oI fs at' aZ right =ι
structure Trd(fs:List Fr)(at':List (List UInt8))(aZ:List Lp):Prop extends Trd0 fs at' aZ where
 arr:sV fs at' (aZ.map Lp.ps)=aZ.map Lp.ps
section
variable{fs:List Fr}{at':List (List UInt8)}{aZ:List Lp}
theorem Trd0.nm(h:Trd0 fs at' aZ):(∀s∈Cg fs at' aZ,Nm s)/\(∀s∈Ch fs at' aZ,Nm s)/\nX (Cg fs at' aZ)/\nX (Ch fs at' aZ):=by
 have hx:∀s∈(aZ.flatMap Lp.ps).map fun p=>(bA fs at' p).x,Nm s:=fun s hs=>by obtain⟨p,hp,rfl⟩:=List.mem_map.1 hs;exact(h.part p hp).2.1.x
 have hy:∀s∈(aZ.flatMap Lp.ps).map fun p=>(bA fs at' p).y,Nm s:=fun s hs=>by obtain⟨p,hp,rfl⟩:=List.mem_map.1 hs;exact(h.part p hp).2.1.y
 obtain⟨a,b⟩:=gR hx;obtain⟨a2,b2⟩:=gR hy;exact⟨fun s hs=>hx s ((b s).1 hs),fun s hs=>hy s ((b2 s).1 hs),a,a2⟩
theorem Trd0.dis(h:Trd0 fs at' aZ):bk8 fs at' aZ:=by
 obtain⟨n1,n2,ax,ay⟩:=h.nm;intro r i q k hr hq hi hk hne;have hB:=h.brd;have hp:=h.part;generalize Ch fs at' aZ=ys,Cg fs at' aZ=xs at *;have hlen:(eC fs at' xs ys aZ).length=aZ.length:=by unfold eC;rw[υ]
 have hm1:(aZ.getD r Γ).ps.getD i Γ∈aZ.flatMap Lp.ps:=List.mem_flatMap.2 ⟨_,aN hr Γ,aN hi Γ⟩;have Bo:(aZ.getD q Γ).ps.getD k Γ∈aZ.flatMap Lp.ps:=List.mem_flatMap.2 ⟨_,aN hq Γ,aN hk Γ⟩;obtain⟨p1,-,d1⟩:=hp _ hm1;obtain⟨p2,-,d2⟩:=hp _ Bo;have e1:((eC fs at' xs ys aZ).getD r []).getD i Γ=eP fs at' xs ys ((aZ.getD r Γ).ps.getD i Γ):=by rw[iM,kX _ _ hi]
 have e2:((eC fs at' xs ys aZ).getD q []).getD k Γ=eP fs at' xs ys ((aZ.getD q Γ).ps.getD k Γ):=by rw[iM,kX _ _ hk]
 have U7:i<((eC fs at' xs ys aZ).getD r []).length:=by rw[iM,υ];exact hi
 have Yj:k<((eC fs at' xs ys aZ).getD q []).length:=by rw[iM,υ];exact hk
 have l1:=hB.len0 (by rw[hlen];exact hr) U7;have l2:=hB.len0 (by rw[hlen];exact hq) Yj;have hu:=hB.uniq (by rw[hlen];exact hr) (by rw[hlen];exact hq) U7 Yj l1 l2;rw[e1,e2]at hu;rw[e1]at l1;rw[e2]at l2;generalize(aZ.getD r Γ).ps.getD i Γ=p at *;generalize(aZ.getD q Γ).ps.getD k Γ=p' at *;refine aG fun Q8=>?_;rw[not_or]at Q8;have hal:bZ (bA fs at' p).x=bZ (bA fs at' p').x/\bZ (bA fs at' p).y=bZ (bA fs at' p').y/\p.side=p'.side:=by
  unfold G6 Dz at Q8;grind
 obtain⟨q1,q2,q3⟩:=hal;have ex:(bA fs at' p).x=(bA fs at' p').x:=by
  rw[<-(n1 _ p1.x).eq,<-(n1 _ p2.x).eq,q1]
 have ey:(bA fs at' p).y=(bA fs at' p').y:=by
  rw[<-(n2 _ p1.y).eq,<-(n2 _ p2.y).eq,q2]
 have sb1:=Ew ax ay n1 n2 p1;have sb2:=Ew ax ay n1 n2 p2;have hdir:(eP fs at' xs ys p).dir=(eP fs at' xs ys p').dir:=by
  rw[Jj sb1 (by unfold Sg.len at l1;omega),Jj sb2 (by unfold Sg.len at l2;omega)];have:(eP fs at' xs ys p).up=(eP fs at' xs ys p').up:=by
   unfold eP;rw[q3];split <;>rfl
  rw[this,q3]
 have AF:(eP fs at' xs ys p).st=(eP fs at' xs ys p').st:=by
  have key:∀p,(eP fs at' xs ys p).st=(((oK xs (bA fs at' p).x:Nat):Int),((oK ys (bA fs at' p).y:Nat):Int)):=fun p=>by
   unfold eP Sg.st bA;by_cases c:(fs.getD p.side.toNat Γ).up=ι
   .simp only[c,if_true]
   .simp only[c,aK,if_false]
  rw[key,key,ex,ey]
 have hw:cV (eP fs at' xs ys p) 0=cV (eP fs at' xs ys p') 0:=by
  rw[<-DI,<-DI]at AF;injection AF with a b;unfold cV;rw[a,b,hdir]
 obtain⟨a,b,-⟩:=hu hw;rcases hne with c|c
 .exact c a
 .exact c b
theorem Trd.again(h:Trd fs at' aZ):sV fs at' (nY fs at' aZ)=aZ.map Lp.ps:=by
 have:=Xx (ls:=aZ) (fun p hp=>(h.part p hp).1) h.brd (fun l hl=>⟨by have:=h.four l hl;omega,fun p hp=>(h.part p (List.mem_flatMap.2 ⟨l,hl,hp⟩)).2.1⟩) h.dis;rw[h.arr]at this;exact this
end
section
variable{fs:List Fr}{at':List (List UInt8)}
theorem OK{right:Bool}{m:Nat}(h:oH fs at' ps right =ι)(hl:qs.length=ps.length)(hq:∀i,i<ps.length->qs.getD i Γ=ps.getD ((i+m)%ps.length) Γ):oH fs at' qs right =ι:=by
 obtain⟨h1,h2,h3⟩:=sU h;unfold oH;rw[hl,aI,aI,decide_eq_true_eq,bX,bX];have hm:∀i,i%ps.length<ps.length:=fun i=>aV _ oM;refine⟨⟨h1,bJ.2 fun i hi=>?_⟩,bJ.2 fun i hi=>?_⟩
 .unfold Za;rw[hq i hi,h2 _ (hm _)];rfl
 .unfold Zb;rw[hl,hq i hi,hq _ (hm _)];have:=h3 _ (hm (i+m));rw[show((i+1)%ps.length+m)%ps.length=((i+m)%ps.length+1)%ps.length by rw[eV,eV];congr 1;omega,this];rfl
theorem Dj{right:Bool}(h:∀l∈aZ,oH fs at' l.ps right =ι):oI fs at' aZ right =ι:=by
 unfold oI;rw[bX];refine bJ.2 fun i hi=>?_;unfold Zd;rw[h _ (aN hi Γ)];rfl
end
theorem aZ8(sR:∀ f∈fs,f.Ok)(hz:Lz z)(hg:wW fs (dL fs z) ls ((ls.flatMap Lp.ps).map fun p=>(bA fs (dL fs z) p).x) ((ls.flatMap Lp.ps).map fun p=>(bA fs (dL fs z) p).y))(ha:oI fs (dL fs z) ls ν=ι)(hm:aZ.map Lp.ps=sV fs (dL fs z) (nY fs (dL fs z) ls))(yX:Dw aZ)(hn:aZ.length<=1000)(hc:(aZ.flatMap Lp.ps).length<=1000):Trd fs (dL fs z) aZ:=by
 obtain⟨EL,e0,hB,h4,hOn,-,-,-⟩:=OJ hg ha;have aZ9:=hg.nx;have ba0:=hg.ny;have hPI:=hg.p;obtain⟨hx,mx⟩:=gR aZ9;obtain⟨hy,my⟩:=gR ba0;have Ts:∀ s∈aH ((ls.flatMap Lp.ps).map fun p=>(bA fs (dL fs z) p).x),Nm s:=fun s hs=>aZ9 s ((mx s).1 hs);have VY:∀ s∈aH ((ls.flatMap Lp.ps).map fun p=>(bA fs (dL fs z) p).y),Nm s:=fun s hs=>ba0 s ((my s).1 hs);unfold nY Cg Ch at hm;rw [e0] at hm;generalize aH ((ls.flatMap Lp.ps).map fun p=>(bA fs (dL fs z) p).y)=ys,aH ((ls.flatMap Lp.ps).map fun p=>(bA fs (dL fs z) p).x)=xs at *;have hgf:=fun (h:oI fs (dL fs z) aZ ν=ι)=>G3 sR yX hz h hn hc;clear e0 aZ9 ba0 mx my hg ha;have hP:∀ s∈EL.flatten,eP fs (dL fs z) xs ys (uG xs ys s)=s/\pV fs (dL fs z) xs ys (uG xs ys s)/\(fs.getD (uG xs ys s).side.toNat Γ).up=s.up/\qJ (fs.getD (uG xs ys s).side.toNat Γ)=s.dir/\0 < uA fs (uG xs ys s):=fun s hs=>by
  obtain⟨E,hE,bn⟩:=List.mem_flatten.1 hs;obtain⟨r,hr,rfl⟩:=List.mem_iff_getElem.1 hE;obtain⟨j,hj,rfl⟩:=List.mem_iff_getElem.1 bn;have er:EL[r]=EL.getD r []:=by simp [Ω,hr]
  have ej:EL[r][j]=(EL.getD r []).getD j Γ:=by rw [<- er];simp [Ω,hj]
  rw [er] at hj;rw [ej] at hs |-;exact aK6 hx hy Ts VY hPI (hB.grid _ hs) (hB.long r hr j hj) (hOn _ hs)
 have hW:=yq hB h4 hP;have AU:(aZ.map Lp.ps).Perm (EL.map fun E=>mU fs (dL fs z) (E.map (uG xs ys))):=by
  rw [hm];unfold sV;refine(mK _).trans ?_;rw [eH];exact List.Perm.of_eq rfl
 have XG:∀ l∈aZ,∃ E∈EL,l.ps=mU fs (dL fs z) (E.map (uG xs ys)):=fun l hl=>by
  have:=AU.mem_iff.1 (dC (f:=Lp.ps) hl);obtain⟨E,hE,e⟩:=List.mem_map.1 this;exact⟨E,hE,e.symm⟩
 have Sj:∀ E∈EL,0 < (E.map (uG xs ys)).length/\(mU fs (dL fs z) (E.map (uG xs ys))).length=E.length/\∀ i,i < E.length->(mU fs (dL fs z) (E.map (uG xs ys))).getD i Γ=uG xs ys (E.getD ((i+gO fs (dL fs z) (E.map (uG xs ys)) E.length) % E.length) Γ):=fun E hE=>by
  have h0:0 < (E.map (uG xs ys)).length:=by rw [υ];have:=h4 E hE;omega
  refine⟨h0,by rw [vA,υ],fun i hi=>?_⟩;rw [Dh _ h0 i (by rw [υ];exact hi),υ,kX _ _ (aV _ (by rw [υ] at h0;exact h0))]
 have mG:∀ p∈aZ.flatMap Lp.ps,∃ s∈EL.flatten,p=uG xs ys s:=fun p hp=>by
  obtain⟨l,hl,CW⟩:=List.mem_flatMap.1 hp;obtain⟨E,hE,e⟩:=XG l hl;rw [e] at CW;obtain⟨s,hs,rfl⟩:=List.mem_map.1 (N8 CW);exact⟨s,List.mem_flatten.2 ⟨E,hE,hs⟩,rfl⟩
 have Ez:∀ p∈aZ.flatMap Lp.ps,pV fs (dL fs z) xs ys p/\0 < uA fs p:=fun p hp=>by
  obtain⟨s,hs,rfl⟩:=mG p hp;exact⟨(hP s hs).2.1,(hP s hs).2.2.2.2⟩
 have av5:∀ p∈aZ.flatMap Lp.ps,rX fs (dL fs z) p:=fun p hp=>by
  obtain⟨⟨a,b,c,d,-,-⟩,-⟩:=Ez p hp;refine⟨a,Ts _ b,VY _ c,?_⟩;split at d
  .exact VY _ d
  .exact Ts _ d
 have XH:∀ l∈aZ,4<=l.ps.length:=fun l hl=>by
  obtain⟨E,hE,e⟩:=XG l hl;rw [e,(Sj E hE).2.1];exact h4 E hE
 have av6:∀ right,oI fs (dL fs z) aZ right=ι:=fun right=>Dj fun l hl=>by
  obtain⟨E,hE,e⟩:=XG l hl;obtain⟨t0,t1,t2⟩:=Sj E hE;rw [e];refine OK (m:=gO fs (dL fs z) (E.map (uG xs ys)) E.length) (hW right E hE) (by rw [t1,υ]) fun i hi=>?_;rw [υ] at hi |-;rw [t2 i hi,kX _ _ (aV _ oM)]
 have hlen:(eC fs (dL fs z) xs ys aZ).length=aZ.length:=by unfold eC;rw [υ]
 have hBr:uF (eC fs (dL fs z) xs ys aZ) xs.length ys.length:=by
  refine hB.like ?_ fun r hr=>?_
  .rw [wM];have e1:aZ.flatMap Lp.ps=(aZ.map Lp.ps).flatten:=by rw [fT]
   have p1:(aZ.flatMap Lp.ps).Perm (EL.flatten.map (uG xs ys)):=by
    rw [e1,Mv];refine AU.flatten.trans ?_;have:=FH fs (dL fs z) (EL.map (oO (uG xs ys)));rwa [eH] at this
   refine(p1.map _).trans ?_;rw [eH];have:EL.flatten.map (eP fs (dL fs z) xs ys ∘ uG xs ys)=EL.flatten:=by
    conv=>rhs;rw [<- List.map_id EL.flatten]
    exact eB fun s hs=>(hP s hs).1
   rw [this]
  .rw [hlen] at hr;obtain⟨E,hE,e⟩:=XG _ (aN hr Γ);obtain⟨t0,t1,t2⟩:=Sj E hE;obtain⟨q,hq,rfl⟩:=List.mem_iff_getElem.1 hE;have eq:EL[q]=EL.getD q []:=by simp [Ω,hq]
   rw [eq] at e t0 t1 t2 hE;refine⟨q,gO fs (dL fs z) ((EL.getD q []).map (uG xs ys)) (EL.getD q []).length,hq,?_,fun j hj=>?_⟩
   .rw [iM,υ,e,t1]
   .rw [iM,υ,e,t1] at hj;rw [iM,kX _ _ (by rw [e,t1];exact hj),e,t2 j hj];exact(hP _ (List.mem_flatten.2 ⟨_,hE,aN (aV _ oM) Γ⟩)).1
 have cT:=hgf (av6 ν);have hT:Trd0 fs (dL fs z) aZ:=by
  refine⟨?_,fun p hp=>⟨cT.p p hp,av5 p hp,(Ez p hp).2⟩,XH,av6⟩;obtain⟨hx',mx'⟩:=gR cT.nx;obtain⟨hy',my'⟩:=gR cT.ny;refine aK7 hx hy hx' hy' (fun t ht=>?_) (fun t ht=>?_) cT.p (NY cT) hBr
  .obtain⟨p,hp,rfl⟩:=List.mem_map.1 ((mx' t).1 ht);exact(Ez p hp).1.x
  .obtain⟨p,hp,rfl⟩:=List.mem_map.1 ((my' t).1 ht);exact(Ez p hp).1.y
 refine { hT with arr:=?_ };have bl4:=hT.dis;have bl5:∀ l∈aZ,mU fs (dL fs z) l.ps=l.ps:=fun l hl=>by
  obtain⟨r,hr,rfl⟩:=List.mem_iff_getElem.1 hl;have er:aZ[r]=aZ.getD r Γ:=by simp [Ω,hr]
  obtain⟨E,hE,e⟩:=XG _ hl;obtain⟨t0,t1,t2⟩:=Sj E hE;have h0:=XH _ hl;rw [er] at e h0 |-;have J7:mU fs (dL fs z) (E.map (uG xs ys))=mU fs (dL fs z) (aZ.getD r Γ).ps:=by
   have bv5:gO fs (dL fs z) (E.map (uG xs ys)) E.length % E.length < E.length:=aV _ (by rw [υ] at t0;exact t0);refine Xt (k:=E.length - gO fs (dL fs z) (E.map (uG xs ys)) E.length % E.length) (fun i hi=>av5 _ (List.mem_flatMap.2 ⟨_,aN hr Γ,aN hi Γ⟩)) (fun i j hi hj hne=>bl4 r i r j hr hr hi hj (.inr hne)) oM (by rw [e,t1,υ]) fun i hi=>?_;rw [e,t1] at hi |-;rw [t2 _ (aV _ oM),kX _ _ hi];congr 2;generalize gO fs (dL fs z) (E.map (uG xs ys)) E.length=m at *;rw [eV];have h1:(i+(E.length - m % E.length)+m) % E.length=(i+(E.length - m % E.length)+m % E.length) % E.length:=by rw [Nat.add_mod_mod]
   rw [h1,show i+(E.length - m % E.length)+m % E.length=i+E.length by omega,gQ,aT hi]
  rw [<- J7,<- e]
 have Zn:(aZ.map Lp.ps).map (mU fs (dL fs z))=aZ.map Lp.ps:=by
  rw [eH];exact eB fun l hl=>bl5 l hl
 have hS:∀ y∈(aZ.map Lp.ps),rX fs (dL fs z) (y.getD 0 Γ):=fun y hy=>by
  obtain⟨l,hl,rfl⟩:=List.mem_map.1 hy;have:=XH l hl;exact av5 _ (List.mem_flatMap.2 ⟨l,hl,aN oM Γ⟩)
 have hlt:∀ x y:List Pt,rX fs (dL fs z) (x.getD 0 Γ)->rX fs (dL fs z) (y.getD 0 Γ)->(ur fs (dL fs z) x y=ι↔G6 fs (dL fs z) (x.getD 0 Γ) (y.getD 0 Γ)):=fun x y hx hy=>by
  unfold ur;rw [decide_eq_true_iff];exact yS hx hy
 have ag:∀ x y:List Pt,rX fs (dL fs z) (x.getD 0 Γ)->rX fs (dL fs z) (y.getD 0 Γ)->(ur fs (dL fs z) x y=ν↔¬ G6 fs (dL fs z) (x.getD 0 Γ) (y.getD 0 Γ)):=fun x y hx hy=>by
  rw [<- hlt x y hx hy];simp
 have AF:nT (ur fs (dL fs z)) (aZ.map Lp.ps)=nT (ur fs (dL fs z)) ((EL.map (oO (uG xs ys))).map (mU fs (dL fs z))):=by
  refine Xs (S:=fun u:List Pt=>rX fs (dL fs z) (u.getD 0 Γ)) (fun x y u hx hy hu a b=>?_) (fun x y hx hy a=>?_) hS (by rw [eH];exact AU) fun a b ha hb h3 h4=>?_
  .rw [ag x y hx hy] at a;rw [ag y u hy hu] at b;rw [ag x u hx hu];exact C5 a b
  .rw [hlt x y hx hy] at a;rw [ag y x hy hx];exact Wk a
  .obtain⟨l1,Vf,rfl⟩:=List.mem_map.1 ha;obtain⟨l2,DN,rfl⟩:=List.mem_map.1 hb;obtain⟨r,hr,rfl⟩:=List.mem_iff_getElem.1 Vf;obtain⟨q,hq,rfl⟩:=List.mem_iff_getElem.1 DN;by_cases hne:r=q
   .subst hne;rfl
   .exfalso;rw [ag _ _ (hS _ ha) (hS _ hb)] at h3;rw [ag _ _ (hS _ hb) (hS _ ha)] at h4;have er:aZ[r]=aZ.getD r Γ:=by simp [Ω,hr]
    have eq:aZ[q]=aZ.getD q Γ:=by simp [Ω,hq]
    have f1:=XH _ Vf;have f2:=XH _ DN;rw [er] at h3 h4 f1;rw [eq] at h3 h4 f2;exact(bl4 r 0 q 0 hr hq oM oM (.inl hne)).elim h3 h4
 show nT (ur fs (dL fs z)) ((aZ.map Lp.ps).map (mU fs (dL fs z)))=_;rw [Zn,AF];exact hm.symm
section
variable{fs:List Fr}{z y:List UInt8}
theorem Jk(sR:∀f∈fs,f.Ok)(cz:¬Zq fs z y)(hi:i<fs.length):(fs.getD i Γ).q.v≠0->¬(bZ z<(fs.getD i Γ).q.t/\(fs.getD i Γ).q.t<bZ y):=fun hv h=>by
 refine cz ⟨_,⟨i,hi,.inl ⟨fun e=>hv ?_,rfl⟩⟩,h.1,h.2⟩
 show bZ (fs.getD i Γ).sp=0
 rw[e,<-zB,iI]
theorem aK8(cz:¬Zq fs z y)(hi:i<fs.length)(hk:k<fs.length)(hne:i≠k)(hu:(fs.getD i Γ).up=(fs.getD k Γ).up):∀e,bZ z<e->e<bZ y->¬kK (fs.getD i Γ).q (fs.getD k Γ).q e:=fun e h1 h2 hm=>by
 rcases Nat.lt_or_gt_of_ne hne with c|c
 .exact cz ⟨e,⟨k,hk,.inr ⟨i,c,hu,hm⟩⟩,h1,h2⟩
 .refine cz ⟨e,⟨i,hi,.inr ⟨k,c,hu.symm,hm.1.symm,?_⟩⟩,h1,h2⟩
  rcases hm.2 with q|q
  .exact .inl (Ne.symm q)
  .exact .inr (Ne.symm q)
theorem XI(sR:∀f∈fs,f.Ok)(cz:¬Zq fs z y)(ci:bZ z<=bZ y)(hi:i<fs.length)(hk:k<fs.length)(hu:(fs.getD i Γ).up=(fs.getD k Γ).up)(h:(fs.getD k Γ).q.pos (bZ y)<(fs.getD i Γ).q.pos (bZ y)):
 (fs.getD k Γ).q.pos (bZ z)<(fs.getD i Γ).q.pos (bZ z)\/((fs.getD k Γ).q.pos (bZ z)=(fs.getD i Γ).q.pos (bZ z)/\(fs.getD k Γ).q.high (bZ z)<(fs.getD i Γ).q.high (bZ z)):=by
 by_cases c:i=k
 .subst c;exact absurd h (by grind)
 .exact cg (Jk sR cz hi) (Jk sR cz hk) (aK8 cz hi hk c hu) ci h
theorem Bc(hi:i<fs.length):bZ ((dL fs z).getD i [])=(fs.getD i Γ).q.pos (bZ z):=by
 rw[yQ hi];unfold J0;rw[iI]
theorem LU(sR:∀f∈fs,f.Ok)(cz:¬Zq fs z y)(ci:bZ z<=bZ y)(hi:i<fs.length)(hk:k<fs.length)(hd:(fs.getD i Γ).dir=(fs.getD k Γ).dir)(hs:FP (fs.getD i Γ) z=FP (fs.getD k Γ) z)(ha:(dL fs z).getD i []=(dL fs z).getD k []):
 (dL fs y).getD i []=(dL fs y).getD k []:=by
 have hp:=congrArg bZ ha;rw[Bc hi,Bc hk]at hp;have hh:(fs.getD i Γ).q.high (bZ z)=(fs.getD k Γ).q.high (bZ z):=by
  have h48:bZ [48]=0:=by rw[<-zB,iI]
  have hc:∀a b:Rat,mT a b<0↔a<b:=fun a b=>(I5 a b).1;unfold FP S9 at hs;have e1:(fs.getD i Γ).q.dir=(fs.getD k Γ).q.dir:=hd;unfold FQ.high FQ.vel;rw[e1];have hs:=congrArg bZ hs;by_cases c1:bZ z<(fs.getD i Γ).q.t<;>by_cases c2:bZ z<(fs.getD k Γ).q.t
  .rw[ip c1,ip c2]
  .rw[ip ((hc _ _).2 c1),iN (fun q=>c2 ((hc _ _).1 q)),h48,iI]at hs;rw[ip c1,iN c2,<-hs];grind
  .rw[iN (fun q=>c1 ((hc _ _).1 q)),ip ((hc _ _).2 c2),h48,iI]at hs;rw[iN c1,ip c2,hs];grind
  .rw[iN (fun q=>c1 ((hc _ _).1 q)),iN (fun q=>c2 ((hc _ _).1 q)),iI,iI]at hs;rw[iN c1,iN c2,hs]
 rw[yQ hi,yQ hk];unfold J0;rw[FQ.line (Jk sR cz hi) ci OY,FQ.line (Jk sR cz hk) ci OY,hp,hh]
theorem OL(ls:List Sg)(P:Sg->Prop)(X:Int)(h0:∀s∈ls,0<=s.line)(hX:∀s∈ls,P s->s.line<X):∃i0:Int,(∀s∈ls,P s->i0<=s.line)/\((∃s∈ls,P s/\s.line=i0)\/((∀s∈ls,¬P s)/\i0=X)):=by
 by_cases c:∃s∈ls,P s
 .obtain⟨s,hs,hP⟩:=c;obtain⟨k,⟨q,hq,hPq,e⟩,hk⟩:=as8 (P:=fun m=>∃s∈ls,P s/\s.line.toNat=m) _ ⟨s,hs,hP,rfl⟩;refine⟨k,fun t ht hPt=>?_,.inl ⟨q,hq,hPq,by have:=h0 q hq;omega⟩⟩;refine aG fun c=>?_;have:=h0 t ht;exact hk t.line.toNat oM ⟨t,ht,hPt,rfl⟩
 .refine⟨X,fun s hs hP=>absurd ⟨s,hs,hP⟩ c,.inr ⟨fun s hs hP=>c ⟨s,hs,hP⟩,rfl⟩⟩
end
theorem aK9{y:List UInt8}(sR:∀f∈fs,f.Ok)(hT:Trd fs (dL fs z) aZ)(XJ:FY fs z (aZ.map Lp.ps)=ν)(hm:xE.map Lp.ps=bv8 fs (dL fs y) aZ)(cz:¬Zq fs z y)(ci:bZ z<=bZ y)(hW:oI fs (dL fs y) xE ν=ι){Aw Fx:List (List UInt8)}(hx':nX Aw)(hy':nX Fx)(S7:∀p∈xE.flatMap Lp.ps,pV fs (dL fs y) Aw Fx p)(i k):
 bF (eC fs (dL fs y) Aw Fx xE).flatten i k=0\/bF (eC fs (dL fs y) Aw Fx xE).flatten i k=1:=by
 have hB:=hT.brd;have Ez:=hT.part;obtain⟨n1,n2,ax,ay⟩:=hT.nm;have hwh:=hT.whole ν;generalize Ch fs (dL fs z) aZ=ys,Cg fs (dL fs z) aZ=xs at *;obtain⟨RL,hRL⟩:=nm (eC fs (dL fs z) xs ys aZ);rw[hRL]at hB;have hlen:RL.length=aZ.length:=by rw[<-hRL];unfold eC;rw[υ]
 have L7:xE.length=aZ.length:=by
  have:=congrArg Jr hm;unfold bv8 at this;rwa[υ,υ]at this
 obtain⟨A,hA⟩:∃A:Sg->Int,∀s,A s=if i<((oK Aw ((dL fs y).getD s.side.toNat []):Nat):Int)then 1 else 0:=⟨_,fun _=>rfl⟩
 obtain⟨B,hBw⟩:∃B:Sg->Int,∀s,B s=if k<((oK Fx ((dL fs y).getD s.side.toNat []):Nat):Int)then 1 else 0:=⟨_,fun _=>rfl⟩
 have aL0:∀r,r<aZ.length->(xE.getD r Γ).ps=uW fs (dL fs y) (aZ.getD r Γ).ps:=fun r hr=>by
  have e1:(xE.map Lp.ps).getD r []=(xE.getD r Γ).ps:=by
   rw[Ω,oP,Ω];cases xE[r]? <;>rfl
  have e2:(bv8 fs (dL fs y) aZ).getD r []=uW fs (dL fs y) (aZ.getD r Γ).ps:=by
   unfold bv8;rw[Ω,oP,Ω,aS hr];rfl
  rw[<-e1,hm,e2]
 have hRg:∀r,r<aZ.length->∀j,j<(aZ.getD r Γ).ps.length->(RL.getD r []).getD j Γ=eP fs (dL fs z) xs ys ((aZ.getD r Γ).ps.getD j Γ):=fun r hr j hj=>by
  rw[<-hRL,iM,kX _ _ hj]
 have hRl:∀r,r<aZ.length->(RL.getD r []).length=(aZ.getD r Γ).ps.length:=fun r hr=>by rw[<-hRL,iM,υ]
 have hMg:∀r,r<aZ.length->∀j,j<(aZ.getD r Γ).ps.length->((eC fs (dL fs y) Aw Fx xE).getD r []).getD j Γ=eP fs (dL fs y) Aw Fx ((xE.getD r Γ).ps.getD j Γ)/\((xE.getD r Γ).ps.getD j Γ).side=((aZ.getD r Γ).ps.getD j Γ).side:=fun r hr j hj=>by
  rw[iM,kX _ _ (by rw[aL0 r hr,nM];exact hj)];refine⟨rfl,?_⟩;rw[aL0 r hr,zF hj];rfl
 have hMl:∀r,r<aZ.length->((eC fs (dL fs y) Aw Fx xE).getD r []).length=(aZ.getD r Γ).ps.length:=fun r hr=>by rw[iM,υ,aL0 r hr,nM]
 have bl6:(eC fs (dL fs y) Aw Fx xE).length=aZ.length:=by unfold eC;rw[υ,L7]
 have hsg:∀(at' xs ys:List (List UInt8))(p:Pt),(eP fs at' xs ys p).side=p.side/\(eP fs at' xs ys p).up=(fs.getD p.side.toNat Γ).up/\(eP fs at' xs ys p).line=if(fs.getD p.side.toNat Γ).up=ι then((oK xs (at'.getD p.side.toNat []):Nat):Int)else((oK ys (at'.getD p.side.toNat []):Nat):Int):=fun at' xs ys p=>by
  unfold eP;by_cases c:(fs.getD p.side.toNat Γ).up=ι
  .rw[ip c];exact⟨rfl,c.symm,(ip c).symm⟩
  .rw[iN c];exact⟨rfl,by simpa using c,(iN c).symm⟩
 have e1:bF (eC fs (dL fs y) Aw Fx xE).flatten i k=F6 A B RL:=by
  rw[OG fun r hr=>by
   have:=G4 Aw Fx hW;exact this _ (aN hr [])]
  unfold F6;rw[bl6,hlen];refine dI fun r hr=>?_;unfold cSl;rw[hMl r hr,hRl r hr];refine dI fun j hj=>?_;have Bo:(j+1)%(aZ.getD r Γ).ps.length<(aZ.getD r Γ).ps.length:=aV _ oM;obtain⟨a1,a2⟩:=hMg r hr j hj;obtain⟨b1,b2⟩:=hMg r hr _ Bo;rw[a1,b1,hRg r hr j hj,hRg r hr _ Bo];obtain⟨c1,c2,c3⟩:=hsg (dL fs y) Aw Fx ((xE.getD r Γ).ps.getD j Γ);obtain⟨d1,d2,d3⟩:=hsg (dL fs y) Aw Fx ((xE.getD r Γ).ps.getD ((j+1)%(aZ.getD r Γ).ps.length) Γ);obtain⟨f1,f2,-⟩:=hsg (dL fs z) xs ys ((aZ.getD r Γ).ps.getD j Γ);obtain⟨g1,g2,-⟩:=hsg (dL fs z) xs ys ((aZ.getD r Γ).ps.getD ((j+1)%(aZ.getD r Γ).ps.length) Γ);rw[a2]at c2 c3;rw[b2]at d2 d3;unfold cW F7;rw[c2,d2,f2,g2,hA,hBw,hA,hBw,f1,g1,c3,d3];by_cases u:(fs.getD ((aZ.getD r Γ).ps.getD j Γ).side.toNat Γ).up=ι<;>by_cases v:(fs.getD ((aZ.getD r Γ).ps.getD ((j+1)%(aZ.getD r Γ).ps.length) Γ).side.toNat Γ).up=ι<;>simp only[u,v,if_true,if_false,aK]
 rw[e1];have OD:∀s∈RL.flatten,∃t:Nat,s.side.toNat=t/\t<fs.length/\s.up=(fs.getD t Γ).up/\s.line=(if(fs.getD t Γ).up=ι then((oK xs ((dL fs z).getD t []):Nat):Int)else((oK ys ((dL fs z).getD t []):Nat):Int))/\(if(fs.getD t Γ).up=ι then(dL fs z).getD t []∈xs/\(dL fs y).getD t []∈Aw else(dL fs z).getD t []∈ys/\(dL fs y).getD t []∈Fx)/\s.a≠s.b/\qJ (fs.getD t Γ)=s.dir:=fun s hs=>by
  obtain⟨E,hE,bn⟩:=List.mem_flatten.1 hs;obtain⟨r,hr,rfl⟩:=List.mem_iff_getElem.1 hE;obtain⟨j,hj,rfl⟩:=List.mem_iff_getElem.1 bn;have er:RL[r]=RL.getD r []:=by simp[Ω,hr]
  have ej:RL[r][j]=(RL.getD r []).getD j Γ:=by rw[<-er];simp[Ω,hj]
  rw[er]at hj;have Si:=hB.long r hr j hj;rw[hlen]at hr;rw[hRl r hr]at hj;rw[ej];rw[hRg r hr j hj]at Si|-;have mG:(aZ.getD r Γ).ps.getD j Γ∈aZ.flatMap Lp.ps:=List.mem_flatMap.2 ⟨_,aN hr Γ,aN hj Γ⟩;obtain⟨hI,-,-⟩:=Ez _ mG;have Ii:=(hMg r hr j hj).2;have hI':=S7 ((xE.getD r Γ).ps.getD j Γ) (List.mem_flatMap.2 ⟨_,aN oM Γ,aN (by rw[aL0 r hr,nM];exact hj) Γ⟩);obtain⟨c1,c2,c3⟩:=hsg (dL fs z) xs ys ((aZ.getD r Γ).ps.getD j Γ);have il:=Ew ax ay n1 n2 hI;have hdr:=Jj il Si;have hdb:=NP (fs.getD ((aZ.getD r Γ).ps.getD j Γ).side.toNat Γ);obtain⟨⟨t,ht1,UH⟩,hx1,hy1,-,-,-⟩:=hI;obtain⟨-,J7,VK,-,-,-⟩:=hI';unfold bA at hx1 hy1 J7 VK;rw[Ii]at J7 VK;have FU:((aZ.getD r Γ).ps.getD j Γ).side.toNat=t:=by rw[ht1];rfl
  rw[FU]at c2 c3 hx1 hy1 J7 VK hdb hdr;refine⟨t,by rw[c1];exact FU,UH,c2,c3,?_,Si,?_⟩
  .by_cases u:(fs.getD t Γ).up=ι
   .simp only[u,if_true]at hx1 J7|-;exact⟨hx1,J7⟩
   .simp only[u,if_false,aK]at hy1 VK|-;exact⟨hy1,VK⟩
  .rw[hdb,hdr,c2]
 have h01:∀s,(A s=0\/A s=1)/\(B s=0\/B s=1):=fun s=>by
  rw[hA,hBw];constructor <;>split <;>simp
 have aQ0:∀s∈RL.flatten,∀q∈RL.flatten,s.up=ι->q.up=ι->A s=1->A q=0->q.line<s.line\/(q.line=s.line/\(fs.getD q.side.toNat Γ).q.high (bZ z)<(fs.getD s.side.toNat Γ).q.high (bZ z)):=fun s hs q hq us uq h1 h2=>by
  obtain⟨t,t1,t2,t3,t4,t5,-,-⟩:=OD s hs;obtain⟨u,u1,u2,u3,u4,u5,-,-⟩:=OD q hq;rw[us]at t3;rw[uq]at u3;rw[hA,t1]at h1;rw[hA,u1]at h2;rw[<-t3,ip rfl]at t4 t5;rw[<-u3,ip rfl]at u4 u5;have hlt:oK Aw ((dL fs y).getD u [])<oK Aw ((dL fs y).getD t []):=by
   split at h1<;>split at h2<;>omega
  rw[uZ hx' u5.2 t5.2,Bc u2,Bc t2]at hlt;rw[t1,u1,t4,u4];rcases XI sR cz ci t2 u2 (by rw[<-t3,<-u3]) hlt with c|⟨c,d⟩
  .left;have:=(uZ ax u5.1 t5.1).2 (by rw[Bc u2,Bc t2];exact c);omega
  .right;have e:(dL fs z).getD u []=(dL fs z).getD t []:=by rw[yQ u2,yQ t2];unfold J0;rw[c]
   exact⟨by rw[e],d⟩
 have bl7:∀s∈RL.flatten,∀q∈RL.flatten,¬s.up=ι->¬q.up=ι->B s=1->B q=0->q.line<s.line\/q.line=s.line:=fun s hs q hq us uq h1 h2=>by
  obtain⟨t,t1,t2,t3,t4,t5,-,-⟩:=OD s hs;obtain⟨u,u1,u2,u3,u4,u5,-,-⟩:=OD q hq;rw[t3]at us;rw[u3]at uq;rw[hBw,t1]at h1;rw[hBw,u1]at h2;rw[iN us]at t4 t5;rw[iN uq]at u4 u5;have hlt:oK Fx ((dL fs y).getD u [])<oK Fx ((dL fs y).getD t []):=by
   split at h1<;>split at h2<;>omega
  rw[uZ hy' u5.2 t5.2,Bc u2,Bc t2]at hlt;rw[t4,u4];rcases XI sR cz ci t2 u2 (by rw[Bool.not_eq_true]at us uq;rw[us,uq]) hlt with c|⟨c,d⟩
  .left;have:=(uZ ay u5.1 t5.1).2 (by rw[Bc u2,Bc t2];exact c);omega
  .right;have e:(dL fs z).getD u []=(dL fs z).getD t []:=by rw[yQ u2,yQ t2];unfold J0;rw[c]
   rw[e]
 obtain⟨i0,hi1,hi2⟩:=OL RL.flatten (fun s=>s.up=ι/\A s=1) xs.length (fun s hs=>(hB.grid s hs).1) (fun s hs h=>((hB.grid s hs).2.2.2.1 h.1).1);obtain⟨k0,Yo,hk2⟩:=OL RL.flatten (fun s=>¬s.up=ι/\B s=1) ys.length (fun s hs=>(hB.grid s hs).1) (fun s hs h=>((hB.grid s hs).2.2.2.2 (by simpa using h.1)).1);have aQ1:∀r,r<RL.length->∀j,j<(RL.getD r []).length->((RL.getD r []).getD j Γ).up=((RL.getD r []).getD ((j+1)%(RL.getD r []).length) Γ).up->(dL fs y).getD ((RL.getD r []).getD j Γ).side.toNat []=(dL fs y).getD ((RL.getD r []).getD ((j+1)%(RL.getD r []).length) Γ).side.toNat []:=fun r hr j hj hup=>by
  rw[hlen]at hr;rw[hRl r hr]at hj hup|-;have Bo:(j+1)%(aZ.getD r Γ).ps.length<(aZ.getD r Γ).ps.length:=aV _ oM;rw[hRg r hr j hj,hRg r hr _ Bo]at hup|-;rw[(hsg _ _ _ _).2.1,(hsg _ _ _ _).2.1]at hup;rw[(hsg _ _ _ _).1,(hsg _ _ _ _).1];obtain⟨-,-,hj3⟩:=sU (wZ hwh _ (aN hr Γ));have hj4:=hj3 j hj;have av7:EF fs z (aZ.getD r Γ).ps j=ν:=by
   unfold FY at XJ;have h1:=bJ.1 XJ r (by rw[υ];exact hr);unfold TI at h1;have e:(aZ.map Lp.ps).getD r []=(aZ.getD r Γ).ps:=by
    rw[Ω,oP,Ω];cases aZ[r]? <;>rfl
   rw[e]at h1;exact bJ.1 h1 j hj
  obtain⟨⟨t,t1,t2⟩,-⟩:=(Ez _ (List.mem_flatMap.2 ⟨_,aN hr Γ,aN hj Γ⟩)).1;obtain⟨⟨u,u1,u2⟩,-⟩:=(Ez _ (List.mem_flatMap.2 ⟨_,aN hr Γ,aN Bo Γ⟩)).1;unfold EF at av7;generalize(aZ.getD r Γ).ps.getD j Γ=p at *;generalize(aZ.getD r Γ).ps.getD ((j+1)%(aZ.getD r Γ).ps.length) Γ=q at *;unfold AH at hj4;have tp:p.side.toNat=t:=by rw[t1];rfl
  have uq:q.side.toNat=u:=by rw[u1];rfl
  rw[tp,uq]at hup hj4|-;rw[hup]at hj4;simp only[bne_self_eq_false,aK,if_false,aI,beq_iff_eq]at hj4;have hsp:FP (fs.getD t Γ) z=FP (fs.getD u Γ) z:=by
   refine aG fun c=>?_;rw[Bool.and_eq_false_iff]at av7;rcases av7 with c1|c1
   .have:((fs.getD p.side.toNat Γ).up==(fs.getD q.side.toNat Γ).up)=ι:=by rw[tp,uq,beq_iff_eq];exact hup
    rw[this]at c1;cases c1
   .have:(FP (fs.getD p.side.toNat Γ) z !=FP (fs.getD q.side.toNat Γ) z)=ι:=by
     rw[tp,uq,bne_iff_ne];exact c
    rw[this]at c1;cases c1
  exact LU sR cz ci t2 u2 hj4.1.1 hsp hj4.2
 refine hB.local01 i0 k0 (fun s hs hu=>⟨(h01 s).1,fun hl=>?_,fun hl=>?_⟩) (fun s hs hu=>⟨(h01 s).2,fun hl=>?_,fun hl=>?_⟩) (fun r hr j hj u v=>?_) (fun r hr j hj u v=>?_) (fun p hp q hq p1 q1 p2 q2 h1=>?_)
 .rcases hi2 with⟨s0,hs0,⟨c1,c2⟩,c3⟩|⟨-,c⟩
  .rcases(h01 s).1 with e|e
   .rcases aQ0 s0 hs0 s hs c1 hu c2 e with d|⟨d,-⟩<;>omega
   .exact e
  .have:=((hB.grid s hs).2.2.2.1 hu).1;omega
 .rcases(h01 s).1 with e|e
  .exact e
  .have:=hi1 s hs ⟨hu,e⟩;omega
 .rcases hk2 with⟨s0,hs0,⟨c1,c2⟩,c3⟩|⟨-,c⟩
  .rcases(h01 s).2 with e|e
   .rcases bl7 s0 hs0 s hs c1 hu c2 e with d|d<;>omega
   .exact e
  .have:=((hB.grid s hs).2.2.2.2 (by simpa using hu)).1;omega
 .rcases(h01 s).2 with e|e
  .exact e
  .have:=Yo s hs ⟨hu,e⟩;omega
 .rw[hA,hA,aQ1 r hr j hj (by rw[u,v])]
 .rw[Bool.not_eq_true]at u v;rw[hBw,hBw,aQ1 r hr j hj (by rw[u,v])]
 .have up1:p.up=ι:=by
   have:=qG p;rw[p2]at this;refine aG fun c=>?_;rw[iN c]at this;omega
  have uq1:q.up=ι:=by
   have:=qG q;rw[q2]at this;refine aG fun c=>?_;rw[iN c]at this;omega
  rcases(h01 q).1 with e|e
  .exfalso;rcases aQ0 p hp q hq up1 uq1 h1 e with d|⟨-,d⟩
   .omega
   .obtain⟨t,t1,t2,t3,-,-,-,t8⟩:=OD p hp;obtain⟨u,u1,u2,u3,-,-,-,u8⟩:=OD q hq;rw[t1,u1]at d;have gt:=(sR _ (aN t2 Γ)).good.1;have gu:=(sR _ (aN u2 Γ)).good.1;have vt:0<=(fs.getD t Γ).q.v:=by
     obtain⟨n,m,a1,a2,a3,a4⟩:=gt.v;refine aG fun c=>?_;have hm:(0:Rat)<((m:Int):Rat):=by exact_mod_cast (by omega:0<m)
     have hn:(0:Rat)<=((n:Int):Rat):=by exact_mod_cast aP n
     have:=AY (show 0<=-(fs.getD t Γ).q.v by grind) (gZ hm);have hne:(fs.getD t Γ).q.v*((m:Int):Rat)≠0:=by
      intro e;rcases Rat.mul_eq_zero.1 e with e|e<;>grind
     grind
    have vu:0<=(fs.getD u Γ).q.v:=by
     obtain⟨n,m,a1,a2,a3,a4⟩:=gu.v;refine aG fun c=>?_;have hm:(0:Rat)<((m:Int):Rat):=by exact_mod_cast (by omega:0<m)
     have hn:(0:Rat)<=((n:Int):Rat):=by exact_mod_cast aP n
     have:=AY (show 0<=-(fs.getD u Γ).q.v by grind) (gZ hm);have hne:(fs.getD u Γ).q.v*((m:Int):Rat)≠0:=by
      intro e;rcases Rat.mul_eq_zero.1 e with e|e<;>grind
     grind
    have dt:(fs.getD t Γ).dir= -1:=by
     rw[p2]at t8;have hd:=(sR _ (aN t2 Γ)).dir;unfold qJ at t8;rw[<-t3,up1]at t8;rcases hd with e|e<;>rw[e]at t8<;>simp at t8;exact e
    have du:(fs.getD u Γ).dir=1:=by
     rw[q2]at u8;have hd:=(sR _ (aN u2 Γ)).dir;unfold qJ at u8;rw[<-u3,uq1]at u8;rcases hd with e|e<;>rw[e]at u8<;>simp at u8;exact e
    have h3:=(Sf (f:=(fs.getD t Γ).q) (z:=bZ z) vt).2 dt;have h4:=(Sf (f:=(fs.getD u Γ).q) (z:=bZ z) vu).1 du;grind
  .exact e
theorem Sk[BEq α][LawfulBEq α]:∀{l m:List α},(∀x,l.count x<=m.count x)->l.length<=m.length
 |[],_,_=>aP _
 |x::l,m,h=>by
  have h1:=h x
  rw[ef]at h1
  have hm:x∈m:=List.count_pos_iff.1 oM
  have h2:=Sk (l:=l) (m:=m.erase x) fun y=>by
   have:=h y
   by_cases c:y=x
   .subst c
    rw[List.count_erase_self]
    rw[ef]at this
    omega
   .rw[List.count_erase_of_ne c]
    rw[List.count_cons_of_ne (Ne.symm c)]at this
    exact this
  have h3:=List.length_erase_of_mem hm
  have h4:=List.length_pos_of_mem hm
  rw[aC]
  omega
def atI(p:Int×Int)(s:Sg):Int:=if s.st=p then 1 else 0
theorem av8(p E):lF (atI p) E=((E.map Sg.st).count p:Int):=by
 induction E with
 |nil=>rfl
 |cons s E ih=>
  rw[lF,ih,fN,List.count_cons];unfold atI;by_cases c:s.st=p
  .rw[ip c,ip (by simpa using c)];omega
  .rw[iN c,iN (by simpa using c)];omega
theorem ba1{f g:Sg->Int}{l:List Sg}(h:∀s∈l,f s<=g s):lF f l<=lF g l:=by
 induction l with
 |nil=>exact AV _
 |cons s l ih=>
  rw[lF,lF];have h1:=h s (bO ..);have h2:=ih fun t ht=>h t (cC _ ht);omega
theorem XK{f g:Nat->Int}{n:Nat}(h:∀j,j<n->f j<=g j/\-g j<=f j):dP f n<=dP g n/\-dP g n<=dP f n:=by
 induction n with
 |zero=>exact⟨AV _,AV _⟩
 |succ n ih=>
  obtain⟨a,b⟩:=ih fun j hj=>h j oM;obtain⟨c,d⟩:=h n oM;rw[dP,dP];constructor <;>omega
def eqI(i:Int)(s:Sg):Int:=if s.line=i then 1 else 0
theorem aQ2(i s):F7 (i-1) s=F7 i s+eqI i s:=by
 unfold F7 eqI;(repeat' split)<;>omega
section
variable{ls:List (List Sg)}
theorem mixed(h:∀r,r<ls.length->oZ (ls.getD r []))(i k):bF ls.flatten (i-1) (k-1)-bF ls.flatten i (k-1)-bF ls.flatten (i-1) k+bF ls.flatten i k=F6 (eqI i) (eqI k) ls:=by
 have e:∀i k,bF ls.flatten i k=F6 (F7 i) (F7 k) ls:=fun i k=>OG h i k;have ei:F7 (i-1)=fun s=>F7 i s+eqI i s:=by funext s;exact aQ2 i s
 have ek:F7 (k-1)=fun s=>F7 k s+eqI k s:=by funext s;exact aQ2 k s
 rw[e,e,e,e,ei,ek];simp only[mv,OF];omega
theorem av9(h:∀r,r<ls.length->oZ (ls.getD r []))(i k):F6 (eqI i) (eqI k) ls<=lF (atI (i,k)) ls.flatten/\-lF (atI (i,k)) ls.flatten<=F6 (eqI i) (eqI k) ls:=by
 rw[Fc];unfold F6;refine XK fun r hr=>?_;rw[nB,<-BC (fun j=>atI (i,k) ((ls.getD r []).getD j Γ))];unfold cSl;refine XK fun j hj=>?_;have GG:=h r hr j hj;generalize(ls.getD r []).getD j Γ=s at *;generalize(ls.getD r []).getD ((j+1)%(ls.getD r []).length) Γ=q at *;unfold cW eqI atI;rw[<-GG];unfold Sg.en Sg.st at *;by_cases u:s.up=ι<;>by_cases v:q.up=ι<;>simp only[u,v,if_true,if_false,aK]at GG|-
 .split <;>omega
 .injection GG with g1 g2;by_cases c1:s.line=i<;>by_cases c2:q.line=k
  .rw[ip c1,ip c2,ip (Prod.ext c1 (g2.trans c2))];omega
  .rw[iN c2];split <;>omega
  .rw[iN c1];split <;>omega
  .rw[iN c1];split <;>omega
 .injection GG with g1 g2;by_cases c1:q.line=i<;>by_cases c2:s.line=k
  .rw[ip c1,ip c2,ip (Prod.ext (g1.trans c1) c2)];omega
  .rw[iN c2];split <;>omega
  .rw[iN c1];split <;>omega
  .rw[iN c1];split <;>omega
 .split <;>omega
end
theorem Ub{v:Wy}(h:∀s∈E,A6 s v.x v.y v.d↔A6 s w.x w.y w.d):nO E v=nO E w:=by
 unfold nO;have key:∀(E:List Sg)(PL:Option Int),(∀s∈E,A6 s v.x v.y v.d↔A6 s w.x w.y w.d)->E.foldl (uX v) PL=E.foldl (uX w) PL:=by
  intro E;induction E with
  |nil=>intro _ _;rfl
  |cons s E ih=>
   intro PL h;rw[oB,oB];have:uX v PL s=uX w PL s:=by
    unfold uX;have:=h s (bO ..);by_cases c:A6 s v.x v.y v.d
    .rw[ip c,ip (this.1 c)]
    .rw[iN c,iN fun q=>c (this.2 q)]
   rw[this];exact ih _ fun t ht=>h t (cC _ ht)
 exact key E δ h
theorem aL1{x y:Int}{d:Nat}(hd:d<4)(h1:s.st≠(x,y))(h2:s.en≠(x,y)):A6 s (DJ x y d).x (DJ x y d).y d↔A6 s x y d:=by
 have h4:d=0\/d=1\/d=2\/d=3:=oM;unfold Sg.st at h1;unfold Sg.en at h2;unfold DJ fU fV A6;by_cases u:s.up=ι
 .rw[ip u]at h1 h2;have q1:s.line=x->s.a≠y:=fun a b=>h1 (Prod.ext a b);have q2:s.line=x->s.b≠y:=fun a b=>h2 (Prod.ext a b);rcases h4 with rfl|rfl|rfl|rfl<;>simp only[u,cL,tX,Bool.true_eq_false,false_and,true_and,reduceCtorEq]
  .constructor
   .rintro⟨a,b,c⟩;exact⟨a,oM,by have:=q2 a;omega⟩
   .rintro⟨a,b,c⟩;exact⟨a,by have:=q1 a;omega,oM⟩
  .constructor
   .rintro⟨a,b,c⟩;exact⟨a,by have:=q2 a;omega,oM⟩
   .rintro⟨a,b,c⟩;exact⟨a,oM,by have:=q1 a;omega⟩
 .rw[iN u]at h1 h2;have u':s.up=ν:=by simpa using u
  have q1:s.line=y->s.a≠x:=fun a b=>h1 (Prod.ext b a);have q2:s.line=y->s.b≠x:=fun a b=>h2 (Prod.ext b a);rcases h4 with rfl|rfl|rfl|rfl<;>simp only[u',cL,tX,aK,false_and,true_and,reduceCtorEq]
  .constructor
   .rintro⟨a,b,c⟩;exact⟨a,oM,by have:=q2 a;omega⟩
   .rintro⟨a,b,c⟩;exact⟨a,by have:=q1 a;omega,oM⟩
  .constructor
   .rintro⟨a,b,c⟩;exact⟨a,by have:=q2 a;omega,oM⟩
   .rintro⟨a,b,c⟩;exact⟨a,oM,by have:=q1 a;omega⟩
theorem aL2:∀a b e f:Bool,dP (fun d=>if bD5 a b e f d=ι then 1 else 0) 4<=2/\(dP (fun d=>if bD5 a b e f d=ι then 1 else 0) 4=2->(a=e/\b=f/\a≠b)):=dD
theorem yt:∀a b e f:Bool,∀d:Fin 4,bD4 a b e f d=ι->oU a b e f d%2≠d.1%2->((if e=ι then 1 else 0)-(if f=ι then 1 else 0)-(if b=ι then 1 else 0)+(if a=ι then 1 else 0):Int)≠0:=dD
theorem Uc{dx dy:List (List UInt8)}(h:wW fs at' ls dx dy)(ha:oI fs at' ls ν=ι)(h01:∀i k,bF (eC fs at' (aH dx) (aH dy) ls).flatten i k=0\/bF (eC fs at' (aH dx) (aH dy) ls).flatten i k=1):
 (DA fs at' (aH dx) (aH dy) ls).flatten.length<=(ls.flatMap Lp.ps).length:=by
 obtain⟨EL,e0,hB,h4,-,oV,Ib,aK4⟩:=OJ h ha
 have hr0:=G4 (aH dx) (aH dy) ha
 have hin:=NY h
 have CF:=wM fs at' (aH dx) (aH dy) ls
 generalize aH dx=xs at *
 generalize aH dy=ys at *
 obtain⟨RL,hRL⟩:=nm (eC fs at' xs ys ls)
 rw[hRL]at h01 hr0 hin CF
 have XD:∀r,r<RL.length->oZ (RL.getD r []):=fun r hr=>hr0 _ (aN hr [])
 obtain⟨c,hc⟩:=nm (kV fs at' xs ys ls)
 have hcW:∀i k,bF RL.flatten i k=if c i k=ι then 1 else 0:=fun i k=>by
  have:c i k=decide (0<bF RL.flatten i k):=by
   rw[<-hc]
   unfold kV
   rw[<-CF]
   exact Jc hr0 hin i k
  rw[this]
  rcases h01 i k with e|e<;>rw[e]<;>rfl
 rw[hc]at oV Ib aK4
 have hE0:xO fs at' xs ys ls=RL.flatten:=by unfold xO;rw[CF]
 rw[hE0]at Ib
 have hlen:(DA fs at' xs ys ls).flatten.length=(EL.flatten.map Sg.st).length:=by
  rw[e0,υ,<-Mv,υ]
 have jb:(ls.flatMap Lp.ps).length=(RL.flatten.map Sg.st).length:=by rw[υ,CF,υ]
 rw[hlen,jb]
 refine Sk fun P=>?_
 obtain⟨x,y⟩:=P
 have k1:=av8 (x,y) EL.flatten
 have k2:=av8 (x,y) RL.flatten
 obtain⟨m1,m2⟩:=av9 XD x y
 rw[<-mixed XD x y,hcW,hcW,hcW,hcW]at m1 m2
 have hup:lF (atI (x,y)) EL.flatten<=dP (fun d=>if bD5 (c x y) (c (x-1) y) (c (x-1) (y-1)) (c x (y-1)) d=ι then 1 else 0) 4:=by
  have e1:∀d,d<4->(if bD5 (c x y) (c (x-1) y) (c (x-1) (y-1)) (c x (y-1)) d=ι then 1 else 0:Int)=lF (fun s=>((sE s).count ⟨x,y,d⟩:Int)) EL.flatten:=fun d hd=>by
   rw[KP,aK4 ⟨x,y,d⟩ hd]
   unfold eX
   rw[decide_eq_true (show(⟨x,y,d⟩:Wy).d<4 from hd),iO]
   show _=(((if bor c x y d=ι then 1 else 0:Nat)):Int)
   rw[BD]
   split <;>rfl
  simp only[dP]
  rw[e1 0 dD,e1 1 dD,e1 2 dD,e1 3 dD,Int.zero_add,<-AC,<-AC,<-AC]
  refine ba1 fun s hs=>?_
  unfold atI
  by_cases q:s.st=(x,y)
  .rw[ip q]
   have hl:0<s.len:=by
    obtain⟨E,hE,bn⟩:=List.mem_flatten.1 hs
    obtain⟨r,hr,rfl⟩:=List.mem_iff_getElem.1 hE
    obtain⟨j,hj,rfl⟩:=List.mem_iff_getElem.1 bn
    have er:EL[r]=EL.getD r []:=by simp[Ω,hr]
    have ej:EL[r][j]=(EL.getD r []).getD j Γ:=by rw[<-er];simp[Ω,hj]
    rw[er]at hj
    rw[ej]
    exact hB.len0 hr hj
   rw[<-DI]at q
   have hw:cV s 0=⟨x,y,s.dir⟩:=by
    injection q with q1 q2
    unfold cV;rw[q1,q2]
   have mG:cV s 0∈sE s:=KO.2 ⟨0,hl,rfl⟩
   rw[hw]at mG
   have hpos:=List.count_pos_iff.2 mG
   have hd:=s.dir_lt
   have h4:s.dir=0\/s.dir=1\/s.dir=2\/s.dir=3:=oM
   rcases h4 with e|e|e|e<;>rw[e]at hpos<;>omega
  .rw[iN q];omega
 obtain⟨g1,g2⟩:=aL2 (c x y) (c (x-1) y) (c (x-1) (y-1)) (c x (y-1))
 by_cases z2:dP (fun d=>if bD5 (c x y) (c (x-1) y) (c (x-1) (y-1)) (c x (y-1)) d=ι then 1 else 0) 4=2
 .obtain⟨a1,a2,a3⟩:=g2 z2
  rw[<-a1,<-a2]at m1 m2
  cases q1:c x y<;>cases q2:c (x-1) y<;>rw[q1,q2]at a3 m1 m2<;>simp at a3 m1 m2<;>omega
 .by_cases z0:((EL.flatten.map Sg.st).count (x,y))=0
  .omega
  .
   have bv6:0<((RL.flatten.map Sg.st).count (x,y)):=by
    have hm:(x,y)∈EL.flatten.map Sg.st:=List.count_pos_iff.1 oM
    obtain⟨s,hs,AF⟩:=List.mem_map.1 hm
    obtain⟨E,hE,bn⟩:=List.mem_flatten.1 hs
    obtain⟨r,hr,rfl⟩:=List.mem_iff_getElem.1 hE
    obtain⟨i,hi,rfl⟩:=List.mem_iff_getElem.1 bn
    have er:EL[r]=EL.getD r []:=by simp[Ω,hr]
    have ei:EL[r][i]=(EL.getD r []).getD i Γ:=by rw[<-er];simp[Ω,hi]
    rw[ei]at AF hs
    rw[er]at hi
    have hn:=hB.two r hr
    obtain⟨j,hj,hji⟩:∃j,j<(EL.getD r []).length/\(j+1)%(EL.getD r []).length=i:=by
     by_cases q:i=0
     .exact⟨(EL.getD r []).length-1,oM,by rw[show(EL.getD r []).length-1+1=(EL.getD r []).length by omega,mY,q]⟩
     .exact⟨i-1,oM,by rw[show i-1+1=i by omega,aT hi]⟩
    have GG:=hB.ring r hr j hj
    rw[hji,AF]at GG
    have Vf:=hB.len0 hr hj
    have DN:=hB.len0 hr hi
    have nj:=MW (hB.long r hr j hj)
    rw[GG]at nj
    have ru:dK xs.length ys.length EL.flatten=c:=by funext i k;exact oV i k
    have FU:=hB.turn r j hr hj
    rw[hji,nj,ru]at FU
    have hb:=hB.bord hr hj (t:=((EL.getD r []).getD j Γ).len-1) oM
    rw[nj,ru]at hb
    have hdf:=hB.diff r j hr hj
    rw[hji]at hdf
    have hjm:(EL.getD r []).getD j Γ∈EL.flatten:=List.mem_flatten.2 ⟨_,aN hr [],aN hj Γ⟩
    have lv:=(Ib _ hjm (((EL.getD r []).getD j Γ).len-1) oM).2
    rw[nj]at lv
    have lw:=(Ib _ hs 0 DN).2
    have Yl:cV ((EL.getD r []).getD i Γ) 0=⟨x,y,((EL.getD r []).getD i Γ).dir⟩:=by
     rw[<-DI]at AF
     injection AF with q1 q2
     unfold cV;rw[q1,q2]
    rw[Yl]at lw FU
    have J5:=((EL.getD r []).getD j Γ).dir_lt
    generalize((EL.getD r []).getD j Γ)=s at *
    generalize((EL.getD r []).getD i Γ)=q at *
    obtain⟨t,t4,et,en,-⟩:=rT hb
    obtain⟨s1,s2⟩:=OH x y J5
    have ed:(DJ x y s.dir).d=s.dir:=rfl
    rw[ed,s1,s2]at et en
    rw[en]at FU
    injection FU with e1 e2 e3
    have Ut:bD4 (c x y) (c (x-1) y) (c (x-1) (y-1)) (c x (y-1)) s.dir=ι:=by
     have hb2:=hb
     unfold eX at hb2
     rw[ed,decide_eq_true J5,iO,BE c _ _ J5,s1,s2]at hb2
     exact hb2
    by_cases ct:t%2=s.dir%2
    .
     have Dn:q.dir=s.dir:=by
      have:=rE hb
      rw[en]at this
      have h5:=this.2.2.2.2
      simp only[ed]at h5
      omega
     have Ii:s.side≠q.side:=by
      rcases hdf with e|e
      .exact absurd Dn.symm e
      .exact e
     refine aG fun hz=>Ii ?_
     have Q8:∀p∈RL.flatten,p.st≠(x,y):=fun p hp e=>hz (List.count_pos_iff.2 (List.mem_map.2 ⟨p,hp,e⟩))
     have bs4:∀p∈RL.flatten,p.en≠(x,y):=fun p hp e=>by
      obtain⟨E2,hE2,hpE⟩:=List.mem_flatten.1 hp
      obtain⟨r2,Pw,rfl⟩:=List.mem_iff_getElem.1 hE2
      obtain⟨i2,hi2,rfl⟩:=List.mem_iff_getElem.1 hpE
      have er2:RL[r2]=RL.getD r2 []:=by simp[Ω,Pw]
      have ei2:RL[r2][i2]=(RL.getD r2 []).getD i2 Γ:=by rw[<-er2];simp[Ω,hi2]
      rw[er2]at hi2
      rw[ei2]at e
      have aK0:=XD r2 Pw i2 hi2
      rw[e]at aK0
      exact Q8 _ (List.mem_flatten.2 ⟨_,aN Pw [],aN (aV _ oM) Γ⟩) aK0.symm
     have hL:nO RL.flatten (DJ x y s.dir)=nO RL.flatten ⟨x,y,q.dir⟩:=Ub fun p hp=>by
      rw[Dn]
      exact aL1 J5 (Q8 p hp) (bs4 p hp)
     rw[lv,lw]at hL
     exact dZ hL
    .have:=yt (c x y) (c (x-1) y) (c (x-1) (y-1)) (c x (y-1)) ⟨s.dir,J5⟩ Ut (by rw[<-et];exact ct)
     omega
   omega
section
variable{fs:List Fr}{z:List UInt8}
theorem MX:FY fs z Ab=ν↔∀ps∈Ab,∀k,k<ps.length->EF fs z ps k=ν:=by
 unfold FY;rw[bJ];constructor
 .intro h ps lI k hk;obtain⟨i,hi,rfl⟩:=List.mem_iff_getElem.1 lI;have h1:=h i hi;unfold TI at h1;rw[show Ab.getD i []=Ab[i] by simp[Ω,hi]]at h1;exact bJ.1 h1 k hk
 .intro h i hi;unfold TI;exact bJ.2 fun k hk=>h _ (aN hi []) k hk
theorem XN{m:Nat}(h:∀k,k<ps.length->EF fs z ps k=ν)(hl:qs.length=ps.length)(hq:∀i,i<ps.length->qs.getD i Γ=ps.getD ((i+m)%ps.length) Γ):∀k,k<qs.length->EF fs z qs k=ν:=fun k hk=>by
 rw[hl]at hk
 have hm:∀i,i%ps.length<ps.length:=fun i=>aV _ oM
 have:=h ((k+m)%ps.length) (hm _)
 unfold EF at this|-
 rw[hl,hq k hk,hq _ (hm _)]
 rw[show((k+1)%ps.length+m)%ps.length=((k+m)%ps.length+1)%ps.length by rw[eV,eV];congr 1;omega]
 exact this
theorem nk(h:ps∈sV fs at' Ab):∃qs∈Ab,ps=mU fs at' qs:=by
 unfold sV at h;obtain⟨qs,h1,h2⟩:=List.mem_map.1 ((mK _).mem_iff.1 h);exact⟨qs,h1,h2.symm⟩
theorem Sn(at' Ab):(sV fs at' Ab).flatten.length=Ab.flatten.length:=by
 unfold sV;rw[((mK _).flatten).length_eq,(FH fs at' Ab).length_eq]
theorem aL3(h:FY fs z Ab=ν)(h0:∀ps∈Ab,0<ps.length):FY fs z (sV fs at' Ab)=ν:=by
 rw[MX]at h|-;intro ps lI;obtain⟨qs,hq,rfl⟩:=nk lI;exact XN (m:=gO fs at' qs qs.length) (h qs hq) (vA ..) fun i hi=>Dh qs (h0 qs hq) i hi
end
structure So(fs:List Fr)(z:List UInt8)(aZ:List Lp):Prop where
 lz:Lz z
 trd:Trd fs (dL fs z) aZ
 amb:FY fs z (aZ.map Lp.ps)=ν
 ok:Dw aZ
 cnt:(aZ.flatMap Lp.ps).length<=12
theorem tS(aZ:List Lp):aZ.flatMap Lp.ps=(aZ.map Lp.ps).flatten:=fT ..
theorem FJ(h:∀l∈aZ,4<=l.ps.length):4*aZ.length<=(aZ.flatMap Lp.ps).length:=by
 induction aZ with
 |nil=>exact θ _
 |cons l aZ ih=>
  rw[gS,aJ,aC];have h1:=h l (bO ..);have h2:=ih fun m hm=>h m (cC _ hm);omega
theorem aQ3(sR:∀ f∈fs,f.Ok)(Vj:fs.length<=12)(hz:Lz z)(My:Dw ls)(ha:oI fs (dL fs z) ls ν=ι)(hn:(ls.flatMap Lp.ps).length<=12)(hc:(nY fs (dL fs z) ls).flatten.length<=12)(he:lY fs ls z=0)(hm:aZ.map Lp.ps=nP fs ls z):So fs z aZ:=by
 have Vf:=FJ fun l hl=>(sU (wZ ha l hl)).1;have hT:=TJ sR My hz ha Vj oM oM;have Bo:aZ.map Lp.ps=sV fs (dL fs z) (nY fs (dL fs z) ls):=by
  rw [hm];unfold nP;rw [ip he]
 have hcl:(aZ.flatMap Lp.ps).length<=12:=by rw [tS,Bo,Sn];exact hc
 have XJ:FY fs z (nY fs (dL fs z) ls)=ν:=by
  unfold lY at he;refine aG fun q=>?_;rw [ip (by simpa using q)] at he;exact absurd he dD
 have mG:∀ l∈aZ,∃ qs∈nY fs (dL fs z) ls,l.ps=mU fs (dL fs z) qs:=fun l hl=>nk (by rw [<- Bo];exact dC hl);have yX:Dw aZ:=fun l hl=>by
  obtain⟨qs,hq,e⟩:=mG l hl;refine⟨?_,fun p hp=>?_⟩
  .have:l.ps.length<=(aZ.flatMap Lp.ps).length:=by
    obtain⟨a,b,rfl⟩:=List.append_of_mem hl;rw [kA,gS,aJ,aJ];omega
   omega
  .rw [e] at hp;have hk:=hT.ok.ok qs hq p (N8 hp);refine⟨?_,hk.en⟩;have h1:=hk.x;have h2:=hk.y;unfold bA at h1 h2;by_cases c:(fs.getD p.side.toNat Γ).up=ι
   .rw [ip c] at h2;exact h2
   .rw [iN c] at h1;exact h1
 have h4:∀ ps∈nY fs (dL fs z) ls,0 < ps.length:=fun ps lI=>(hT.ok.len ps lI).1;have hll:aZ.length<=1000:=by
  have:=congrArg Jr Bo;rw [υ] at this;have h5:(sV fs (dL fs z) (nY fs (dL fs z) ls)).length=(nY fs (dL fs z) ls).length:=by
   unfold sV;rw [(mK _).length_eq,υ]
  have:=hT.ok.n;omega
 exact⟨hz,aZ8 sR hz hT.g ha Bo yX hll oM,by rw [Bo];exact aL3 XJ h4,yX,hcl⟩
theorem aw0{y:List UInt8}(sR:∀f∈fs,f.Ok)(hy:Lz y)(yX:Dw aZ)(hm:xE.map Lp.ps=bv8 fs (dL fs y) aZ)(hs:∀p∈aZ.flatMap Lp.ps,∃t:Nat,p.side=t/\t<fs.length):Dw xE/\(xE.flatMap Lp.ps).length=(aZ.flatMap Lp.ps).length:=by
 have hsm:∀t,t<fs.length->Sm ((dL fs y).getD t []):=fun t ht=>ae0 sR hy _ (aN (by rw[uS];exact ht) []);constructor
 .intro l hl;have:l.ps∈bv8 fs (dL fs y) aZ:=by rw[<-hm];exact dC hl
  obtain⟨o,ho,e⟩:=List.mem_map.1 this;rw[<-e,nM];refine⟨(yX o ho).1,fun p hp=>?_⟩;have hop:=(yX o ho).2;have hos:∀q∈o.ps,∃t:Nat,q.side=t/\t<fs.length:=fun q hq=>hs q (List.mem_flatMap.2 ⟨o,ho,hq⟩);obtain⟨k,hk,rfl⟩:=List.mem_map.1 hp;rw[xS]at hk;have hm1:(k+o.ps.length-1)%o.ps.length<o.ps.length:=aV _ oM;have Bo:(k+1)%o.ps.length<o.ps.length:=aV _ oM;obtain⟨t1,a1,b1⟩:=hos _ (aN hm1 Γ);obtain⟨t2,a2,b2⟩:=hos _ (aN Bo Γ);have hq:=hop _ (aN hk Γ);unfold Nu;simp only;rw[a1,a2];constructor
  .split
   .exact hq.1
   .exact hsm t1 b1
  .split
   .exact hq.2
   .exact hsm t2 b2
 .rw[tS,hm,tS];unfold bv8;induction aZ with
  |nil=>rfl
  |cons l aZ ih=>
   rw[fN,fN,jP,jP,aJ,aJ,nM];have e:∀aZ:List Lp,(aZ.map fun l=>uW fs (dL fs y) l.ps).flatten.length=(aZ.map Lp.ps).flatten.length:=fun aZ=>by
    induction aZ with
    |nil=>rfl
    |cons l aZ ih=>rw[fN,fN,jP,jP,aJ,aJ,nM,ih]
   rw[e]
theorem aL4{y:List UInt8}{qK:List Lp}(sR:∀f∈fs,f.Ok)(Vj:fs.length<=12)(h:So fs z aZ)(hy:Lz y)(hv:nN fs aZ z y=0)(hm:xE.map Lp.ps=oJ fs aZ z y)(hW:oI fs (dL fs y) xE ν=ι)(ht:lY fs xE y=0)(hl:qK.map Lp.ps=nP fs xE y):So fs y qK:=by
 have Bo:xE.map Lp.ps=bv8 fs (dL fs y) aZ:=by rw[hm];unfold oJ;rw[ip hv]
 unfold nN at hv;have Q8:¬((fQ y z).1<0\/Zq fs z y):=fun q=>by rw[ip q]at hv;exact absurd hv dD
 rw[not_or]at Q8;have ci:bZ z<=bZ y:=by
  have hlt:=hy.sm.lt h.lz.sm;refine aG fun q=>Q8.1 (hlt.2 ?_);grind
 obtain⟨mok,mcn⟩:=aw0 sR hy h.ok Bo fun p hp=>(h.trd.part p hp).1.side;have hcn:(xE.flatMap Lp.ps).length<=12:=by rw[mcn];exact h.cnt
 have Vf:=FJ fun l hl=>(sU (wZ hW l hl)).1;have hg:=G3 sR mok hy hW oM oM;obtain⟨ax,-⟩:=gR hg.nx;obtain⟨ay,-⟩:=gR hg.ny;have h01:=aK9 sR h.trd h.amb Bo Q8.2 ci hW ax ay hg.p;have hc:=Uc hg hW h01;exact aQ3 sR Vj hy mok hW hcn (Nat.le_trans hc hcn) ht hl
section
variable{fs:List Fr}{z:List UInt8}{aZ:List Lp}
theorem So.len(h:So fs z aZ):aZ.length<=3/\∀l∈aZ,4<=l.ps.length/\l.ps.length<=12:=by
 have h1:=FJ h.trd.four;have h2:=h.cnt;refine⟨oM,fun l hl=>⟨h.trd.four l hl,?_⟩⟩;obtain⟨a,b,rfl⟩:=List.append_of_mem hl;rw[kA,gS,aJ,aJ]at h2;omega
end
end
section
open Go Go.RowKit Go.Lib
theorem aL5(h:bl0 rs N)(Oj:bY (aF rs) N<=12)(CF:(fP (aF rs) N).length=bY (aF rs) N){b:List UInt8}(hb:oL (cK rs) (fP (aF rs) N) (bY (aF rs) N) b)(hm:∀z,oL (cK rs) (fP (aF rs) N) (bY (aF rs) N) z->bZ b<=bZ z)(hl:aZ.map Lp.ps=Cv rs N):So (fP (aF rs) N) b aZ:=by
 obtain⟨h1,h2,h3⟩:=h.ls aZ hl;obtain⟨hz,uE⟩:=h.at' b hb hm;obtain⟨ha,he,hv⟩:=uE aZ hl;have hT:=TJ h.fs h1 hz (ha ν) oM (by have:=h.n12;omega) oM;refine aQ3 h.fs oM hz h1 (ha ν) oM ?_ he (by rw[hv,hl]);have e:sV (fP (aF rs) N) (dL (fP (aF rs) N) b) (nY (fP (aF rs) N) (dL (fP (aF rs) N) b) aZ)=aZ.map Lp.ps:=by
  unfold nP at hv;rw[ip he]at hv;rw[hv,hl]
 rw[<-Sn (dL (fP (aF rs) N) b),e,<-tS,h2];exact Oj
theorem yu{y:List UInt8}(sR:∀f∈fs,f.Ok)(h:So fs z aZ)(hy:Lz y)(hv:nN fs aZ z y=0)(hm:xE.map Lp.ps=oJ fs aZ z y):oI fs (dL fs y) xE ν=ι:=by
 have Bo:xE.map Lp.ps=bv8 fs (dL fs y) aZ:=by rw[hm];unfold oJ;rw[ip hv]
 unfold nN at hv;have Q8:¬((fQ y z).1<0\/Zq fs z y):=fun q=>by rw[ip q]at hv;exact absurd hv dD
 rw[iN Q8]at hv;rw[not_or]at Q8;have ci:bZ z<=bZ y:=by
  have hlt:=hy.sm.lt h.lz.sm;refine aG fun q=>Q8.1 (hlt.2 ?_);grind
 have aQ4:((bv8 fs (dL fs y) aZ).flatten.any (BX fs))=ν:=by
  refine aG fun q=>?_;rw[ip (by simpa using q)]at hv;exact absurd hv dD
 rw[List.any_eq_false]at aQ4;refine Dj fun l hl=>?_;have hlm:l.ps∈bv8 fs (dL fs y) aZ:=by rw[<-Bo];exact dC hl
 have PI:∀p∈l.ps,¬BX fs p=ι:=fun p hp=>aQ4 p (List.mem_flatten.2 ⟨_,hlm,hp⟩);obtain⟨o,ho,e⟩:=List.mem_map.1 hlm;obtain⟨w1,w2,w3⟩:=sU (wZ (h.trd.whole ν) o ho);have XJ:=(MX.1 h.amb) o.ps (dC ho);have hln:l.ps.length=o.ps.length:=by rw[<-e,nM]
 have Ii:∀i,i<o.ps.length->∃t:Nat,(o.ps.getD i Γ).side=t/\t<fs.length:=fun i hi=>(h.trd.part _ (List.mem_flatMap.2 ⟨o,ho,aN hi Γ⟩)).1.side;unfold oH;rw[hln,aI,aI,decide_eq_true_eq,bX,bX];have ij:∀i,i%o.ps.length<o.ps.length:=fun i=>aV _ oM;refine⟨⟨w1,bJ.2 fun i hi=>?_⟩,bJ.2 fun i hi=>?_⟩
 .unfold Za;have hb:=PI _ (aN (by rw[hln];exact hi) Γ:l.ps.getD i Γ∈l.ps);have hs:(l.ps.getD i Γ).side=(o.ps.getD i Γ).side:=by rw[<-e,zF hi];rfl
  obtain⟨t,t1,t2⟩:=Ii i hi;unfold BX at hb;unfold BN;rw[hs,t1,decide_eq_true (show(0:Int)<=(t:Int) by omega),decide_eq_true (show(t:Int)<(fs.length:Int) by omega)];simp only[decide_eq_true_eq]at hb;rw[decide_eq_false hb];rfl
 .unfold Zb;rw[hln];have hj:=w3 i hi;have ha:=XJ i hi;have hmi:=ij (i+1);rw[<-e,zF hi,zF hmi];obtain⟨t,t1,t2⟩:=Ii i hi;obtain⟨u,u1,u2⟩:=Ii _ hmi;have ba2:((i+1)%o.ps.length+o.ps.length-1)%o.ps.length=i:=by
   by_cases q:i+1<o.ps.length
   .rw[aT q,show i+1+o.ps.length-1=i+o.ps.length by omega,gQ,aT hi]
   .rw[show i+1=o.ps.length by omega,mY,bD,aT oM];omega
  rw[ba2];unfold Nu EF at *;unfold AH at hj|-;simp only at hj|-;have tp:(o.ps.getD i Γ).side.toNat=t:=by rw[t1];rfl
  have uq:(o.ps.getD ((i+1)%o.ps.length) Γ).side.toNat=u:=by rw[u1];rfl
  unfold yG;rw[tp,uq]at hj ha|-;rw[vS];by_cases c:(fs.getD t Γ).up=(fs.getD u Γ).up
  .rw[c]at hj ha|-;simp only[bne_self_eq_false,aK,if_false,if_true,beq_self_eq_true,iO,aI,beq_iff_eq]at hj ha|-;refine⟨⟨hj.1.1,hj.1.2⟩,?_⟩;have hsp:FP (fs.getD t Γ) z=FP (fs.getD u Γ) z:=by simpa using ha
   exact LU sR Q8.2 ci t2 u2 hj.1.1 hsp hj.2
  .have hne:((fs.getD t Γ).up !=(fs.getD u Γ).up)=ι:=by rw[bne_iff_ne];exact c
   rw[ip hne,iN c,iN c];simp
theorem ba3{y:List UInt8}(sR:∀f∈fs,f.Ok)(h:So fs z aZ)(hy:Lz y)(hm:xE.map Lp.ps=oJ fs aZ z y):Dw xE/\(xE.flatMap Lp.ps).length<=12/\oI fs (dL fs y) xE ν=ι/\xE.length<=24:=by
 by_cases hv:nN fs aZ z y=0
 .have Bo:xE.map Lp.ps=bv8 fs (dL fs y) aZ:=by rw[hm];unfold oJ;rw[ip hv]
  obtain⟨a,b⟩:=aw0 sR hy h.ok Bo fun p hp=>(h.trd.part p hp).1.side;have hc:=h.cnt;have hw:=yu sR h hy hv hm;have Vf:=FJ fun l hl=>(sU (wZ hw l hl)).1;exact⟨a,oM,hw,oM⟩
 .have e:xE=[]:=by
   unfold oJ at hm;rw[iN hv]at hm;exact List.map_eq_nil_iff.1 hm
  subst e;exact⟨fun l hl=>absurd hl sP,aP _,Dj fun l hl=>absurd hl sP,aP _⟩
end
section
open Go Go.RowKit Go.Shelf Go.Lib
theorem yU{fn:Func}{t u v x:Tmp}(h:fn.results= #[.tmp t,.tmp u,.tmp v,.tmp x])(tmps P w):
 (results fn tmps).run P w=.ok (bT #[tmps.getD t ψ,tmps.getD u ψ,tmps.getD v ψ,tmps.getD x ψ]) w:=by
 simp[results,h]
def XO(fs:List Fr)(n:Nat)(w':η)(e:Ending):Prop:=
 (∃fv lv zv,e=σ (bT #[fv,lv,zv,ω ν]))\/∃fa fc la lc z,∃aZ:List Lp,e=σ (bT #[Θ fa n fc,Θ la aZ.length lc,Δ (bs z),ω ι])/\So fs z aZ/\(∀l∈aZ,l.ps.length<=l.cap)/\n<=fc/\yA w' fa fs/\CE w' la aZ
def MvC(fs:List Fr)(n:Nat)(fa:Option bW)(fc:Nat)(B:Nat)(w:η):Prop:=
 ∀z aZ la lc y,So fs z aZ->Lz y->∀W,Below B w W->CE W la aZ->aE γ 17 #[Θ fa n fc,Θ la aZ.length lc,Δ (bs z),Δ (bs y)] W fun e w'=>(∃ma mc me,∃xE:List Lp,e=σ (bT #[Θ ma xE.length mc,Υ Ξ me])/\CE w' ma xE/\
  ∀V,Below B w V->CE V ma xE->aE γ 10 #[Θ fa n fc,Θ ma xE.length mc,Δ (bs y)] V fun e v'=>(∃ta tc te,∃qK:List Lp,e=σ (bT #[Θ ta qK.length tc,Υ Ξ te])/\CE v' ta qK/\(∀l∈qK,l.ps.length<=l.cap)/\(me=0->te=0->So fs y qK))/\Bw V v')/\Bw W w'
theorem ba4{n:Nat}{fa:Option bW}{fc:Nat}{B:Nat}{w:η}(hE:∀W,Below B w W->mV W)(hF:∀W,Below B w W->yA W fa fs)(sR:∀f∈fs,f.Ok)(hl:fs.length=n)(Oj:n<=12)(hc:n<=fc):MvC fs n fa fc B w:=by
 intro z aZ la lc y hI hy W hW hr;obtain⟨l1,l2⟩:=hI.len;have hT:J2 W fa la n aZ.length fs aZ:=⟨hl,rfl,oM,oM,sR,hI.ok,hF W hW,hr⟩;refine(bx9 fa la n aZ.length fc lc fs aZ z y W (hE W hW) hT hc hI.lz hy (hI.trd.whole ι)).mono ?_;rintro e w'⟨⟨ma,mc,xE,rfl,hm,hrm⟩,hb⟩;refine⟨⟨ma,mc,_,xE,by rw[<-hm,υ],hrm,fun V hV hrV=>?_⟩,hb⟩;obtain⟨m1,m2,m3,m4⟩:=ba3 sR hI hy hm;have hT2:J2 V fa ma n xE.length fs xE:=⟨hl,rfl,oM,m4,sR,m1,hF V hV,hrV⟩;refine(Ow fa ma n xE.length fc mc fs xE y V (hE V hV) hT2 Oj oM hy m3).mono ?_;rintro e v'⟨⟨ta,tc,qK,rfl,ht,hrt,hlc⟩,hb⟩;exact⟨⟨ta,tc,_,qK,by rw[<-ht,υ],hrt,hlc,fun h1 h2=>aL4 sR oM hI hy h1 hm m3 h2 ht⟩,hb⟩
theorem yw(a:Option bW)(N cap:Nat)(rs:List Rg)(st:Nat)(w:η)(AF:st<=255)(hl:rs.length=N)(hN:N<=40)(hn:∀r,(aF rs r).length<=1000)(rr:GB w a rs)(h0:oX (aF rs) N=0)(Oj:bY (aF rs) N<=12)(hE:mV w)(hD:KH w):
 aE γ 7 #[.agg #[Θ a N cap],Υ .u8 st] w fun e w'=>XO (fP (aF rs) N) (bY (aF rs) N) w' e/\Bw w w':=by
 have HF:=zq (Sa hl h0 Oj);have CF:=nG (aF rs) N;have Ov:=zq CF;have HFA:=zq (fun W(hW:Bw w W)=>an a N cap rs W hl oM hn (rr.below hW) h0 (hE.below hW) (hD.below hW) fun V hV=>FD a N cap rs V hl oM hn (rr.below (aW hW hV)) h0);have HBg:=zq (fun W(hW:Bw w W)=>ar4 a N cap rs W hl oM hn (rr.below hW) h0 (hE.below hW) (hD.below hW));have HBa:=zq (fun W(hW:Bw w W)=>aH9 a N cap rs W hl oM hn (rr.below hW) h0 (hE.below hW) (hD.below hW) HF.o.some);have PD:=zq (fun z(hz:Lz z)W(hW:Bw w W)=>aJ3 a N cap rs W hl oM hn (rr.below hW) h0 (hE.below hW) (hD.below hW) HF.o.some HF.o.fs z hz);have Vy:aQ (∀W,Bw w W->mV W):=fun W hW=>hE.below hW;have yx:=zq Oj;have fL:=nA w (π #[Θ a N cap] 24);have vH:=bE.new w #[Θ a N cap] 24;obtain⟨W0,fI⟩:=nm (w.alloc (π #[Θ a N cap] 24));rw[fI]at fL vH;have gH:=zq fL;have rD:=zq vH;have b0:=vH.ce 0;have HW:=zq fI;have hs6:st%6<6:=aV _ dD;have aL6:((st:Int)).tmod 6=((st%6:Nat):Int):=by rw[Int.tmod_eq_emod_of_nonneg oM];rfl
 obtain⟨K,hK⟩:=nm (st%6);rw[hK]at hs6 aL6;have hw8:IntKind.i64.wrap (st:Int)=st:=aM _ oM;obtain⟨Q,hQ⟩:=nm (XO (fP (aF rs) N) (bY (aF rs) N));have HQ:aQ (∀W e,XO (fP (aF rs) N) (bY (aF rs) N) W e->Q W e):=fun W e h=>by rwa[<-hQ]
 rw[hQ];clear hE hD rr hN hl h0 hQ hn CF Oj fL vH fI hK;go_enter func7,ntmps7;go_upto_region 1 with(fail)
 rw[HW.o];clear HW;have H2:=zq (HFA.o _ gH.o);clear HFA;go_wp2_with fail
 refine H2.o.mono ?_;rintro e W2⟨⟨v1,rfl,PZ⟩,hb⟩;obtain⟨fa,fc,rfl⟩:=E5 PZ;have Pb:=zq (yA.own PZ);have HFc:=zq (TS PZ);have eU:=gH.bS hb;have b0:=aY hb b0;have H3:=zq (HBg.o _ eU.o);clear hb PZ H2 gH HBg;go_wp2_with fail
 refine H3.o.mono ?_;rintro e W3⟨⟨v2,aZ,rfl,ho2,Bo⟩,hb⟩;obtain⟨la,lc,rfl⟩:=E5 ho2.1;have PN:=zq (Pb.o.below hb);have HB3:=eU.bS hb;have b0:=aY hb b0;have HL3:=zq (gM.reads ho2);have HC3:aQ (∀l∈aZ,l.ps.length<=l.cap):=fun l hl=>TS (ho2.2 l hl);have HM3:aQ (aZ.map Lp.ps=Cv rs N):=Bo;have H4:=zq (HBa.o _ HB3.o);clear hb ho2 Bo H3 Pb eU HBa;go_wp2_with fail
 refine H4.o.mono ?_;rintro e W4⟨⟨b,rfl,AF,hmn⟩,hb⟩;have HF4:=zq (PN.o.below hb);have HL4:=zq (HL3.o.below hb);have HB4:=HB3.bS hb;have b0:=aY hb b0;have HI4:=zq (aL5 HF.o yx.o Ov.o AF hmn HM3.o);have HMv:=zq (ba4 (B:=W4.heap.size) (w:=W4) (fun W hW=>Vy.o _ (aW HB4.o hW)) (fun W hW=>HF4.o.below hW) HF.o.fs Ov.o yx.o HFc.o);clear AF hmn hb H4 PN HL3 HB3 HF Ov HM3 Vy yx;generalize bY (aF rs) N=M,fP (aF rs) N=FS at *;go_wp2;go_loopw[10,12,49] (fun l zz i wr=>∃(k lc:Nat)(la:Option bW)(z:List UInt8)(aZ:List Lp),l=Θ la aZ.length lc/\zz=Δ (bs z)/\i=Υ Ξ (k:Int)/\k<=K/\aQ (So FS z aZ)/\aQ (∀l∈aZ,l.ps.length<=l.cap)/\aQ (CE wr la aZ)/\aQ (Bw W4 wr)) (fun _ _ i _=>K-(ξ i).toNat);case atStart=>exact⟨0,lc,la,b,aZ,rfl,rfl,rfl,aP _,HI4,HC3,HL4,μ _ _⟩
 case round=>
  clear HI4 HC3 HL4 hw8 aL6;obtain⟨k,lc1,la1,z,lo1,rfl,rfl,rfl,hk,HI,vi,HL,HB⟩:=hrel;rename η=>wr;have wF:=zq (aW HB4.o HB.o);by_cases hlt:k<K
  .have aC4:(k:Int)<K:=oM;have b0:=aY HB.o b0;have HN:=zq (PD.o z HI.o.lz wr wF.o);go_wp2_with fail
   refine HN.o.mono ?_;rintro e W5⟨rfl|⟨y,rfl,hy,-⟩,hb⟩
   .have wG:=wF.bS hb;have HR:aQ (XO FS M W5 (σ (bT #[Θ fa M fc,Θ la1 lo1.length lc1,Δ (bs z),ω ι]))):=.inr ⟨fa,fc,la1,lc1,z,lo1,rfl,HI.o,vi.o,HFc.o,(HF4.o.below HB.o).below hb,HL.o.below hb⟩;clear hb HN b0 HMv PD HI HL vi;go_wp2;try simp only[Lc,Exit.then]
    refine cU (yU rfl _ _ _) rfl ?_;exact⟨HQ.o _ _ HR.o,wG.o⟩
   .have wG:=zq (HB.o.trans (hb.mono HB.o.size));have HL5:=zq (HL.o.below hb);have HMo:=zq (HMv.o z lo1 la1 lc1 y HI.o hy W5 wG.o HL5.o);clear hb HN PD HB wF HL hy b0;generalize bs z=SZ at *;go_wp2_with fail
    refine HMo.o.mono ?_;rintro e W6⟨⟨ma,mc,me,xE,rfl,hrm,hTr⟩,hb⟩;have xU:=zq (wG.o.trans (hb.mono wG.o.size));have HT6:=zq (hTr W6 xU.o hrm);clear hb HMo wG HL5 hrm hTr;go_wp2_with fail
    refine HT6.o.mono ?_;rintro e W7⟨⟨ta,tc,te,lo2,rfl,hrt,hlc,AF⟩,hb⟩;have Dx:=zq (xU.o.trans (hb.mono xU.o.size));have HL7:=zq hrt;have HC7:=zq hlc;have HS7:=zq AF;clear hb hrt hlc AF HT6 xU HI vi;by_cases hm:me=0
    .subst hm;by_cases ht:te=0
     .subst ht;have HS8:=zq (HS7.o rfl rfl);clear HS7;go_wp2;go_roundw;case rel=>exact⟨k+1,tc,ta,y,lo2,rfl,rfl,by go_num,oM,HS8.o,HC7.o,HL7.o,Dx.o⟩
      case measure=>simp only[ξ];omega
     .have htb:(te==0)=ν:=by simpa using ht
      go_wp2;try simp only[Lc,Exit.then]
      refine cU (yU rfl _ _ _) rfl ?_;exact⟨HQ.o _ _ (.inl ⟨_,_,_,rfl⟩),aW HB4.o Dx.o⟩
    .have hmb:(me==0)=ν:=by simpa using hm
     go_wp2;try simp only[Lc,Exit.then]
     refine cU (yU rfl _ _ _) rfl ?_;exact⟨HQ.o _ _ (.inl ⟨_,_,_,rfl⟩),aW HB4.o Dx.o⟩
  .obtain rfl:k=K:=oM;have HR:aQ (XO FS M wr (σ (bT #[Θ fa M fc,Θ la1 lo1.length lc1,Δ (bs z),ω ι]))):=.inr ⟨fa,fc,la1,lc1,z,lo1,rfl,HI.o,vi.o,HFc.o,HF4.o.below HB.o,HL.o⟩;clear b0 HMv PD HI HL vi;go_wp2;try simp only[Lc,Exit.then]
   refine cU (yU rfl _ _ _) rfl ?_;exact⟨HQ.o _ _ HR.o,wF.o⟩
end
section
open Go Go.RowKit Go.Lib Go.Deep
section
variable{H:Type}{enc:cS×χ->H}{w:η}{cH:Nat}{Jl:Nat->Bool}{zU:Bool}
theorem ba5(b off n):(⟨b,off,δ⟩:bW).add n=⟨b,off+n,δ⟩:=by unfold Addr.add;split <;>simp_all
theorem Sq{v:χ}(h:w.cell? (a.add 0)=ζ v):∃b off,a=⟨b,off,δ⟩:=by
 obtain⟨b,off,sp⟩:=a;have h:w.cell? ⟨b,off,sp⟩=ζ v:=h;unfold World.cell? at h;split at h
 .split at h
  .cases h
  .rename_i h2;cases sp with
   |none=>exact⟨b,off,rfl⟩
   |some x=>exact absurd rfl h2
 .cases h
theorem aw2:Tryz.prog.cellsOf 4=1:=kF
theorem OP:Tryz.prog.cellsOf 3=1:=kF
theorem ns[Inhabited α]{n:Nat}(F:Nat->α):∃l:List α,l.length=n/\∀i,i<n->l.getD i Γ=F i:=
 ⟨(cI n).map F,sP,fun i hi=>by simp[Ω,hi]⟩
theorem aL7{len m c:Nat}(hm:len<=m)(qp:0<c){G:Nat->Array χ}(hG:∀i,(G i).size=c)(h:∀i,i<m->w.cells? cH (a.add (i*c)) c=ζ (G i).toList):
 ∀i,i<len->∃b off,ζ a=ζ ⟨b,off,δ⟩/\∀j,j<c->w.cell? ⟨b,off+i*c+j,δ⟩=ζ ((G i).getD j ψ):=by
 intro i hi;obtain⟨-,-,k0⟩:=JE (h 0 oM);have k0:=k0 0 qp;rw[vO]at k0;have ha0:(a.add 0).add 0=a.add 0:=rfl;rw[ha0]at k0;have hs:∃v,(G 0).toList[0]? =ζ v:=⟨_,aS (by simp[hG];omega)⟩;obtain⟨v,hv⟩:=hs;obtain⟨b,off,rfl⟩:=Sq (k0.trans hv);refine⟨b,off,rfl,fun j hj=>?_⟩;obtain⟨-,-,ki⟩:=JE (h i oM);have:=ki j hj;rw[ba5,ba5]at this;rw[this];have Dv:j<(G i).size:=by rw[hG];exact hj
 simp[Dv]
end
section
variable{H:Type}{enc:cS×χ->H}{w:η}{cH:Nat}{Jl:Nat->Bool}{zU:Bool}
theorem bm2:Tryz.prog.cellsOf 84=7:=kF
theorem bs5:Tryz.prog.cellsOf 81=1:=kF
theorem bs6:Tryz.prog.cellsOf 22=1:=kF
theorem bs7:Tryz.prog.cellsOf 24=1:=kF
theorem bm3:Tryz.prog.bytesOf 84=56:=kF
theorem za{x:Pk H×List Pm}(h:kC enc γ w cH Jl zU fuel 84 cs=ζ x):∃s:Sd,cs=s.cells.toList:=by
 obtain⟨xs,n,-,-,hl,Yu,hf⟩:=JF underlying84 h;rw[bm2]at hl;match cs,hl with
 |[v0,v1,v2,v3,v4,v5,v6],_=>
  have Yu:xs.length=7:=Yu;match xs,Yu with
  |[x0,x1,x2,x3,x4,x5,x6],_=>
   have h0:kC enc γ w cH Jl zU n 3 (([v0,v1,v2,v3,v4,v5,v6].drop 0).take (Tryz.prog.cellsOf 3))=ζ x0:=hf 0 _ rfl;have h1:kC enc γ w cH Jl zU n 3 (([v0,v1,v2,v3,v4,v5,v6].drop 1).take (Tryz.prog.cellsOf 3))=ζ x1:=hf 1 _ rfl;have h2:kC enc γ w cH Jl zU n 3 (([v0,v1,v2,v3,v4,v5,v6].drop 2).take (Tryz.prog.cellsOf 3))=ζ x2:=hf 2 _ rfl;have h3:kC enc γ w cH Jl zU n 3 (([v0,v1,v2,v3,v4,v5,v6].drop 3).take (Tryz.prog.cellsOf 3))=ζ x3:=hf 3 _ rfl;have h4:kC enc γ w cH Jl zU n 4 (([v0,v1,v2,v3,v4,v5,v6].drop 4).take (Tryz.prog.cellsOf 4))=ζ x4:=hf 4 _ rfl;have h5:kC enc γ w cH Jl zU n 3 (([v0,v1,v2,v3,v4,v5,v6].drop 5).take (Tryz.prog.cellsOf 3))=ζ x5:=hf 5 _ rfl;have h6:kC enc γ w cH Jl zU n 3 (([v0,v1,v2,v3,v4,v5,v6].drop 6).take (Tryz.prog.cellsOf 3))=ζ x6:=hf 6 _ rfl;obtain⟨i0,e0,-⟩:=oS dB (by rw[OP]at h0;exact h0);obtain⟨i1,e1,-⟩:=oS dB (by rw[OP]at h1;exact h1);obtain⟨i2,e2,-⟩:=oS dB (by rw[OP]at h2;exact h2);obtain⟨i3,e3,-⟩:=oS dB (by rw[OP]at h3;exact h3);obtain⟨b,e4,-⟩:=DataW.trod_bool eW (by rw[aw2]at h4;exact h4);obtain⟨i5,e5,-⟩:=oS dB (by rw[OP]at h5;exact h5);obtain⟨i6,e6,-⟩:=oS dB (by rw[OP]at h6;exact h6);cases e0;cases e1;cases e2;cases e3;cases e4;cases e5;cases e6;exact⟨⟨i0,i1,i2,i3,b,i5,i6⟩,rfl⟩
theorem zb{x:Pk H×List Pm}(h:kC enc γ w cH (fun _=>ι) zU fuel 81 cs=ζ x):
 ∃r:Rg,cs=[r.v]/\mJ w r.a r.ss/\((∀n∈x.1.weights γ 81,n<=oT)->r.ss.length*56<=oT):=by
 rcases YK Mt h with⟨rfl,-⟩|⟨a,len,cap,m,n,D,Pl,rfl,-,hl,hm,ij,rfl,hx⟩
 .exact⟨⟨δ,0,[]⟩,rfl,fun i hi=>absurd hi sP,fun _=>sP⟩
 .rw[bm2]at hx;obtain⟨F,hF⟩:=choose_lt (α:=Sd) (p:=fun i f=>w.cells? cH (a.add (i*7)) 7=ζ f.cells.toList) (fun i hi=>by
   obtain⟨cs',h1,h2⟩:=hx i hi;obtain⟨f,rfl⟩:=za h2;exact⟨f,h1⟩)
  obtain⟨ss,h1,h2⟩:=ns (n:=len) F;have hlm:len<=m:=by rw[ij];simp;exact hl
  refine⟨⟨ζ a,cap,ss⟩,by unfold Rg.v;rw[h1],fun i hi=>?_,fun hw=>?_⟩
  .obtain⟨b,off,e,hc⟩:=aL7 (G:=fun i=>(F i).cells) hlm dD (fun i=>rfl) hF i (by rw[<-h1];exact hi);refine⟨b,off,e,fun j hj=>?_⟩;rw[hc j hj];show _=ζ ((ss.getD i Γ).cells.getD j ψ);rw[h2 i (by rw[<-h1];exact hi)]
  .have hm:(((cI len).map D).length+((cI (m-len)).map fun j=>D (len+j)).length)*Tryz.prog.bytesOf 84<=oT:=hw _ (by
    simp only[SA,Mt];exact bO)
   rw[bm3,υ,υ,jQ,jQ]at hm;show ss.length*56<=oT;rw[h1];omega
theorem GJ{P:Program}{e:cS}:∀{l:List (Pk H)} {d:Pk H},d∈l->∀n∈d.weights P e,n∈DataW.weightsAll P e l
 |x::r,d,h,n,hn=>by
  rw[DataW.weightsAll]
  rcases List.mem_cons.1 h with rfl|h
  .exact gU _ hn
  .exact List.mem_append_right _ (GJ h n hn)
theorem da{x:Pk H×List Pm}(h:kC enc γ w cH (fun _=>ι) zU fuel 22 cs=ζ x):
 ∃(a:Option bW)(n ca:Nat)(rs:List Rg),cs=[Θ a n ca]/\rs.length=n/\n<=ca/\ca<=maxLen/\GB w a rs/\((∀k∈x.1.weights γ 22,k<=oT)->∀r∈rs,r.ss.length*56<=oT):=by
 rcases YK underlying22 h with⟨rfl,-⟩|⟨a,len,cap,m,n,D,Pl,rfl,-,hl,hm,ij,rfl,hx⟩
 .exact⟨δ,0,0,[],rfl,rfl,θ _,dD,fun i hi=>absurd hi sP,fun _ r hr=>absurd hr sP⟩
 .rw[bs5]at hx;obtain⟨F,hF⟩:=choose_lt (α:=Rg) (p:=fun i r=>w.cell? (a.add i)=ζ r.v/\mJ w r.a r.ss/\((∀n∈(D i).weights γ 81,n<=oT)->r.ss.length*56<=oT)) (fun i hi=>by
   obtain⟨cs',h1,h2⟩:=hx i hi;obtain⟨r,rfl,h3,h4⟩:=zb h2;obtain⟨-,-,k0⟩:=JE h1;have k:=k0 0 dD;rw[Nat.mul_one]at k;exact⟨r,k,h3,h4⟩)
  obtain⟨rs,h1,h2⟩:=ns (n:=len) F;have hlm:len<=m:=by rw[ij];simp;exact hl
  refine⟨ζ a,len,cap,rs,rfl,h1,hl,hm,fun i hi=>?_,fun hw r hr=>?_⟩
  .have U7:i<len:=by rw[<-h1];exact hi
   obtain⟨b,off,rfl⟩:=Sq (hF 0 oM).1;refine⟨b,off,rfl,?_,?_⟩
   .rw[h2 i U7];have:=(hF i oM).1;rwa[ba5]at this
   .rw[h2 i U7];exact(hF i oM).2.1
  .obtain⟨i,hi,rfl⟩:=List.getElem_of_mem hr;rw[show rs[i]=rs.getD i Γ by simp[Ω,hi],h2 i oM];refine(hF i oM).2.2 fun k hk=>hw k ?_;simp only[SA,underlying22];exact cC _ (gU _ (GJ (List.mem_map.2 ⟨i,List.mem_range.2 oM,rfl⟩) k hk))
theorem zc{x:Pk H×List Pm}(h:kC enc γ w cH (fun _=>ι) zU fuel 24 cs=ζ x)(hw:∀k∈x.1.weights γ 24,k<=oT):
 ∃(a:Option bW)(n ca:Nat)(rs:List Rg),cs=[Θ a n ca]/\rs.length=n/\n<=ca/\ca<=maxLen/\GB w a rs/\∀r∈rs,r.ss.length*56<=oT:=by
 obtain⟨xs,n,-,rfl,hl,Yu,hf⟩:=JF underlying24 h;rw[bs7]at hl;match cs,hl with
 |[v0],_=>
  have Yu:xs.length=1:=Yu;match xs,Yu with
  |[x0],_=>
   have h0:kC enc γ w cH (fun _=>ι) zU n 22 (([v0].drop 0).take (Tryz.prog.cellsOf 22))=ζ x0:=hf 0 _ rfl;rw[bs6]at h0;obtain⟨a,n',ca,rs,e,h1,h2,h3,h4,h5⟩:=da h0;have e:[v0]=[Θ a n' ca]:=e;refine⟨a,n',ca,rs,e,h1,h2,h3,h4,h5 fun k hk=>hw k ?_⟩;simp only[SA,underlying24];show k∈vU γ [22] [x0.1];simp only[vU,List.append_nil];exact hk
end
def aw3:String:=String.ofList ([107,105,110,103,112,111,115,116,47,102,114,111,110,116,46,100,105,114,101,99,116,105,111,110,115].map Char.ofNat)
def XP(u:Bool)(d:Int):Pk Unit:=DataW.agg [Ur (Lit.bool u),Ur (Lit.int Ξ d)]
theorem bm4:Tryz.prog.cellsOf 160=2:=kF
theorem bs8:Tryz.prog.cellsOf 161=8:=kF
theorem FM{H:Type}{enc:cS×χ->H}{w:η}{cH:Nat}{sp:Nat->Bool}{zU:Bool}{x:Pk H×List Pm}{u:Bool}{d:Int}(h:kC enc γ w cH sp zU fuel 160 cs=ζ x)(hx:x.1=DataW.agg [Ur (Lit.bool u),Ur (Lit.int Ξ d)]):cs=[ω u,Υ Ξ d]:=by
 obtain⟨xs,n,-,rfl,hl,Yu,hf⟩:=JF underlying160 h;rw[bm4]at hl;match cs,hl with
 |[v0,v1],_=>
  have Yu:xs.length=2:=Yu;match xs,Yu with
  |[x0,x1],_=>
   have h0:kC enc γ w cH sp zU n 4 (([v0,v1].drop 0).take (Tryz.prog.cellsOf 4))=ζ x0:=hf 0 _ rfl;have h1:kC enc γ w cH sp zU n 3 (([v0,v1].drop 1).take (Tryz.prog.cellsOf 3))=ζ x1:=hf 1 _ rfl;obtain⟨b,e0,k0⟩:=DataW.trod_bool eW (by rw[aw2]at h0;exact h0);obtain⟨i,e1,k1,-⟩:=oS dB (by rw[OP]at h1;exact h1);subst k0 k1;simp only[fN,wS,ez,AZ,DataW.lit.injEq,Lit.bool.injEq,Lit.int.injEq,and_true,true_and]at hx;cases e0;cases e1;rw[hx.1,hx.2]
theorem ba6{W:η}{rest:List (String×Pk Unit)}(hg:Tryz.prog.globalNamed aw3=ζ 0)(hty:(Tryz.prog.globals[0]?).map (·.type)=ζ 161)(h:laidMet γ ((aw3,DataW.agg [XP ν 1,XP ι (-1),XP ν (-1),XP ι 1])::rest) W):KH W:=by
 obtain⟨ps,⟨g',t',cs,fuel,p,q,hg',ht',bs9,hd,_,_⟩,_⟩:=h;obtain rfl:=dZ (hg.symm.trans hg');obtain rfl:=dZ (hty.symm.trans ht');obtain⟨xs,n,-,e,hl,Yu,hf⟩:=DataW.trod_array underlying161 hd;rw[bs8]at hl;rw[bm4]at hf;match xs,Yu with
 |[x0,x1,x2,x3],_=>
  simp only[fN,wS,Prod.mk.injEq,ez,AZ,and_true]at e;obtain⟨⟨e0,e1,e2,e3⟩,-⟩:=e;have k0:=FM (hf 0 dD) e0.symm;have k1:=FM (hf 1 dD) e1.symm;have k2:=FM (hf 2 dD) e2.symm;have k3:=FM (hf 3 dD) e3.symm;have CD:cs.toList=[ω ν,Υ Ξ 1,ω ι,Υ Ξ (-1),ω ν,Υ Ξ (-1),ω ι,Υ Ξ 1]:=by
   match hcl:cs.toList,hl with
   |[v0,v1,v2,v3,v4,v5,v6,v7],_=>
    rw[hcl]at k0 k1 k2 k3;simp only[vO,Nat.one_mul,List.drop_zero,List.take_succ_cons,List.take_zero,List.drop_succ_cons,AZ,and_true,Nat.reduceMul]at k0 k1 k2 k3;rw[k0.1,k0.2,k1.1,k1.2,k2.1,k2.2,k3.1,k3.2]
  intro h4 hh;have hc:=fun i=>World.var?_cell hg bs9 i;have hg':∀i,cs[i]? =cs.toList[i]?:=fun i=>by rw[Array.getElem?_toList]
  rw[hc,hc,hg',hg',CD];obtain rfl|rfl|rfl|rfl:h4=0\/h4=1\/h4=2\/h4=3:=oM;all_goals exact⟨rfl,rfl⟩
end
section
open Go Go.RowKit Go.Lib Go.ChangeShapes Go.WideShapes
theorem ba7:ownKnob Tryz.prog.godebug=δ:=kF
theorem db:laidOutB γ=ι:=kF
theorem aL8:(Rows.laid_internal_strconv_uint64pow10:Pk Unit)=Lib.tabData .u64 Lib.pow10Tab:=kF
theorem aw4{i:Int}(h:(decide (IntKind.u8.min<=i)&&decide (i<=IntKind.u8.max))=ι):∃n:Nat,i=(n:Int)/\n<=255:=by
 rw[aI,decide_eq_true_eq,decide_eq_true_eq]at h;have h1:(0:Int)<=i:=h.1;have h2:i<=255:=h.2;exact⟨i.toNat,oM,oM⟩
theorem Qc{H:Type}{enc:cS×χ->H}{a:Assume}{C:Checked}{os:Os}{f:FuncId}{fn:Func}{s:ChangeSpec}{aQ5:List PathCond}{apart aQ6 nt again:Bool}{X:η->Array χ->Prop}
 (hX:∀(w w':η)(args:Array χ),w.heap=w'.heap->X w args->X w' args)
 (own:ownKnob C.prog.godebug=δ)(Jm:os.Started)(ba8:C.prog.inits.idxOf? f=δ)(hfn:C.prog.funcs[f]? =ζ fn)
 (aL9:∃(w:η)(tape:Tape)(i:Input),w.os=os/\(w.forCall tape i).Shaped C.prog/\i.vars=[]/\Input.okWide C.prog (w.forCall tape i) .any w.heap.size f i/\
  ((s.pre enc C.prog fn aQ5 apart (w.forCall tape i).memory i.args/\X (w.forCall tape i).memory i.args)/\sizedMet enc C.prog fn (yM s) apart (w.forCall tape i).memory i.args)/\a.holds C.prog (lone (Frame.enter C.prog f i.args .normal) [] (w.forCall tape i)))
 (aw5:∀(W:η)(cH:Nat)(args:Array χ)(ds gs:List (Pk H))(KS:List Pm),(∀(j:Nat)t v,fn.params[j]? =ζ t->args[j]? =ζ v->Value.okWide C.prog W .any cH t v)->
  DataW.Whole enc C.prog fn.params.toList s.vars apart W args.toList ds gs KS->(vU C.prog (fn.params.toList++(yM s).bare.plain.varTypes C.prog) (ds++gs)).all (·<=oT)=ι->X W args->W.ShapedOpen C.prog->
  aE C.prog f args W fun e W'=>∃v,e=σ v/\s.post enc C.prog fn apart aQ6 nt again W args v W'):
 ReturnsInHanded a C os f .any (fun w args=>(s.pre enc C.prog fn aQ5 apart w args/\X w args)/\sizedMet enc C.prog fn (yM s) apart w args) (s.post enc C.prog fn apart aQ6 nt again):=by
 refine returnsInHanded_of_calls own Jm ba8 aL9 ?_;intro w tape i _ xC _ yX ba2 _;obtain⟨_,_,_,fn',bt0,_,_,_,_,Ji⟩:=yX;have e:fn'=fn:=dZ (bt0.symm.trans hfn);subst e;obtain⟨⟨⟨ds,gs,KS,hw,_⟩,hx⟩,hz⟩:=ba2;have hz':=hz.weights hw;have hw':=DataW.Whole.of_heap (w':=w.forCall tape i) (by rfl) hw;refine(aw5 (w.forCall tape i) w.heap.size i.args ds gs KS Ji hw' hz' (hX _ _ _ (by rfl) hx) xC).mono fun e W'⟨v,he,hp⟩=>?_;subst he;exact ChangeSpec.post_blind hp
end
end Go.Proofs.YtncclggcfgnhpaaGreatDoor
