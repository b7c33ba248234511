import Derived.Test.YtncclggcfgnhpaaGreatDoorZ4
namespace Go.Proofs.YtncclggcfgnhpaaGreatDoor
set_option maxRecDepth 100000
set_option maxHeartbeats 8000000
set_option linter.all false
open Go.Proofs.Tryz
open _root_.Array renaming replicate->gA,size_append->lM,getElem?_eq_getElem->nI,setIfInBounds_comm->kG,getElem?_eq_none->Du,getElem?_setIfInBounds_ne->K8,size_setIfInBounds->Sw,toArray_toList->YG
open _root_.Bool renaming true->ι,false->ν,and_eq_true->aI,or_eq_true->jZ
open _root_.Classical renaming byContradiction->aG
open _root_.Go renaming World->η,Value->χ,undef->ψ,Calls->aE,Program->cQ,TypeId->cS,heap_setCell_other->dG,below_drewN->dO,wpAnyH_ready->eM,Oper->eZ,Act->iS,info_parts->jJ,Operand->mC,Exit->sG,yielded->rP,ready_mono->oY,wpAnyIn->uM,getD_set_ne->qQ,execOp->uH,maxLen->yE,getD_replicate_false->Ar,builtin->Bh,size_zeroCells->Bj,wpList->Dk,HeadInv->GL,Fence->Jy,getD_both->La,getD_set_true->D5,execOp_put->YH,wpIn_mono->zj
open Go.Act renaming put_comm->L5
open Go.Addr renaming add_lit->qP
open Go.AllReadyH renaming cons->cP,nil->dH
open Go.Calls renaming mono->uN
open Go.Code renaming region->pS
open Go.Ending renaming returned->σ
open Go.Fence renaming wide->eD
open Go.IntKind renaming i64->Ξ
open Go.Obj renaming cells->π
open Go.Op renaming equalIn->Fi
open Go.Oper renaming semAt_plain->pF,wpIn->tB,quietAt->K9,wp->OQ,about->Qi
open Go.Proofs renaming enters_of->iC,sortWorld->KW,ltOf->dm
open Go.Proofs.Any8 renaming slices_Grow_grow->YB
open Go.Proofs.Lays8 renaming n4->Bq
open Go.Proofs.Tryz renaming prog->γ,underlying3->dB,underlying4->eW,zeroValue4->gJ,zeroValue3->gV,sizeOf3->gW,isAgg3->jF,underlying9->jG,sizeOf4->jR,isAgg4->lK,zeroValue9->mB,sizeOf9->oN,underlying0->pK,isAgg9->qH,zeroValue0->rK,underlying32->rQ,sizeOf0->xT,isAgg0->Aj,sizeOf32->Im,isAgg32->K7,underlying20->Mp,zeroValue32->Ms,zeroValue20->OR,sizeOf20->XT,isAgg20->di
open Go.Region renaming ready->cG,wanted->dU,Mode->gD,noSelect->lE,binds->pH
open Go.RowKit renaming intOf->ξ,Hid->aQ
open Go.RowKit.Below renaming refl->μ
open Go.Sem renaming run_pure->D6
open Go.Shelf renaming Ren->iG
open Go.Sort renaming insertionSort->oq
open Go.Value renaming string->Δ,slice->Θ,int->Υ,pointer->aB,agg->bQ,cells->dp
open Go.World renaming block_lt_of_cell?->aD,size_alloc->aL,alloc_heap_new->kZ,ownsRow_nil->rN
open Go.World.ownsRow renaming cellAt->dN,frozenAt->jB
open _root_.Inhabited renaming default->Γ
open _root_.Int renaming toNat_natCast->gG
open _root_.List renaming getD_eq_getElem?_getD->Ω,length_map->υ,length_cons->aC,length_append->aJ,getElem?_eq_getElem->aS,getElem?_cons_zero->aU,setIfInBounds_toArray->aX,length_nil->bB,size_toArray->bI,take_succ_eq_append_getElem->bM,mem_cons_self->bO,mem_cons_of_mem->cC,range->cI,length_drop->dJ,length_take->dR,take_of_length_le->eA,map_congr_left->eB,map_append->dV,map_map->eH,getElem?_append_right->fA,getElem_mem->fJ,map_cons->fN,mem_cons->jT,flatMap_append->kA,append_nil->kQ,getElem?_eq_none->nW,foldl_cons->oB,not_mem_nil->pL,pairwise_cons->pY,append_assoc->sI,take_append_drop->yK,getElem!_eq_getElem?_getD->Mr,drop_eq_getElem_cons->Sy,set_append_right->YC,getElem!_toArray->YD,attach_map_val->ou
open _root_.List.Pairwise renaming nil->Fm
open _root_.Nat renaming le_refl->θ,le_trans->aA,zero_le->aP,mod_lt->aV,zero_add->bD,le_of_lt->fM,lt_or_ge->fO,eq_zero_or_pos->iZ,add_zero->jN,mul_le_mul_right->tA,zero_mul->vO,sub_self->CI,add_assoc->LV
open _root_.Option renaming none->δ,some->ζ,getD_some->bK
variable{W w w2:η}{cH size c g cap G m2 m3 m4 j k B i id t nF:Nat}{e a' b' e' a'' b'' e'':Rat}{xs at' ys:List (List UInt8)}{S N:WL}{I:SL}{p:Pt}{u:χ}{cs:Array χ}{T:cS}{E F:List Sg}{s a0 s' s'':Int}{fs:List Fr}{z:List UInt8}{ls:List Lp}{ps:List Pt}{β:Type}{l:List Wy}{P:Program}{a:iS}{L:Array Bool}{oi:Oper}{ty:TypeId}{w':World}
section
open Go Go.Sort
section
variable{α:Type}(lt:α->α->Bool)
def rF(x:α):List α->List α
 |[]=>[x]
 |y::l=>if lt x y=ι then x::y::l else y::rF x l
def nT(l:List α):List α:=l.foldl (fun out x=>rF lt x out) []
def IZ(l:List α):Prop:=l.Pairwise fun a b=>lt b a=ν
theorem I4(x l z):z∈rF lt x l↔z=x\/z∈l:=by
 induction l with
 |nil=>simp[rF]
 |cons y l ih=>
  unfold rF;split
  .simp
  .rw[jT,ih,jT];constructor
   .rintro(h|h|h)
    .exact .inr (.inl h)
    .exact .inl h
    .exact .inr (.inr h)
   .rintro(h|h|h)
    .exact .inr (.inl h)
    .exact .inl h
    .exact .inr (.inr h)
theorem ak3(x l):(rF lt x l).length=l.length+1:=by
 induction l with
 |nil=>rfl
 |cons y l ih=>
  unfold rF;split
  .rfl
  .rw[aC,ih,aC]
theorem uf{x y:α}{l:List α}(h:lt x y=ι):rF lt x (l++[y])=rF lt x l++[y]:=by
 induction l with
 |nil=>simp[rF,h]
 |cons z l ih=>
  rw[List.cons_append,rF,rF];split
  .rfl
  .rw[ih];rfl
theorem ak4{x:α}{l:List α}(h:∀z∈l,lt x z=ν):rF lt x l=l++[x]:=by
 induction l with
 |nil=>rfl
 |cons z l ih=>
  rw[rF,iN (by rw[h z (bO ..)];decide),ih fun u hu=>h u (cC _ hu)];rfl
variable{lt}
theorem ak5[Inhabited α](hS:SWO lt){x:α}{l:List α}(h:IZ lt l):IZ lt (rF lt x l):=by
 unfold IZ at *;induction l with
 |nil=>simp[rF]
 |cons y l ih=>
  rw[pY]at h;unfold rF;split
  .rename_i hxy;rw[pY,pY];refine⟨fun z hz=>?_,h⟩;have hyx:lt y x=ν:=by
    cases e:lt y x with
    |false=>rfl
    |true=>have:=hS.trans _ _ _ hxy e;rw[hS.irrefl]at this;cases this
   rcases List.mem_cons.1 hz with rfl|hz
   .exact hyx
   .exact hS.ntrans _ _ _ (h.1 z hz) hyx
  .rename_i hxy;rw[pY];refine⟨fun z hz=>?_,ih h.2⟩;rcases(I4 lt x l z).1 hz with rfl|hz
   .simpa using hxy
   .exact h.1 z hz
variable[Inhabited α]
theorem NZ(hS:SWO lt):∀(n:Nat)(P:List α)(x:α)(R:List α),P.length=n->IZ lt P->insInner lt 0 n (P++x::R).toArray=(rF lt x P++R).toArray
 |0,P,x,R,hP,_=>by
  obtain rfl:P=[]:=List.length_eq_zero_iff.1 hP
  rfl
 |n+1,P,x,R,hP,hA=>by
  obtain⟨Q,y,rfl⟩:∃Q y,P=Q++[y]:=⟨P.dropLast,P.getLast (by intro e;rw[e]at hP;cases hP),(List.dropLast_concat_getLast _).symm⟩
  have hQ:Q.length=n:=by rw[aJ]at hP;simpa using hP
  have e1:(Q++[y]++x::R).toArray[n+1]! =x:=by
   rw[YD,Mr,fA (by rw[hP];exact θ _),hP];simp
  have e0:(Q++[y]++x::R).toArray[n]! =y:=by
   rw[YD,Mr,sI,fA (by rw[hQ];exact θ _),hQ];simp
  unfold IZ at hA;rw[List.pairwise_append]at hA;rw[insInner,e1,e0];by_cases hl:lt x y=ι
  .rw[ip (by simp[hl])];have es:swp (Q++[y]++x::R).toArray (n+1) n=(Q++x::(y::R)).toArray:=by
    unfold swp;rw[e1,e0,aX,aX,sI,YC _ _ oM,YC _ _ oM,show n+1-Q.length=1 by omega,show n-Q.length=0 by omega];rfl
   rw[es,NZ hS n Q x (y::R) hQ hA.1,uf lt hl];simp
  .rw[iN (by simp[hl])];have hf:lt x y=ν:=by simpa using hl
   rw[ak4 lt (l:=Q++[y]) fun z hz=>?_]
   .simp
   .rcases List.mem_append.1 hz with h|h
    .exact hS.ntrans _ _ _ hf (hA.2.2 z h y sP)
    .rw[List.mem_singleton.1 h];exact hf
theorem ZM(l x):nT lt (l++[x])=rF lt x (nT lt l):=by unfold nT;rw[List.foldl_append];rfl
theorem Cf(l):(nT lt l).length=l.length:=by
 suffices h:∀(l m:List α),(l.foldl (fun out x=>rF lt x out) m).length=l.length+m.length by
  have:=h l [];simpa[nT]using this
 intro l;induction l with
 |nil=>intro m;simp
 |cons x l ih=>intro m;rw[oB,ih,ak3,aC];omega
theorem ug(hS:SWO lt)(l):IZ lt (nT lt l):=by
 suffices h:∀(l m:List α),IZ lt m->IZ lt (l.foldl (fun out x=>rF lt x out) m) by exact h l [] Fm
 intro l;induction l with
 |nil=>intro m h;exact h
 |cons x l ih=>intro m h;rw[oB];exact ih _ (ak5 hS h)
theorem uh(l z):z∈nT lt l↔z∈l:=by
 suffices h:∀(l m:List α),z∈l.foldl (fun out x=>rF lt x out) m↔z∈l\/z∈m by
  have:=h l [];simpa[nT]using this
 intro l;induction l with
 |nil=>intro m;simp
 |cons x l ih=>
  intro m;rw[oB,ih,I4,jT];constructor
  .rintro(h|h|h)
   .exact .inl (.inr h)
   .exact .inl (.inl h)
   .exact .inr h
  .rintro((h|h)|h)
   .exact .inr (.inl h)
   .exact .inl h
   .exact .inr (.inr h)
theorem N0(hS:SWO lt)(l):∀(m i:Nat),m+i=l.length->insOuter lt 0 l.length i (nT lt (l.take i)++l.drop i).toArray=(nT lt l).toArray
 |0,i,h=>by
  rw[insOuter,iN oM,eA oM,List.drop_eq_nil_of_le oM,kQ]
 |m+1,i,h=>by
  have hi:i<l.length:=oM
  rw[insOuter,ip hi,Sy hi,NZ hS i _ _ _ (by rw[Cf,dR];omega) (ug hS _),<-ZM,<-bM hi]
  exact N0 hS l m (i+1) oM
theorem N3(hS:SWO lt)(l):oq lt l.toArray 0 l.length=(nT lt l).toArray:=by
 unfold oq;cases l with
 |nil=>rw[insOuter,iN sP];rfl
 |cons x l=>
  have:=N0 hS (x::l) l.length 1 (by rw[aC]);exact this
theorem ak6{f:α->β}{lt':β->β->Bool}(h:∀x y,lt x y=lt' (f x) (f y))(x l):(rF lt x l).map f=rF lt' (f x) (l.map f):=by
 induction l with
 |nil=>rfl
 |cons y l ih=>
  rw[rF,fN,rF,h];split
  .rfl
  .rw[fN,ih]
theorem ui{f:α->β}{lt':β->β->Bool}(h:∀x y,lt x y=lt' (f x) (f y))(l):(nT lt l).map f=nT lt' (l.map f):=by
 suffices hh:∀(l m:List α),(l.foldl (fun out x=>rF lt x out) m).map f=(l.map f).foldl (fun out x=>rF lt' x out) (m.map f) by exact hh l []
 intro l;induction l with
 |nil=>intro m;rfl
 |cons x l ih=>intro m;rw[oB,ih,fN,oB,ak6 h]
end
end
section
open Go Go.RowKit Go.Lib
def gO(fs:List Fr)(at':List (List UInt8))(ps:List Pt):Nat->Nat
 |0=>0
 |k+1=>if Dy fs at' (ps.getD k Γ) (ps.getD (gO fs at' ps k) Γ)<0 then k else gO fs at' ps k
theorem tE(fs at' ps):∀k,0<k->gO fs at' ps k<k
 |0,h=>absurd h dD
 |k+1,_=>by
  unfold gO
  split
  .omega
  .rcases iZ k with e|e
   .subst e;simp[gO]
   .have:=tE fs at' ps k e;omega
theorem Md{P:cQ}{fn:Func}{p:Tmp}{ty:cS}(h:fn.results= #[.cell p ty])(tmps w g x y z)(hp:tmps.getD p ψ=aB (ζ ⟨g,0,δ⟩))(hb:bE w g #[x,y,z] T)(ha:∀w,(isAgg ty).run P w=.ok ι w)(hs:∀w,(sizeOf ty).run P w=.ok 3 w):
 (results fn tmps).run P w=.ok (bQ #[x,y,z]) w:=by
 have S7:tmps[p]?.getD ψ=aB (ζ ⟨g,0,δ⟩):=by simpa using hp
 have c0:=hb.ce 0;have c1:=hb.ce 1;have c2:=hb.ce 2;simp[results,h,go_sem,S7,c0,c1,c2,ha,hs]
theorem bE.set3{b:Nat}{x y z:χ}(h:bE W b #[x,y,z] T)(u v r):bE (((W.setCell ⟨b,0,δ⟩ u).setCell ⟨b,1,δ⟩ v).setCell ⟨b,2,δ⟩ r) b #[u,v,r] T:=((h.set 0 u).set 1 v).set 2 r
theorem bE.oth3{b:Nat}(h:bE W b cs T)(hne:b≠c)(u v r):bE (((W.setCell ⟨c,0,δ⟩ u).setCell ⟨c,1,δ⟩ v).setCell ⟨c,2,δ⟩ r) b cs T:=((h.other u hne).other v hne).other r hne
theorem N4(h:Below B w W)(hc:B<=c)(u v r):Below B w (((W.setCell ⟨c,0,δ⟩ u).setCell ⟨c,1,δ⟩ v).setCell ⟨c,2,δ⟩ r):=
 ((h.setCell (p:=⟨c,0,δ⟩) hc u).setCell (p:=⟨c,1,δ⟩) hc v).setCell (p:=⟨c,2,δ⟩) hc r
theorem bE.all3{b:Nat}{x y z:χ}(h:bE W b #[x,y,z] T):W.cell? ⟨b,0,δ⟩=ζ x/\W.cell? ⟨b,1,δ⟩=ζ y/\W.cell? ⟨b,2,δ⟩=ζ z/\W.frozen? ⟨b,0,δ⟩=ν/\W.frozen? ⟨b,1,δ⟩=ν/\W.frozen? ⟨b,2,δ⟩=ν/\b<W.heap.size:=
 ⟨h.cell 0,h.cell 1,h.cell 2,h.fz 0,h.fz 1,h.fz 2,h.lt⟩
theorem uj(pa tv n cap fs at' ps w)(SY:0 < n)(hn:n<=1000000)(hl:ps.length=n)(rp:Ih w pa ps)(hb:∀ i j,i < n->j < n->∀ W,Bw w W->aE γ 75 #[tv,(ps.getD i Γ).v,(ps.getD j Γ).v] W (Rt (Υ Ξ (Dy fs at' (ps.getD i Γ) (ps.getD j Γ))) W)):
 aE γ 74 #[Θ pa n cap,.func (.func 75) #[tv] #[]] w (Rt ((ps.getD (gO fs at' ps n) Γ).v) w):=by
 have HBf:=zq hb;have HR:=zq rp;have Hl:=zq hl;obtain⟨pb,po,rfl,c0,c1,c2⟩:=rp.at (i:=0) oM rfl;have lb:pb < w.heap.size:=aD w ⟨pb,_,δ⟩ c0;simp only [vO,jN] at c0 c1 c2;have HM0:aQ (gO fs at' ps 1=0):=by show _=_;unfold gO;simp [gO]
 have HMs:aQ (∀ k,Dy fs at' (ps.getD k Γ) (ps.getD (gO fs at' ps k) Γ) < 0->gO fs at' ps (k+1)=k):=fun k h=>by rw [gO,ip h]
 have HMn:aQ (∀ k,¬ Dy fs at' (ps.getD k Γ) (ps.getD (gO fs at' ps k) Γ) < 0->gO fs at' ps (k+1)=gO fs at' ps k):=fun k h=>by rw [gO,iN h]
 have HMl:aQ (∀ k,0 < k->gO fs at' ps k < k):=fun k h=>tE fs at' ps k h;clear hb rp hl;obtain⟨RV,HRV⟩:∃ v,aQ ((ps.getD (gO fs at' ps n) Γ).v=v):=⟨_,rfl⟩;rw [HRV.o];have nlt:((n:Int) < 1)=False:=eq_false oM;go_enter func74,ntmps74;obtain⟨W1,tZ⟩:=nm ((w.alloc (π #[Υ Ξ 0,Δ ⟨#[]⟩,Δ ⟨#[]⟩] 35)).alloc (π (ps.getD 0 Γ).cells 35));have q4:bE W1 w.heap.size #[Υ Ξ 0,Δ ⟨#[]⟩,Δ ⟨#[]⟩] 35:=by rw [<- tZ];exact(bE.new w _ _).alloc _
 have q5:bE W1 (w.heap.size+1) (ps.getD 0 Γ).cells 35:=by
  rw [<- tZ];have:=bE.new (w.alloc (π #[Υ Ξ 0,Δ ⟨#[]⟩,Δ ⟨#[]⟩] 35)) (ps.getD 0 Γ).cells 35;rwa [aL] at this
 have Ig:Bw w W1:=by rw [<- tZ];exact(nA w _).alloc sP _
 have HS0:aQ (bE W1 w.heap.size #[Υ Ξ 0,Δ ⟨#[]⟩,Δ ⟨#[]⟩] 35/\bE W1 (w.heap.size+1) (ps.getD (gO fs at' ps 1) Γ).cells 35/\Bw w W1):=by rw [HM0.o];exact⟨q4,q5,Ig⟩
 clear q4 q5 Ig;generalize hP0:ps.getD 0 Γ=P0 at *;go_wp2;unfold Pt.cells at tZ;try rw [tZ]
 clear tZ c0 c1 c2 lb nlt hP0;go_loopw [6] (fun i wr=>∃ k:Nat,i=Υ Ξ (k:Int)/\1<=k/\k<=n/\aQ (bE wr w.heap.size #[Υ Ξ 0,Δ ⟨#[]⟩,Δ ⟨#[]⟩] 35/\bE wr (w.heap.size+1) (ps.getD (gO fs at' ps k) Γ).cells 35/\Bw w wr)) (fun i _=>n - (ξ i).toNat);case atStart=>exact⟨1,rfl,oM,oM,HS0⟩
 case round=>
  clear HS0 HM0;obtain⟨k,rfl,Yo,hk,HS⟩:=hrel;obtain⟨q4,q5,hB⟩:=HS.o;have HQ4:=zq q4;have DP:=zq q5;have HB:=zq hB;clear HS q4 q5 hB;by_cases hlt:k < n
  .have aC4:(k:Int) < n:=oM;have hk0:(0:Int)<=(k:Int):=oM;obtain⟨pb',po',NW,d0,d1,d2⟩:=(HR.o.below HB.o).at (i:=k) (by rw [Hl.o];exact hlt) rfl;injection NW with NW;injection NW with e1 e2;subst e1 e2;have HC:=zq (fun W hW=>HBf.o k (gO fs at' ps k) hlt (Nat.lt_trans (HMl.o k oM) hlt) W hW);have hms:=HMs.o k;have hmn:=HMn.o k;obtain⟨x0,x1,x2,z0,z1,z2,lq⟩:=DP.o.all3;generalize hPK:ps.getD k Γ=PK at d0 d1 d2 HC hms hmn;have HPK:=zq hPK;clear hPK;generalize hPM:ps.getD (gO fs at' ps k) Γ=PM at DP HC hms hmn x0 x1 x2;have HPM:=zq hPM;clear hPM;obtain⟨cv,hcv⟩:=nm (Dy fs at' PK PM);rw [hcv] at HC hms hmn;clear hcv;obtain⟨ks,kf,ke⟩:=PK;obtain⟨ms,mf,me⟩:=PM;unfold Pt.v at HC;unfold Pt.cells at HC DP;simp only [] at *;obtain⟨KF,HKF⟩:∃ x,aQ (bs kf=x):=⟨_,rfl⟩;simp only [HKF.o] at HC d1;obtain⟨KE,HKE⟩:∃ x,aQ (bs ke=x):=⟨_,rfl⟩;simp only [HKE.o] at HC d2;obtain⟨MF,HMF⟩:∃ x,aQ (bs mf=x):=⟨_,rfl⟩;simp only [HMF.o] at HC DP x1;obtain⟨ME,HME⟩:∃ x,aQ (bs me=x):=⟨_,rfl⟩;simp only [HME.o] at HC DP x2;go_wp2_with fail
   go_region_held3 (fun w'=>(w'.cell? ⟨w.heap.size+1,0,δ⟩=ζ (Υ Ξ ms)/\w'.cell? ⟨w.heap.size+1,1,δ⟩=ζ (Δ MF)/\w'.cell? ⟨w.heap.size+1,2,δ⟩=ζ (Δ ME))/\w'.cell? ⟨pb,po+k * 3,δ⟩=ζ (Υ Ξ ks)/\w'.cell? ⟨pb,po+k * 3+1,δ⟩=ζ (Δ KF)/\w'.cell? ⟨pb,po+k * 3+2,δ⟩=ζ (Δ KE)) (go_keep)
    (first
     | (go_at_call 75;(with_reducible refine(HC.o _ HB.o.drew).mono ?_);rintro e w1 ⟨rfl,hb1⟩;have IV:Bw wr w1:=(μ _ wr).drew.trans hb1;have eG:=HB.bS IV;have bf6:=HQ4.bb IV;have aU3:=DP.bb IV;have f0:=aY IV x0;have f1:=aY IV x1;have f2:=aY IV x2;have f3:=aY IV d0;have f4:=aY IV d1;have f5:=aY IV d2;clear IV)
     | fail)
   clear x0 x1 x2 z0 z1 z2 lq d0 d1 d2 f0 f1 f2 hb1 HQ4 DP;have HB:=eG;obtain⟨x0,x1,x2,z0,z1,z2,lq⟩:=aU3.o.all3;have HPz:aQ (w.heap.size+1≠w.heap.size):=by show _≠_;omega
   by_cases hc:cv < 0
   .have HM:=zq (hms hc);clear hms hmn;have HQ6:=zq (aU3.o.set3 (Υ Ξ ks) (Δ KF) (Δ KE));have HQ7:=zq (bf6.o.oth3 (Ne.symm HPz.o) (Υ Ξ ks) (Δ KF) (Δ KE));have Dx:=zq (N4 eG.o (c:=w.heap.size+1) (Nat.le_succ _) (Υ Ξ ks) (Δ KF) (Δ KE));go_wp2;go_roundw;case rel=>exact⟨k+1,by go_num,oM,oM,HQ7.o,by rw [HM.o,HPK.o];show bE _ _ #[Υ Ξ ks,Δ (bs kf),Δ (bs ke)] _;rw [HKF.o,HKE.o];exact HQ6.o,Dx.o⟩
    case measure=>simp only [ξ];omega
   .have HM:=zq (hmn oM);clear hms hmn;go_wp2;go_roundw;case rel=>exact⟨k+1,by go_num,oM,oM,bf6.o,by rw [HM.o,HPM.o];show bE _ _ #[Υ Ξ ms,Δ (bs mf),Δ (bs me)] _;rw [HMF.o,HME.o];exact aU3.o,eG.o⟩
    case measure=>simp only [ξ];omega
  .obtain rfl:k=n:=oM;clear HMs HMn HMl HBf HR Yo;obtain⟨PV,hPV⟩:=nm (ps.getD (gO fs at' ps k) Γ);have hRV:=HRV.o;rw [hPV] at DP hRV;have R:aQ (RV=bQ #[Υ Ξ PV.side,Δ (bs PV.fr),Δ (bs PV.en)]):=hRV.symm;clear hPV hRV;unfold Pt.cells at DP;generalize bs PV.fr=MF at DP R;generalize bs PV.en=ME at DP R;generalize PV.side=ms at DP R;obtain⟨x0,x1,x2,-,-,-,lq⟩:=DP.o.all3;obtain⟨y0,y1,y2,z0,z1,z2,l4⟩:=HQ4.o.all3;have HQ6:=zq (HQ4.o.set3 (Υ Ξ ms) (Δ MF) (Δ ME));have xU:=zq (N4 HB.o (c:=w.heap.size) (θ _) (Υ Ξ ms) (Δ MF) (Δ ME));go_wp2;refine bodyPost_ret (Md (T:=35) Tryz.results74 _ _ w.heap.size _ _ _ rfl HQ6.o isAgg35 sizeOf35) rfl ⟨by rw [R.o] <;> rfl,xU.o⟩
end
section
open Go Go.Lib Go.Sort
def Dz(x y:Rat)(s:Int)(e:Rat)(x' y':Rat)(s':Int)(e':Rat):Prop:=x<x'\/(x=x'/\(y<y'\/(y=y'/\(s<s'\/(s=s'/\e<e')))))
theorem MC(x y s e):¬Dz x y s e x y s e:=by unfold Dz;grind
theorem Ku{a b:Rat}(h:Dz a b s e a' b' s' e')(k:Dz a' b' s' e' a'' b'' s'' e''):Dz a b s e a'' b'' s'' e'':=by unfold Dz at *;grind
theorem C5{a b:Rat}(h:¬Dz a b s e a' b' s' e')(k:¬Dz a' b' s' e' a'' b'' s'' e''):¬Dz a b s e a'' b'' s'' e'':=by unfold Dz at *;grind
theorem Wk{a b:Rat}(h:Dz a b s e a' b' s' e'):¬Dz a' b' s' e' a b s e:=by unfold Dz at *;grind
theorem I5(x y):(mT x y<0↔x<y)/\(0<mT x y↔y<x)/\(mT x y=0↔x=y):=by
 unfold mT;by_cases h:x<y
 .rw[ip h];exact⟨by simp[h],by constructor <;>intro k<;>grind,by constructor <;>intro k<;>grind⟩
 .rw[iN h];by_cases h2:y<x
  .rw[ip h2];exact⟨by constructor <;>intro k<;>grind,by simp[h2],by constructor <;>intro k<;>grind⟩
  .rw[iN h2];exact⟨by constructor <;>intro k<;>grind,by constructor <;>intro k<;>grind,by constructor <;>intro k<;>grind⟩
theorem aC5(a b c d):UA [UA [a,b],c,d]<0↔a<0\/(a=0/\(b<0\/(b=0/\(c<0\/(c=0/\d<0))))):=by
 simp only[UA]
 repeat' split
 all_goals omega
structure rX(fs:List Fr)(at':List (List UInt8))(p:Pt):Prop where
 side:∃s:Nat,p.side=s/\s<fs.length
 x:Nm (bA fs at' p).x
 y:Nm (bA fs at' p).y
 en:Nm p.en
def G6(fs:List Fr)(at':List (List UInt8))(p q:Pt):Prop:=Dz (bZ (bA fs at' p).x) (bZ (bA fs at' p).y) p.side (bZ p.en) (bZ (bA fs at' q).x) (bZ (bA fs at' q).y) q.side (bZ q.en)
section
variable{fs:List Fr}{at':List (List UInt8)}{p q r:Pt}
theorem yS(hp:rX fs at' p)(hq:rX fs at' q):Dy fs at' p q<0↔G6 fs at' p q:=by
 unfold Dy;rw[aC5,hp.x.cmp hq.x,hp.y.cmp hq.y,hp.en.cmp hq.en];simp only[(I5 _ _).1,(I5 _ _).2.2];have e1:Kt p.side q.side<0↔p.side<q.side:=by unfold Kt;(repeat' split)<;>omega
 have e2:Kt p.side q.side=0↔p.side=q.side:=by unfold Kt;(repeat' split)<;>omega
 rw[e1,e2];rfl
theorem N5(h:∀i,i<ps.length->rX fs at' (ps.getD i Γ)):∀k,k<=ps.length->∀j,j<gO fs at' ps k->Dy fs at' (ps.getD (gO fs at' ps k) Γ) (ps.getD j Γ)<0
 |0,_,j,hj=>by simp[gO]at hj
 |k+1,hk,j,hj=>by
  unfold gO at hj|-
  by_cases hc:Dy fs at' (ps.getD k Γ) (ps.getD (gO fs at' ps k) Γ)<0
  .rw[ip hc]at hj|-
   have hmin:∀m,m<=k->∀i,i<m->¬G6 fs at' (ps.getD i Γ) (ps.getD (gO fs at' ps m) Γ):=by
    intro m;induction m with
    |zero=>intro _ i hi;omega
    |succ m ih=>
     intro hm i hi;have L7:gO fs at' ps m<=m:=by
      rcases iZ m with e|e
      .subst e;simp[gO]
      .exact fM (tE fs at' ps m e)
     unfold gO;by_cases hc2:Dy fs at' (ps.getD m Γ) (ps.getD (gO fs at' ps m) Γ)<0
     .rw[ip hc2];rw[yS (h m oM) (h _ oM)]at hc2;rcases fO i m with h1|h1
      .intro h3;exact ih oM i h1 (Ku h3 hc2)
      .obtain rfl:i=m:=oM;exact MC _ _ _ _
     .rw[iN hc2];rw[yS (h m oM) (h _ oM)]at hc2;rcases fO i m with h1|h1
      .exact ih oM i h1
      .obtain rfl:i=m:=oM;exact hc2
   have hkm:gO fs at' ps k<=k:=by
    rcases iZ k with e|e
    .subst e;simp[gO]
    .exact fM (tE fs at' ps k e)
   rw[yS (h k oM) (h _ oM)]at hc|-;have h2:=hmin k (θ _) j hj;unfold G6 at *;revert hc h2;generalize bZ (bA fs at' (ps.getD k Γ)).x=x1;generalize bZ (bA fs at' (ps.getD k Γ)).y=y1;generalize(ps.getD k Γ).side=s1;generalize bZ (ps.getD k Γ).en=e1;generalize bZ (bA fs at' (ps.getD j Γ)).x=x2;generalize bZ (bA fs at' (ps.getD j Γ)).y=y2;generalize(ps.getD j Γ).side=s2;generalize bZ (ps.getD j Γ).en=e2;intro hc h2;exact aG fun h3=>C5 h3 h2 hc
  .rw[iN hc]at hj|-;exact N5 h k oM j hj
theorem aC6(h:∀i,i<ps.length->rX fs at' (ps.getD i Γ))(hj:j<gO fs at' ps ps.length)(hn:0<ps.length):ps.getD (gO fs at' ps ps.length) Γ≠ps.getD j Γ:=by
 intro e;have h1:=N5 h ps.length (θ _) j hj;have hl:=tE fs at' ps ps.length hn;rw[yS (h _ hl) (h _ oM),e]at h1;exact MC _ _ _ _ h1
end
end
section
open Go Go.Lib
section
variable{κ τ:Type}[DecidableEq κ]
theorem N6(key:Nat->κ)(lo hi:Nat->τ):∀k,∀e∈BZ key lo hi k,∃i j,i<k/\j<k/\e=(key i,lo i,hi j)
 |0,e,h=>by simp[BZ]at h
 |k+1,e,h=>by
  rw[BZ]at h
  split at h
  .rcases List.mem_cons.1 h with rfl|h
   .exact⟨k,k,oM,oM,rfl⟩
   .obtain⟨i,j,h1,h2,h3⟩:=N6 key lo hi k e h
    exact⟨i,j,oM,oM,h3⟩
  .have ih:=N6 key lo hi k
   revert h ih
   generalize BZ key lo hi k=l
   intro h ih
   match l,h with
   |(a,b,c)::l,h=>
    rw[iq]at h
    rcases List.mem_cons.1 h with rfl|h
    .obtain⟨i,j,h1,h2,h3⟩:=ih _ (bO ..)
     injection h3 with e1 e2
     injection e2 with e2 e3
     exact⟨i,k,oM,oM,by rw[e1,e2]⟩
    .obtain⟨i,j,h1,h2,h3⟩:=ih e (cC _ h)
     exact⟨i,j,oM,oM,h3⟩
theorem N7{key bf7:Nat->κ}{lo lo' hi U7:Nat->τ}:∀k,(∀i,i<k->key i=bf7 i/\lo i=lo' i/\hi i=U7 i)->BZ key lo hi k=BZ bf7 lo' U7 k
 |0,_=>rfl
 |k+1,h=>by
  rw[BZ,BZ,N7 k fun i hi=>h i oM,(h k oM).1,(h k oM).2.1,(h k oM).2.2]
  rcases iZ k with e|e
  .subst e;simp
  .rw[(h (k-1) oM).1]
end
theorem TD{S':WL}(h:∀w∈l,rU S w=rU S' w):fF S xs ys l=fF S' xs ys l:=by
 have hm:∀i,i<l.length->l.getD i Γ∈l:=fun i hi=>aN hi Γ;have hk:∀w∈l,B7 S w=B7 S' w:=fun w hw=>by unfold B7;rw[h w hw]
 have hs:∀a∈l,∀b∈l,mF S a b=mF S' a b:=fun a ha b hb=>by rw[wJ,wJ,hk a ha,hk b hb]
 have hf:∀k,k<=l.length->mH S l k=mH S' l k:=by
  intro k;induction k with
  |zero=>intro _;rfl
  |succ k ih=>
   intro hkl;rw[mH,mH,ih oM,hs _ (hm _ (aV _ oM)) _ (hm k oM)]
 have hfw:eO S l=eO S' l:=by unfold eO;rw[hf _ (θ _)]
 unfold fF jY;rw[hfw];congr 2;refine N7 _ fun i hi=>⟨hk _ (IS (k:=eO S' l) (aN ?_ Γ)),rfl,rfl⟩;unfold Eo;rw[aJ,dJ,dR];omega
def Wl(E:List Sg)(w:Wy):Int:=(nO E w).getD 0
def TE(E:List Sg)(X Y:Nat):WL:=(oR X Y).map fun w=>(w,Wl E w)
theorem ak7{f:Wy->Int}{w:Wy}(h:w∈l):mR (l.map fun v=>(v,f v)) w=ζ (f w):=by
 induction l with
 |nil=>cases h
 |cons v l ih=>
  rw[fN];by_cases e:v=w
  .subst e;simp[mR]
  .rcases List.mem_cons.1 h with c|c
   .exact absurd c.symm e
   .have:=ih c;simp[mR,e]at this|-;exact this
theorem I6{X Y:Nat}{w:Wy}(h:w∈oR X Y):rU (TE E X Y) w=Wl E w:=by
 unfold rU TE;rw[ak7 h];rfl
def xO(fs:List Fr)(at' xs ys:List (List UInt8))(ls:List Lp):List Sg:=(ls.flatMap Lp.ps).map (eP fs at' xs ys)
noncomputable def DA (fs:List Fr) (at' xs ys:List (List UInt8)) (ls:List Lp):List (List Pt):=
 (jK (kV fs at' xs ys ls) (oR xs.length ys.length)).2.map (fF (TE (xO fs at' xs ys ls) xs.length ys.length) xs ys)
theorem aC7(h:∀w,eX (kV fs at' xs ys ls) w=ι->rU S w=Wl (xO fs at' xs ys ls) w):
 (jK (kV fs at' xs ys ls) (oR xs.length ys.length)).2.map (fF S xs ys)=DA fs at' xs ys ls:=by
 have hc:=Ae fs at' xs ys ls;have yR:=wL hc (oR xs.length ys.length);unfold DA;refine eB fun l hl=>TD fun w hw=>?_;have hb:=yR.bor w (by rw[yR.all];exact List.mem_flatten.2 ⟨l,hl,hw⟩);rw[h w hb,I6 (zZ hc hb)]
theorem ZN(h:p∈fF S xs ys l):∃u∈l,∃v∈l,p=⟨rU S u,Yp xs ys u,Ux xs ys v⟩:=by
 unfold fF jY at h;obtain⟨e,he,rfl⟩:=List.mem_map.1 h;rw[List.mem_reverse]at he;obtain⟨i,j,hi,hj,rfl⟩:=N6 _ _ _ _ _ he;have hr:(Eo l (eO S l)).length=l.length:=by unfold Eo;rw[aJ,dJ,dR];omega
 exact⟨_,IS (aN (by rw[hr];exact hi) Γ),_,IS (aN (by rw[hr];exact hj) Γ),rfl⟩
theorem bz5{x y d:Nat}(hx:x<xs.length)(hy:y<ys.length):wH xs ys x y d∈if d%2=1 then ys else xs:=by
 unfold wH;split
 .exact aN hy []
 .exact aN hx []
structure aN4(fs:List Fr)(at':List (List UInt8))(Ab:List (List Pt)):Prop where
 n:Ab.length<=18
 len:∀ps∈Ab,0<ps.length/\ps.length<=10000
 ok:∀ps∈Ab,∀p∈ps,rX fs at' p
theorem aU4{dx dy:List (List UInt8)}(h:wW fs at' ls dx dy)(ha:oI fs at' ls ν=ι)(Vj:fs.length<=12)(uE:∀s,s<fs.length->Nm (at'.getD s []))(hxy:(aH dx).length*((aH dy).length*4)<=10000):aN4 fs at' (DA fs at' (aH dx) (aH dy) ls):=by
 have hc:=Ae fs at' (aH dx) (aH dy) ls;have yR:=wL hc (oR (aH dx).length (aH dy).length);obtain⟨-,hmx⟩:=gR h.nx;obtain⟨-,hmy⟩:=gR h.ny;have Ts:∀s∈aH dx,Nm s:=fun s hs=>h.nx s ((hmx s).1 hs);have VY:∀s∈aH dy,Nm s:=fun s hs=>h.ny s ((hmy s).1 hs);have bf8:∀{x y d:Nat},x<(aH dx).length->y<(aH dy).length->Nm (wH (aH dx) (aH dy) x y d):=fun{x y d}hx hy=>by
  have:=bz5 (xs:=aH dx) (ys:=aH dy) (d:=d) hx hy;split at this
  .exact VY _ this
  .exact Ts _ this
 refine⟨?_,fun ps lI=>?_,fun ps lI p hp=>?_⟩
 .unfold DA;rw[υ];exact ue h ha Vj _
 .obtain⟨l,hl,rfl⟩:=List.mem_map.1 lI;obtain⟨hne,w,hw,rfl⟩:=yR.pos l hl;obtain⟨k,hk,hk2⟩:=GY hc hw;rw[uY hk]at hne|-;have hcl:=BY (f:=eY (kV fs at' (aH dx) (aH dy) ls)) w k;unfold fF;refine⟨NF _ _ _ _ (by rw[hcl];exact hk.1),aA (NE _ _ _ _ _) ?_⟩;rw[hcl];exact aA hk2 hxy
 .obtain⟨l,hl,rfl⟩:=List.mem_map.1 lI;obtain⟨u,hu,v,hv,rfl⟩:=ZN hp;have hb:∀w∈l,eX (kV fs at' (aH dx) (aH dy) ls) w=ι:=fun w hw=>yR.bor w (by rw[yR.all];exact List.mem_flatten.2 ⟨l,hl,hw⟩);obtain⟨t,ht,FU,-⟩:=EA h ha (hb u hu);have BO:rU (TE (xO fs at' (aH dx) (aH dy) ls) (aH dx).length (aH dy).length) u=(t:Int):=by
   rw[I6 (zZ hc (hb u hu))];unfold Wl xO;rw[ht];rfl
  obtain⟨q1,q2,q3,q4,q5,-⟩:=Kn hc (hb u hu);obtain⟨-,-,-,-,-,r1,r2,r3,r4⟩:=Kn hc (hb v hv);have ja:Nm (Yp (aH dx) (aH dy) u):=bf8 oM oM;have hhi:Nm (Ux (aH dx) (aH dy) v):=bf8 oM oM;have bf9:=uE t FU;refine⟨⟨t,BO,FU⟩,?_,?_,hhi⟩
  .unfold bA;rw[BO,gG];split
   .exact bf9
   .exact ja
  .unfold bA;rw[BO,gG];split
   .exact ja
   .exact bf9
end
section
def Tryz.insS_ren:iG:=⟨fun |20=>177|n=>n,fun |24=>32|22=>28|3=>3|25=>140|4=>4|0=>0|n=>n,fun |n=>n⟩
theorem Tryz.insS:Go.Proofs.SlLaysF.n20 γ Tryz.insS_ren:={
 mixed:=kF
 f20:=⟨Tryz.f177.name,dD,zf func177⟩
 t0:=pK
 a0:=Aj
 z0:=xT
 v0:=rK
 t3:=dB
 a3:=jF
 z3:=gW
 v3:=gV
 t4:=eW
 a4:=lK
 z4:=jR
 v4:=gJ
 t22:=underlying28
 a22:=isAgg28
 z22:=sizeOf28
 v22:=zeroValue28
 a24:=K7
 z24:=Im
 t25:=underlying140
 a25:=isAgg140
 z25:=sizeOf140
 v25:=zeroValue140}
open Go Go.RowKit Go.Shelf Go.Lib
theorem uo(TB n m cx cy xa ya t0 t1 p q res w)(ht:bE w TB #[t0,t1] 70)(ps qs)(hn:0<n)(hm:0<m)(lI:ps.length=n)(QJ:qs.length=m)(hp:ps.getD 0 Γ=p)(hq:qs.getD 0 Γ=q)(rx:Ih w xa ps)(ry:Ih w ya qs)(hb:∀W,Bw w W->aE γ 75 #[bQ #[t0,t1],p.v,q.v] W (Rt (Υ Ξ res) W)):
 aE γ 78 #[Θ xa n cx,Θ ya m cy,aB (ζ ⟨TB,0,δ⟩)] w (Rt (Υ Ξ res) w):=by
 have HC:=zq hb;obtain⟨xb,xo,rfl,c0,c1,c2⟩:=rx.at (i:=0) oM hp;obtain⟨yb,yo,rfl,d0,d1,d2⟩:=ry.at (i:=0) oM hq;simp only[vO,jN]at c0 c1 c2 d0 d1 d2;obtain⟨t2,t3,-,-,lT⟩:=ht.two;have n0:(0:Int)<(n:Int):=oM;have m0:(0:Int)<(m:Int):=oM;clear hb ht rx ry lI QJ hp hq;obtain⟨p1,p2,p3⟩:=p;obtain⟨q1,q2,q3⟩:=q;unfold Pt.v Pt.cells at HC;simp only[]at *;generalize bs q3=Q3,bs q2=Q2,bs p3=P3,bs p2=P2 at *;go_enter func78,ntmps78;go_wp2;go_region_held3 (fun w'=>(w'.cell? ⟨TB,0,δ⟩=ζ (t0)/\w'.cell? ⟨TB,1,δ⟩=ζ (t1))/\(w'.cell? ⟨xb,xo,δ⟩=ζ (Υ Ξ p1)/\w'.cell? ⟨xb,xo+1,δ⟩=ζ (Δ P2)/\w'.cell? ⟨xb,xo+2,δ⟩=ζ (Δ P3))/\(w'.cell? ⟨yb,yo,δ⟩=ζ (Υ Ξ q1)/\w'.cell? ⟨yb,yo+1,δ⟩=ζ (Δ Q2)/\w'.cell? ⟨yb,yo+2,δ⟩=ζ (Δ Q3))) (go_keep)
  (first
   |(go_at_call 75;(with_reducible refine(HC.o _ (μ _ w).drew).mono ?_);rintro e w1 ⟨rfl,hb1⟩;have IV:Bw w w1:=(μ _ w).drew.trans hb1;have f0:=aY IV c0;have f1:=aY IV c1;have f2:=aY IV c2;have f3:=aY IV d0;have f4:=aY IV d1;have f5:=aY IV d2;have f6:=aY IV t2;have f7:=aY IV t3)
   |fail)
 go_wp2;go_ret;exact⟨rfl,IV⟩
theorem ak8(a n cap fv)(hn:n<=19)(w)(ZO:η->Prop)(h:aE γ 177 #[Θ a n cap,Υ Ξ 0,Υ Ξ n,fv] w fun e w'=>(∃v,e=σ v)/\ZO w'):
 aE γ 128 #[Θ a n cap,Υ Ξ n,fv] w fun e w'=>(∃v,e=σ v)/\ZO w':=by
 have H:=zq h;clear h;have h20:((20:Int)<=(n:Int))=False:=eq_false oM;have h21:((20:Int)<(n:Int))=False:=eq_false oM;go_enter func128,ntmps128;go_wp2;go_loopw[7,8] (fun a b wr=>a=Υ Ξ 0/\b=Υ Ξ 20/\wr=w) (fun _ _ _=>0);case atStart=>exact⟨rfl,rfl,rfl⟩
 case round=>
  obtain⟨rfl,rfl,rfl⟩:=hrel;go_wp2_with fail
  refine H.o.mono ?_;rintro e W1⟨⟨v,rfl⟩,hP⟩;have HP:=zq hP;clear hP H;go_wp2;go_loopw[6] (fun a wr=>a=Υ Ξ 20/\aQ (ZO wr)) (fun _ _=>0);case atStart=>exact⟨rfl,HP.o⟩
  case round=>
   obtain⟨rfl,HB⟩:=hrel;go_wp2;go_end0;exact⟨⟨_,rfl⟩,HB.o⟩
theorem Wm(a n cap fv)(hn:n<=19)(w)(ZO:η->Prop)(h:aE γ 177 #[Θ a n cap,Υ Ξ 0,Υ Ξ n,fv] w fun e w'=>(∃v,e=σ v)/\ZO w'):
 aE γ 77 #[Θ a n cap,fv] w fun e w'=>(∃v,e=σ v)/\ZO w':=by
 have HI:=zq (ak8 a n cap fv hn w ZO h);clear h;go_enter func77,ntmps77;go_wp2_with fail
 refine HI.o.mono ?_;rintro e W1⟨⟨v,rfl⟩,hP⟩;have HP:=zq hP;clear hP HI;go_wp2;go_end0;exact⟨⟨_,rfl⟩,HP.o⟩
end
section
open Go Go.RowKit Go.Shelf Go.Lib Go.Sort
def ur(fs:List Fr)(at':List (List UInt8))(a b:List Pt):Bool:=decide (Dy fs at' (a.getD 0 Γ) (b.getD 0 Γ)<0)
theorem ZP(cH g n cap TB t0 t1 fs at' aZ w0 w)(hB:Bw w0 w)(hb:w0.heap.size<=cH)(SY:0<n)(hn:n<=19)(hl:aZ.length=n)(cT:gM cH w (Θ (ζ ⟨g,0,δ⟩) n cap) aZ)(hpos:∀l∈aZ,0<l.ps.length)(yX:∀l∈aZ,rX fs at' (l.ps.getD 0 Γ))(ht:bE w TB #[t0,t1] 70)(jh:∀p q,rX fs at' p->rX fs at' q->∀W,Bw w0 W->aE γ 75 #[bQ #[t0,t1],p.v,q.v] W fun e w'=>e=σ (Υ Ξ (Dy fs at' p q))/\Bw W w'):
 aE γ 77 #[Θ (ζ ⟨g,0,δ⟩) n cap,.func (.func 78) #[] #[aB (ζ ⟨TB,0,δ⟩)]] w fun e w'=>(∃v,e=σ v)/\(∃qK,gM cH w' (Θ (ζ ⟨g,0,δ⟩) n cap) qK/\qK.map Lp.ps=nT (ur fs at') (aZ.map Lp.ps))/\w.grownBy w' (ζ g):=by
 have h1:=cT.1;rw[hl]at h1;obtain⟨hbg,aA2,hnc,-⟩:=mD h1;haveI:Inhabited {l:Lp//l∈aZ}:=⟨⟨aZ[0],fJ _⟩⟩;let enc:{l:Lp//l∈aZ}->χ:=fun x=>x.1.v;let cf:{l:Lp//l∈aZ}->{l:Lp//l∈aZ}->Int:=fun x y=>Dy fs at' (x.1.ps.getD 0 Γ) (y.1.ps.getD 0 Γ);have yB:w.ownsRow cH 32 1 (Θ (ζ ⟨g,0,δ⟩) n cap) n (aZ.attach.map enc):=by
  have e:aZ.attach.map enc=aZ.map Lp.v:=by
   show aZ.attach.map (fun x=>Lp.v x.1)=_;exact ou (f:=Lp.v)
  rw[e];have:=cT.1;rwa[hl]at this
 have hlen:aZ.attach.length=n:=by rw[List.length_attach];exact hl
 have hH:Holds enc w g 0 aZ.attach.toArray:=by
  intro j hj;have hj:j<aZ.attach.length:=by simpa using hj
  rw[bD];refine⟨?_,jB yB j⟩;rw[dN yB j oM];have Wh:j<aZ.length:=by rwa[List.length_attach]at hj
  simp[Wh]
 have hS:SWO (dm cf):=by
  have e:∀x y,dm cf x y=ι↔G6 fs at' (x.1.ps.getD 0 Γ) (y.1.ps.getD 0 Γ):=fun x y=>by
   unfold dm;rw[decide_eq_true_eq];exact yS (yX _ x.2) (yX _ y.2)
  have e':∀x y,dm cf x y=ν↔¬G6 fs at' (x.1.ps.getD 0 Γ) (y.1.ps.getD 0 Γ):=fun x y=>by
   rw[<-e];simp
  refine⟨fun x=>?_,fun x y z h1 h2=>?_,fun x y z h1 h2=>?_⟩
  .rw[e'];exact MC _ _ _ _
  .rw[e]at *;exact Ku h1 h2
  .rw[e']at *;exact C5 h1 h2
 have aR9:CmpLays1 γ 78 #[aB (ζ ⟨TB,0,δ⟩)] enc cf g 0 aZ.attach.toArray.size w:=by
  intro m os dk hk x y;have hg:=AI enc w g 0 m dk os;have hBW:Bw w0 (KW enc w g 0 m dk os):=dT (v:=Θ (ζ ⟨g,0,δ⟩) n cap) hB hg yB hb hB.size;have rd:∀l∈aZ,Ih (KW enc w g 0 m dk os) l.a l.ps:=fun l hl=>Ih.own ((cT.2 l hl).kept (w':=KW enc w g 0 m dk os) hg (pQ (cT.2 l hl) cT.1 dD));have htW:bE (KW enc w g 0 m dk os) TB #[t0,t1] 70:=kT ht hg (iL ht cT.1 dD);have:=uo TB x.1.ps.length y.1.ps.length x.1.cap y.1.cap x.1.a y.1.a t0 t1 _ _ (cf x y) (KW enc w g 0 m dk os) htW x.1.ps y.1.ps (hpos _ x.2) (hpos _ y.2) rfl rfl rfl rfl (rd _ x.2) (rd _ y.2)
   (fun W hW=>jh _ _ (yX _ x.2) (yX _ y.2) W (aW hBW hW))
  exact Calls.grown this
 have Dv:aZ.attach.toArray.size=n:=by simp[hl]
 have H:=Any.insertionSortCmpFunc_s Tryz.insS enc cf 78 #[aB (ζ ⟨TB,0,δ⟩)] g 0 cap 0 n aZ.attach.toArray aZ.attach.toArray w w (iC func78 kF rfl) aR9 ⟨fun _=>rfl,hH,aA2⟩ rfl (SW.start hH) (aP _) (by rw[Dv];exact θ _) (by rw[Dv];omega);rw[Dv]at H;have bp9:oq (dm cf) aZ.attach.toArray 0 n=(nT (dm cf) aZ.attach).toArray:=by rw[<-hlen];exact N3 hS aZ.attach
 rw[bp9]at H;refine Wm _ n cap _ hn w (fun w'=>(∃qK,gM cH w' (Θ (ζ ⟨g,0,δ⟩) n cap) qK/\qK.map Lp.ps=nT (ur fs at') (aZ.map Lp.ps))/\w.grownBy w' (ζ g)) (H.mono ?_);rintro e w'⟨rfl,m,os,rfl⟩;have hg:=AI enc w g 0 m (nT (dm cf) aZ.attach).toArray os;refine⟨⟨_,rfl⟩,⟨(nT (dm cf) aZ.attach).map Subtype.val,⟨?_,fun l hl=>?_⟩,?_⟩,hg⟩
 .have:=QO enc w cH g n cap m 32 aZ.attach (nT (dm cf) aZ.attach) os yB (by rw[Cf];exact hlen);rw[υ,Cf,hlen,eH];exact this
 .obtain⟨x,-,rfl⟩:=List.mem_map.1 hl;exact(cT.2 _ x.2).kept hg (pQ (cT.2 _ x.2) cT.1 dD)
 .have e1:=ui (lt:=dm cf) (f:=fun x:{l:Lp//l∈aZ}=>x.1.ps) (lt':=ur fs at') (fun x y=>rfl) aZ.attach;have e2:aZ.attach.map (fun x:{l:Lp//l∈aZ}=>x.1.ps)=aZ.map Lp.ps:=ou (f:=Lp.ps);rw[e2]at e1;rw[eH];exact e1
end
section
open Go Go.RowKit Go.Lib
theorem Wn(pa n cap m ps w)(hn:n<=1000000)(hl:ps.length=n)(rp:Ih w pa ps)(hm:m < n)(ak9:∀ j,j < m->ps.getD m Γ≠ps.getD j Γ):
 aE γ 76 #[Θ pa n cap,(ps.getD m Γ).v] w (Rt (Υ Ξ (m:Int)) w):=by
 have HR:=zq rp;have Hl:=zq hl;have HF:=zq ak9;obtain⟨pb,po,rfl,-⟩:=rp.at (i:=0) oM rfl;clear rp hl ak9;obtain⟨v,hv⟩:=nm (ps.getD m Γ);have HV:=zq hv;rw [hv] at HF |-;clear hv;have HVc:aQ (v.v=bQ #[Υ Ξ v.side,Δ (bs v.fr),Δ (bs v.en)]):=rfl;unfold Pt.v Pt.cells;have hq:=bE.new w #[Υ Ξ v.side,Δ (bs v.fr),Δ (bs v.en)] 35;have fL:=nA w (π #[Υ Ξ v.side,Δ (bs v.fr),Δ (bs v.en)] 35);obtain⟨W1,tZ⟩:=nm (w.alloc (π #[Υ Ξ v.side,Δ (bs v.fr),Δ (bs v.en)] 35));rw [tZ] at hq fL;have HQ:=zq hq;have gH:=zq fL;clear hq fL;go_enter func76,ntmps76;go_upto_if 9 with (fail);try rw [tZ]
 clear tZ;go_loopw [8] (fun i wr=>∃ k:Nat,i=Υ Ξ (k:Int)/\k<=m/\aQ (bE wr w.heap.size #[Υ Ξ v.side,Δ (bs v.fr),Δ (bs v.en)] 35/\Bw w wr)) (fun i _=>n - (ξ i).toNat);case atStart=>exact⟨0,rfl,oM,HQ.o,gH.o⟩
 case round=>
  clear HQ gH;obtain⟨k,rfl,hk,HS⟩:=hrel;have hQ:=HS.o.1;have HB:=zq HS.o.2;have aC4:(k:Int) < n:=oM;have hk0:(0:Int)<=(k:Int):=oM;obtain⟨pb',po',NW,d0,d1,d2⟩:=(HR.o.below HB.o).at (i:=k) (by rw [Hl.o];omega) rfl;injection NW with NW;injection NW with e1 e2;subst e1 e2;obtain⟨x0,x1,x2,-,-,-,lq⟩:=hQ.all3;by_cases he:k=m
  .subst he;rw [HV.o] at d0 d1 d2;have Q:∀ W,(Fi 10000 35 (bQ #[Υ Ξ v.side,Δ (bs v.fr),Δ (bs v.en)]) (bQ #[Υ Ξ v.side,Δ (bs v.fr),Δ (bs v.en)])).run γ W= .ok ι W:=fun W=>by rw [aB0,decide_eq_true rfl]
   go_wp2_with fail
   go_region;all_goals
    go_wp2;go_ret;exact⟨rfl,by first | exact HB.o.drew | exact HB.o | exact dO HB.o _⟩
  .have hne:v≠ps.getD k Γ:=HF.o k oM;generalize ps.getD k Γ=q at *;have Q:∀ W,(Fi 10000 35 (bQ #[Υ Ξ v.side,Δ (bs v.fr),Δ (bs v.en)]) (bQ #[Υ Ξ q.side,Δ (bs q.fr),Δ (bs q.en)])).run γ W= .ok ν W:=fun W=>by rw [aB0,decide_eq_false hne]
   go_wp2_with fail
   go_region;all_goals
    go_wp2;go_roundw;case rel=>exact⟨k+1,by go_num,oM,hQ,by first | exact HB.o.drew | exact HB.o | exact dO HB.o _⟩
    case measure=>simp only [ξ];omega
end
section
open Go.Shelf
def Tryz.grP_ren:iG:=⟨fun |4=>24|n=>n,fun |22=>32|25=>35|3=>3|4=>4|9=>9|20=>20|0=>0|n=>n,fun |n=>n⟩
theorem Tryz.grP:Bq γ Tryz.grP_ren:={
 mixed:=kF
 f4:=⟨Tryz.f24.name,dD,zf func24⟩
 t0:=pK
 a0:=Aj
 z0:=xT
 v0:=rK
 t3:=dB
 a3:=jF
 z3:=gW
 v3:=gV
 t4:=eW
 a4:=lK
 z4:=jR
 v4:=gJ
 t9:=jG
 a9:=qH
 z9:=oN
 v9:=mB
 t20:=Mp
 a20:=di
 z20:=XT
 v20:=OR
 t22:=rQ
 a22:=K7
 z22:=Im
 v22:=Ms}
open Go Go.RowKit Go.Lib Go.Shelf
theorem bg0(n:Nat)(w:η)(h0:0<n)(hn:n<=100000000):
 aE γ 24 #[Θ δ 0 0,Υ Ξ n] w fun e w'=>(∃g cap,e=σ (Θ (ζ ⟨g,0,δ⟩) 0 cap)/\w'.ownsRow w.heap.size 35 3 (Θ (ζ ⟨g,0,δ⟩) 0 cap) 0 [])/\Bw w w':=by
 obtain⟨i0,hi,Ak,yP,uT⟩:=jJ wI;have H:=YB Tryz.grP i0 (bQ #[Υ Ξ 0,Δ ⟨#[]⟩,Δ ⟨#[]⟩]) hi Ak (by rw[yP];decide) δ 0 0 n [] w (θ _) oM (by rw[uT];omega) oM sP (fun _=>rfl) (fun a e=>(by cases e));refine uN H ?_;rintro e w'⟨rfl,rfl⟩;refine⟨⟨w.heap.size,_,rfl,rfl,.inr ⟨w.heap.size,_,_,rfl,θ _,kZ w.drew _,aP _,?_,?_,rfl⟩⟩,((μ _ w).drew.alloc sP _)⟩
 .exact grownCap_le_maxLen w _ _ _ (by unfold yE;omega)
 .have:=grownCap_ge w (0+n) 0 (Tryz.grP_ren.t 25);rw[lM,lM,Bj,Bj];simp only[dp,bI,aC,bB];generalize grownCap w (0+n) 0 (Tryz.grP_ren.t 25)=c at *;omega
theorem bq0{w:η}{cF:Array eZ}{rest:List eZ}{o:eZ}{a:iS}{Q:sG->iS->η->Prop}(Io:o.guard=δ)(s x:mC)
 (ho:o.op=.call {callee:=.builtin .append,args:=#[s,x],argTypes:=#[32,32]})(cH:Nat)
 (gv cv n:Nat)(xs:List χ)(hs:a.eval s=Θ (ζ ⟨gv,0,δ⟩) n cv)(cT:w.ownsRow cH 35 3 (Θ (ζ ⟨gv,0,δ⟩) n cv) n xs)
 (l:Sl)(hx:a.eval x=l.v)(hl:l.ok)(hr:l.Rd w)(OZ:n+l.len<=100000000)(kH:cH<=w.heap.size)
 (h:∀g cap w',w'.ownsRow cH 35 3 (Θ (ζ ⟨g,0,δ⟩) (n+l.len) cap) (n+l.len) (xs++l.cs)->cH<=g->w.grownBy w' (ζ gv)->
  Dk γ cF Q rest (a.put o.dst (Θ (ζ ⟨g,0,δ⟩) (n+l.len) cap)) w'):
 Dk γ cF Q (o::rest) a w:=by
 obtain⟨i0,hi,Ak,yP,uT⟩:=jJ wI;refine wpList_append_own _ Io s x 32 ho cH 35 i0 (bQ #[Υ Ξ 0,Δ ⟨#[]⟩,Δ ⟨#[]⟩]) 3 40 rQ hi Ak yP uT rfl dD _ n xs hs cT ⟨l.b,l.off,δ⟩ l.len l.cap l.cs hx hl.1 (fun j u hj=>by rw[qP];exact hr j u hj) hl.2
  (by unfold yE;omega) oM kH ?_
 intro v' w' lH hg JJ;rcases lH.2 with⟨h1,h2⟩|⟨g',Ip,pZ,hv,h3,-⟩
 .have:=(JJ.1 h1).1;cases this
 .subst hv;exact h g' Ip w' lH h3 hg
theorem aC8(a n ca ls w)(hl:ls.length=n)(hn:n<=1000)(lI:∀l∈ls,l.len<=10000/\l.ok)(hpos:0<iK ls n)(rl:RdS w a ls):
 aE γ 8 #[Θ a n ca] w fun e w'=>(∃g cap,e=σ (Θ (ζ ⟨g,0,δ⟩) (iK ls n) cap)/\w'.ownsRow w.heap.size 35 3 (Θ (ζ ⟨g,0,δ⟩) (iK ls n) cap) (iK ls n) (vL ls))/\Bw w w':=by
 have yX:∀i,i<n->(ls.getD i Γ).len<=10000/\(ls.getD i Γ).ok:=fun i hi=>lI _ (aN oM Γ);have Ki:∀k,k<=n->iK ls k<=k*10000:=fun k hk=>Mz (fun i hi=>(yX i oM).1) k hk;have C3:∀k,k<=n->iK ls k<=10000000:=fun k hk=>by have:=Ki k hk;have:k*10000<=1000*10000:=tA _ oM;omega
 have HA:aQ (∀k,k<n->vL (ls.take (k+1))=vL (ls.take k)++(ls.getD k Γ).cs):=fun k hk=>Kh oM;have HAn:aQ (vL (ls.take n)=vL ls):=by show _=_;rw[eA oM]
 have Hm:aQ (∀k,k<n->iK ls (k+1)=iK ls k+(ls.getD k Γ).len):=fun k _=>rfl;have Hb:=zq C3;have Hok:=zq yX;have Hl:=zq hl;have Rl:=zq rl;have HG:=zq (fun W=>bg0 (iK ls n) W hpos (by have:=C3 n (θ _);omega));have hbn:=C3 n (θ _);clear hl lI rl Ki C3 yX;go_enter func8,ntmps8;go_wp2;go_loop [3,11] (fun s i=>∃k:Nat,i=Υ Ξ k/\k<=n/\s=Υ Ξ (iK ls k:Nat)) (fun _ i=>n-(ξ i).toNat);case atStart=>exact⟨0,rfl,aP _,rfl⟩
 case round=>
  obtain⟨k,rfl,hk,rfl⟩:=hrel;by_cases hlt:k<n
  .obtain⟨lb,lo,rfl,c0,-⟩:=Rl.o k (by rw[Hl.o];exact hlt);have b1:=Hb.o k hk;have b2:=Hb.o (k+1) hlt;have e2:=Hm.o k hlt;have HE:=zq e2;rw[e2]at b2;clear e2;generalize ls.getD k Γ=l at *;unfold Sl.v at c0;generalize l.cap=lc,l.off=lof,l.b=la,l.len=m at *;obtain⟨s1,xZ⟩:=nm (iK ls (k+1));rw[xZ]at HE;have O9:=zq xZ;clear xZ;generalize iK ls k=s0 at *;go_wp2;go_round;case rel=>exact⟨k+1,by go_num,oM,by rw[O9.o,HE.o];go_num⟩
   case measure=>simp only[ξ];omega
  .obtain rfl:n=k:=oM;obtain⟨N,hN⟩:=nm (iK ls n);rw[hN]at HG hbn|-;have HN:=zq hN;clear hN hpos;go_wp2_with fail
   refine(HG.o _).mono ?_;rintro e W1⟨⟨g0,Zu,rfl,Em⟩,hb1⟩;have eG:=zq hb1;have Lj:=zq Em;clear hb1 Em HG;go_wp2;go_loopw[6,27] (fun o i wr=>∃(k g cap:Nat),i=Υ Ξ k/\k<=n/\o=Θ (ζ ⟨g,0,δ⟩) (iK ls k) cap/\aQ (wr.ownsRow w.heap.size 35 3 (Θ (ζ ⟨g,0,δ⟩) (iK ls k) cap) (iK ls k) (vL (ls.take k)))/\aQ (Bw w wr)) (fun _ i _=>n-(ξ i).toNat);case atStart=>exact⟨0,g0,Zu,rfl,aP _,rfl,Lj.o,eG.o⟩
   case round=>
    clear eG Lj;obtain⟨k,g,cap,rfl,hk,rfl,sS,HB⟩:=hrel;by_cases hlt2:k<n
    .obtain⟨lb,lo,rfl,c0,rp⟩:=(Rl.o.below HB.o) k (by rw[Hl.o];exact hlt2);have HE:=zq (Hm.o k hlt2);have b2:=Hb.o (k+1) hlt2;rw[HE.o]at b2;have im:=zq (HA.o k hlt2);have Rp:=zq rp;have Ok:=zq (Hok.o k hlt2).2;clear rp;generalize ls.getD k Γ=l at *;obtain⟨lbb,lof,m,lc,cs⟩:=l;unfold Sl.v at c0;simp only[]at *;obtain⟨s1,xZ⟩:=nm (iK ls (k+1));rw[xZ]at HE;have O9:=zq xZ;clear xZ;generalize iK ls k=s0 at *;have cT:=sS.o;have O6:=HB.o.size;have hb3:s0+m<=100000000:=oM;go_wp2_with (at_builtin;refine bq0 rfl _ _ rfl w.heap.size g cap s0 _ rfl cT ⟨lbb,lof,m,lc,cs⟩ rfl Ok.o Rp.o hb3 O6 ?_;intro g5 Tj w5 lJ sj sT;simp only[]at lJ)
     have wG:=zq (dT (v:=Θ (ζ ⟨g,0,δ⟩) s0 cap) HB.o sT cT (θ _) O6);rw[<-im.o,<-HE.o]at lJ;have io:=zq lJ;clear cT lJ sT;go_wp2;go_roundw;case rel=>exact⟨k+1,g5,Tj,by go_num,oM,by rw[O9.o,HE.o],by rw[O9.o];exact io.o,wG.o⟩
     case measure=>simp only[ξ];omega
    .obtain rfl:n=k:=oM;rw[HAn.o,HN.o]at sS;rw[HN.o];go_wp2;go_ret;exact⟨⟨g,cap,by first |rfl|(rw[HN.o];rfl),by rw[HN.o];exact sS.o⟩,HB.o⟩
def Tryz.clK_ren:iG:=⟨fun |41=>39|n=>n,fun |22=>32|23=>35|4=>4|n=>n,fun |n=>n⟩
theorem Tryz.clK:Go.Proofs.SlLaysE0.n41 γ Tryz.clK_ren:={
 mixed:=kF
 f41:=⟨Tryz.f39.name,dD,zf func39⟩
 t4:=eW
 a4:=lK
 z4:=jR
 v4:=gJ
 t22:=rQ
 a22:=K7
 z22:=Im
 v22:=Ms}
def Tryz.grK_ren:iG:=⟨fun |4=>24|n=>n,fun |22=>32|25=>35|3=>3|4=>4|9=>9|20=>20|0=>0|n=>n,fun |n=>n⟩
theorem Tryz.grK:Bq γ Tryz.grK_ren:={
 mixed:=kF
 f4:=⟨Tryz.f24.name,dD,zf func24⟩
 t0:=pK
 a0:=Aj
 z0:=xT
 v0:=rK
 t3:=dB
 a3:=jF
 z3:=gW
 v3:=gV
 t4:=eW
 a4:=lK
 z4:=jR
 v4:=gJ
 t9:=jG
 a9:=qH
 z9:=oN
 v9:=mB
 t20:=Mp
 a20:=di
 z20:=XT
 v20:=OR
 t22:=rQ
 a22:=K7
 z22:=Im
 v22:=Ms}
open Go Go.RowKit Go.Lib Go.Shelf
theorem ED{b off:Nat}(h:Ih w (ζ ⟨b,off,δ⟩) ps):∀(j:Nat)(u:χ),(cJ ps)[j]? =ζ u->w.cell? ⟨b,off+j,δ⟩=ζ u:=by
 intro j u hu;have hj:j<(cJ ps).length:=by
  rcases fO j (cJ ps).length with h|h
  .exact h
  .rw[nW h]at hu;cases hu
 rw[oW]at hj;have hi:j/3<ps.length:=oM;obtain⟨k1,k2,k3⟩:=tF ps (j/3) hi;obtain⟨b',o',e,c1,c2,c3⟩:=h.at hi rfl;injection e with e;injection e with e1 e2;subst e1 e2;have hr:j%3=0\/j%3=1\/j%3=2:=oM;rcases hr with r|r|r
 .rw[show j=j/3*3 by omega,k1]at hu;rw[show off+j=off+j/3*3 by omega,c1];exact hu
 .rw[show j=j/3*3+1 by omega,k2]at hu;rw[show off+j=off+j/3*3+1 by omega,c2];exact hu
 .rw[show j=j/3*3+2 by omega,k3]at hu;rw[show off+j=off+j/3*3+2 by omega,c3];exact hu
theorem AP(ps):∀u∈cJ ps,u.oneCell'=ι:=by
 intro u hu;obtain⟨p,-,h⟩:=List.mem_flatMap.1 hu;simp only[jT,pL,or_false]at h;rcases h with rfl|rfl|rfl<;>rfl
theorem Wo(b off n c ps w)(hl:ps.length=n)(hn:n<=1000000)(r:Ih w (ζ ⟨b,off,δ⟩) ps):
 aE γ 39 #[Θ (ζ ⟨b,off,δ⟩) n c] w fun e w'=>(∃g cap,e=σ (Θ (ζ ⟨g,0,δ⟩) n cap)/\w'.ownsRow w.heap.size 35 3 (Θ (ζ ⟨g,0,δ⟩) n cap) n (cJ ps))/\Bw w w':=by
 obtain⟨i0,hi,Ak,yP,uT⟩:=jJ wI;have H:=AnyE.slices_Clone Tryz.clK i0 (bQ #[Υ Ξ 0,Δ ⟨#[]⟩,Δ ⟨#[]⟩]) 3 40 hi Ak yP uT rfl dD sizeOf35 b off n c (cJ ps) w (by rw[oW,hl];omega) (by unfold yE;omega) oM (ED r) (AP ps);refine uN H ?_;rintro e w'⟨v',rfl,cT,JJ,hb⟩;refine⟨?_,hb⟩;rcases cT.2 with⟨h1,_⟩|⟨g,cap,pZ,hv,_⟩
 .exact absurd h1 JJ
 .subst hv;exact⟨g,cap,rfl,cT⟩
theorem ZQ(n:Nat)(w:η)(h0:0<n)(hn:n<=100000000):
 aE γ 24 #[Θ δ 0 0,Υ Ξ n] w fun e w'=>(∃g cap,e=σ (Θ (ζ ⟨g,0,δ⟩) 0 cap)/\w'.ownsRow w.heap.size 35 3 (Θ (ζ ⟨g,0,δ⟩) 0 cap) 0 [])/\Bw w w':=by
 obtain⟨i0,hi,Ak,yP,uT⟩:=jJ wI;have H:=YB Tryz.grK i0 (bQ #[Υ Ξ 0,Δ ⟨#[]⟩,Δ ⟨#[]⟩]) hi Ak (by rw[yP];decide) δ 0 0 n [] w (θ _) oM (by rw[uT];omega) oM sP (fun _=>rfl) (fun a e=>(by cases e));refine uN H ?_;rintro e w'⟨rfl,rfl⟩;refine⟨⟨w.heap.size,_,rfl,rfl,.inr ⟨w.heap.size,_,_,rfl,θ _,kZ w.drew _,aP _,?_,?_,rfl⟩⟩,((μ _ w).drew.alloc sP _)⟩
 .exact grownCap_le_maxLen w _ _ _ (by unfold yE;omega)
 .have:=grownCap_ge w (0+n) 0 (Tryz.grK_ren.t 25);rw[lM,lM,Bj,Bj];simp only[dp,bI,aC,bB];generalize grownCap w (0+n) 0 (Tryz.grK_ren.t 25)=c at *;omega
def lX(ls:List Lp):Nat->Nat
 |0=>0
 |k+1=>lX ls k+(ls.getD k Γ).ps.length
def pI(ls:List Lp):List Pt:=ls.flatMap Lp.ps
theorem Gy(hk:k<ls.length):pI (ls.take (k+1))=pI (ls.take k)++(ls.getD k Γ).ps:=by
 unfold pI;rw[bM hk,kA];simp[Ω,hk]
theorem C6:∀k,k<=ls.length->(pI (ls.take k)).length=lX ls k
 |0,_=>rfl
 |k+1,h=>by rw[Gy oM,aJ,C6 k oM];rfl
theorem Rq(h:∀i,i<ls.length->(ls.getD i Γ).ps.length<=1000):∀k,k<=ls.length->lX ls k<=k*1000
 |0,_=>θ _
 |k+1,hk=>by
  have h1:=Rq h k oM
  have h2:=h k oM
  rw[lX,Nat.succ_mul];omega
theorem bz6{cF:Array eZ}{rest:List eZ}{o:eZ}{Q:sG->iS->η->Prop}(Io:o.guard=δ)(s x)(ho:o.op=.call {callee:=.builtin .append,args:=#[s,x],argTypes:=#[32,32]})(cH gv cv n xs)(hs:a.eval s=Θ (ζ ⟨gv,0,δ⟩) n cv)(cT:w.ownsRow cH 35 3 (Θ (ζ ⟨gv,0,δ⟩) n cv) n xs)(b off m c ps)(hx:a.eval x=Θ (ζ ⟨b,off,δ⟩) m c)(hl:ps.length=m)(hr:Ih w (ζ ⟨b,off,δ⟩) ps)(OZ:n+m<=100000000)(kH:cH<=w.heap.size)(h:∀g cap w',w'.ownsRow cH 35 3 (Θ (ζ ⟨g,0,δ⟩) (n+m) cap) (n+m) (xs++cJ ps)->cH<=g->w.grownBy w' (ζ gv)->
  Dk γ cF Q rest (a.put o.dst (Θ (ζ ⟨g,0,δ⟩) (n+m) cap)) w'):
 Dk γ cF Q (o::rest) a w:=by
 obtain⟨i0,hi,Ak,yP,uT⟩:=jJ wI;refine wpList_append_own _ Io s x 32 ho cH 35 i0 (bQ #[Υ Ξ 0,Δ ⟨#[]⟩,Δ ⟨#[]⟩]) 3 40 rQ hi Ak yP uT rfl dD _ n xs hs cT ⟨b,off,δ⟩ m c (cJ ps) hx (by rw[oW,hl];omega) (fun j u hj=>by rw[qP];exact ED hr j u hj) (AP ps)
  (by unfold yE;omega) oM kH ?_
 intro v' w' lH hg JJ;rcases lH.2 with⟨h1,h2⟩|⟨g',Ip,pZ,hv,h3,-⟩
 .exact absurd (JJ.1 h1).1 sP
 .subst hv;exact h g' Ip w' lH h3 hg
theorem TF(a n ca ls w)(hl:ls.length=n)(hn:n<=1000)(lI:∀ i,i < n->(ls.getD i Γ).ps.length<=1000)(bg1:∀ i,i < n->1<=(ls.getD i Γ).ps.length)(hpos:0 < lX ls n)(rl:CE w a ls):
 aE γ 8 #[Θ a n ca] w fun e w'=>(∃ g cap,e=σ (Θ (ζ ⟨g,0,δ⟩) (lX ls n) cap)/\Ih w' (ζ ⟨g,0,δ⟩) (pI ls))/\Bw w w':=by
 have Ki:∀ k,k<=n->lX ls k<=k * 1000:=fun k hk=>Rq (by rw [hl];exact lI) k oM;have Wi:∀ k,k < n->lX ls (k+1)=lX ls k+(ls.getD k Γ).ps.length:=fun k _=>rfl;have C3:∀ k,k<=n->lX ls k<=1000000:=fun k hk=>by have:=Ki k hk;have:k * 1000<=1000 * 1000:=tA _ oM;omega
 have HA:aQ (∀ k,k < n->pI (ls.take (k+1))=pI (ls.take k) ++ (ls.getD k Γ).ps):=fun k hk=>Gy oM;have HAn:aQ (pI (ls.take n)=pI ls):=by show _=_;rw [eA oM]
 have HLn:aQ (∀ k,k<=n->(pI (ls.take k)).length=lX ls k):=fun k hk=>C6 k oM;have Hb:=zq C3;have Hp1:=zq bg1;have Hm:=zq Wi;have Hl:=zq hl;have Rl:=zq rl;have HG:=zq (fun W=>ZQ (lX ls n) W hpos (by have:=C3 n (θ _);omega));have hbn:=C3 n (θ _);clear hl lI bg1 rl Ki Wi C3;go_enter func8,ntmps8;go_wp2;go_loop [3,11] (fun s i=>∃ k:Nat,i=Υ Ξ k/\k<=n/\s=Υ Ξ (lX ls k:Nat)) (fun _ i=>n - (ξ i).toNat);case atStart=>exact⟨0,rfl,aP _,rfl⟩
 case round=>
  obtain⟨k,rfl,hk,rfl⟩:=hrel;by_cases hlt:k < n
  .obtain⟨lb,lo,rfl,c0,-⟩:=Rl.o.at (i:=k) (by rw [Hl.o];exact hlt) rfl;have b1:=Hb.o k hk;have b2:=Hb.o (k+1) hlt;have e2:=Hm.o k hlt;have HE:=zq e2;rw [e2] at b2;clear e2;generalize ls.getD k Γ=l at *;generalize l.cap=lc,l.a=la,l.ps.length=m at *;obtain⟨s1,xZ⟩:=nm (lX ls (k+1));rw [xZ] at HE;have O9:=zq xZ;clear xZ;generalize lX ls k=s0 at *;go_wp2;go_round;case rel=>exact⟨k+1,by go_num,oM,by rw [O9.o,HE.o];go_num⟩
   case measure=>simp only [ξ];omega
  .obtain rfl:n=k:=oM;obtain⟨N,hN⟩:=nm (lX ls n);rw [hN] at HG hbn |-;have HN:=zq hN;clear hN hpos;go_wp2_with fail
   refine(HG.o _).mono ?_;rintro e W1 ⟨⟨g0,Zu,rfl,Em⟩,hb1⟩;have eG:=zq hb1;have Lj:=zq Em;clear hb1 Em HG;go_wp2;go_loopw [6,27] (fun o i wr=>∃ (k g cap:Nat),i=Υ Ξ k/\k<=n/\o=Θ (ζ ⟨g,0,δ⟩) (lX ls k) cap/\aQ (wr.ownsRow w.heap.size 35 3 (Θ (ζ ⟨g,0,δ⟩) (lX ls k) cap) (lX ls k) (cJ (pI (ls.take k))))/\aQ (Bw w wr)) (fun _ i _=>n - (ξ i).toNat);case atStart=>exact⟨0,g0,Zu,rfl,aP _,rfl,Lj.o,eG.o⟩
   case round=>
    clear eG Lj;obtain⟨k,g,cap,rfl,hk,rfl,sS,HB⟩:=hrel;by_cases hlt2:k < n
    .obtain⟨lb,lo,rfl,c0,rp⟩:=(Rl.o.below HB.o).at (i:=k) (by rw [Hl.o];exact hlt2) rfl;have HE:=zq (Hm.o k hlt2);have b2:=Hb.o (k+1) hlt2;rw [HE.o] at b2;have im:=zq (HA.o k hlt2);obtain⟨pb,po,ea,-⟩:=rp 0 (Hp1.o k hlt2);have Rp:=zq rp;clear rp;generalize ls.getD k Γ=l at *;obtain⟨la,lc,ps⟩:=l;simp only [] at *;subst ea;obtain⟨m,hm⟩:=nm ps.length;rw [hm] at c0 HE b2;have Hpl:=zq hm;clear hm;obtain⟨s1,xZ⟩:=nm (lX ls (k+1));rw [xZ] at HE;have O9:=zq xZ;clear xZ;generalize lX ls k=s0 at *;have cT:=sS.o;have O6:=HB.o.size;have hb3:s0+m<=100000000:=oM;go_wp2_with (at_builtin;refine bz6 rfl _ _ rfl w.heap.size g cap s0 _ rfl cT pb po m lc ps rfl Hpl.o Rp.o hb3 O6 ?_;intro g5 Tj w5 lJ sj sT)
     have wG:=zq (dT (v:=Θ (ζ ⟨g,0,δ⟩) s0 cap) HB.o sT cT (θ _) O6);rw [<- tO,<- im.o,<- HE.o] at lJ;have io:=zq lJ;clear cT lJ sT;go_wp2;go_roundw;case rel=>exact⟨k+1,g5,Tj,by go_num,oM,by rw [O9.o,HE.o],by rw [O9.o];exact io.o,wG.o⟩
     case measure=>simp only [ξ];omega
    .obtain rfl:n=k:=oM;rw [HAn.o,HN.o] at sS;rw [HN.o];have R:=zq (Ih.own sS.o);go_wp2;go_ret;exact⟨⟨g,cap,by first | rfl | (rw [HN.o];rfl),R.o⟩,HB.o⟩
end
section
open Go Go.RowKit Go.Shelf Go.Lib
def mU(fs:List Fr)(at':List (List UInt8))(ps:List Pt):List Pt:=ps.drop (gO fs at' ps ps.length)++ps.take (gO fs at' ps ps.length)
def sV(fs:List Fr)(at':List (List UInt8))(Ab:List (List Pt)):List (List Pt):=nT (ur fs at') (Ab.map (mU fs at'))
theorem vA(fs at' ps):(mU fs at' ps).length=ps.length:=by
 unfold mU;rw[aJ,dJ,dR];have:gO fs at' ps ps.length<=ps.length:=by
  rcases iZ ps.length with e|e
  .rw[e];simp[gO]
  .exact fM (tE _ _ _ _ e)
 omega
theorem N8(h:p∈mU fs at' ps):p∈ps:=by
 unfold mU at h;rcases List.mem_append.1 h with h|h
 .exact List.mem_of_mem_drop h
 .exact List.mem_of_mem_take h
theorem N9(pb po n i cap c bb ps W)(hl:ps.length=n)(hn:n<=10000)(SY:0<n)(hi:i<=n)(rp:Ih W (ζ ⟨pb,po,δ⟩) ps)(hb:bE W bb #[Θ (ζ ⟨pb,po+i*3,δ⟩) (n-i) c,Θ (ζ ⟨pb,po,δ⟩) i cap] 32):
 aE γ 8 #[Θ (ζ ⟨bb,0,δ⟩) 2 2] W fun e w'=>(∃g cap,e=σ (Θ (ζ ⟨g,0,δ⟩) n cap)/\w'.ownsRow W.heap.size 35 3 (Θ (ζ ⟨g,0,δ⟩) n cap) n (cJ (ps.drop i++ps.take i)))/\Bw W w':=by
 have c0:=hb.ce 0;have c1:=hb.ce 1;have hall:=ED rp;have e:cJ ps=cJ (ps.take i)++cJ (ps.drop i):=by rw[<-tO,yK]
 have hti:(cJ (ps.take i)).length=i*3:=by rw[oW,dR];omega
 have:=aC8 (ζ ⟨bb,0,δ⟩) 2 2 [⟨pb,po+i*3,n-i,c,cJ (ps.drop i)⟩,⟨pb,po,i,cap,cJ (ps.take i)⟩] W rfl dD (by
  intro x hx;simp only[jT,pL,or_false]at hx;rcases hx with rfl|rfl
  .exact⟨by show n-i<=10000;omega,by show _=(n-i)*3;rw[oW,dJ];omega,AP _⟩
  .exact⟨by show i<=10000;omega,by show _=i*3;exact hti,AP _⟩)
  (by show 0<0+(n-i)+i;omega) (by
   intro j hj;have hj:j<2:=hj;match j,hj with
   |0,_=>exact⟨bb,0,rfl,c0,fun k u hu=>by
    have:=hall (i*3+k) u (by rw[e,fA oM,hti,Nat.add_sub_cancel_left];exact hu);rwa[<-LV]at this⟩
   |1,_=>exact⟨bb,0,rfl,c1,fun k u hu=>hall k u (by
    rw[e,List.getElem?_append_left ?_]
    .exact hu
    .rcases fO k (cJ (ps.take i)).length with h|h
     .exact h
     .have hu:(cJ (ps.take i))[k]? =ζ u:=hu;rw[nW h]at hu;cases hu)⟩)
 have e1:iK [⟨pb,po+i*3,n-i,c,cJ (ps.drop i)⟩,⟨pb,po,i,cap,cJ (ps.take i)⟩] 2=n:=by show 0+(n-i)+i=n;omega
 have e2:vL [⟨pb,po+i*3,n-i,c,cJ (ps.drop i)⟩,⟨pb,po,i,cap,cJ (ps.take i)⟩]=cJ (ps.drop i++ps.take i):=by
  rw[tO];simp[vL]
 rw[e1,e2]at this;exact this
theorem al0(a c f w):aE γ 177 #[Θ a 0 c,Υ Ξ 0,Υ Ξ ((0:Nat):Int),f] w fun e w'=>(∃v,e=σ v)/\Bw w w':=by
 go_enter func177,ntmps177;go_wp2;go_loop [8] (fun i=>i=Υ Ξ 1) (fun _=>0);case atStart=>rfl
 case round=>
  obtain rfl:=hrel;go_wp2;go_end0;exact⟨⟨_,rfl⟩,μ _ _⟩
theorem LI(a b2 la nf ca c2 n cl fs at' aZ w)(hn:n<=19)(hl:aZ.length=n)(hlen:∀ l∈aZ,0 < l.ps.length/\l.ps.length<=10000/\l.ps.length<=l.cap)(yX:∀ l∈aZ,∀ p∈l.ps,rX fs at' p)(rl:CE w la aZ)(jh:∀ p q,rX fs at' p->rX fs at' q->∀ W,Bw w W->aE γ 75 #[bQ #[Θ a nf ca,Θ b2 nf c2],p.v,q.v] W (Rt (Υ Ξ (Dy fs at' p q)) W)):
 aE γ 30 #[bQ #[Θ a nf ca,Θ b2 nf c2],Θ la n cl] w fun e w'=>(∃ v qK,e=σ v/\gM w.heap.size w' v qK/\qK.map Lp.ps=sV fs at' (aZ.map Lp.ps))/\Bw w w':=by
 have Wp:∀ k,k < n->aZ.getD k Γ∈aZ:=fun k hk=>aN oM Γ;have ji:∀ k,k < n->∀ i,i < (aZ.getD k Γ).ps.length->rX fs at' ((aZ.getD k Γ).ps.getD i Γ):=fun k hk i hi=>yX _ (Wp k hk) _ (aN hi Γ);have bg2:aQ (∀ k,k < n->∀ W,Bw w W->aE γ 74 #[Θ (aZ.getD k Γ).a (aZ.getD k Γ).ps.length (aZ.getD k Γ).cap,.func (.func 75) #[bQ #[Θ a nf ca,Θ b2 nf c2]] #[]] W (Rt (((aZ.getD k Γ).ps.getD (gO fs at' (aZ.getD k Γ).ps (aZ.getD k Γ).ps.length) Γ).v) W)):=fun k hk W hW=>by
  obtain⟨h1,h2,h3⟩:=hlen _ (Wp k hk);obtain⟨lb,lo,-,-,rp⟩:=(rl.below hW).at (i:=k) oM rfl;exact uj _ _ _ _ fs at' _ W h1 oM rfl rp (fun i j hi hj V hV=>jh _ _ (ji k hk i hi) (ji k hk j hj) V (aW hW hV))
 have bg3:aQ (∀ k,k < n->∀ W,Bw w W->aE γ 76 #[Θ (aZ.getD k Γ).a (aZ.getD k Γ).ps.length (aZ.getD k Γ).cap,((aZ.getD k Γ).ps.getD (gO fs at' (aZ.getD k Γ).ps (aZ.getD k Γ).ps.length) Γ).v] W (Rt (Υ Ξ (gO fs at' (aZ.getD k Γ).ps (aZ.getD k Γ).ps.length:Nat)) W)):=fun k hk W hW=>by
  obtain⟨h1,h2,h3⟩:=hlen _ (Wp k hk);obtain⟨lb,lo,-,-,rp⟩:=(rl.below hW).at (i:=k) oM rfl;exact Wn _ _ _ _ _ W oM rfl rp (tE _ _ _ _ h1) (fun j hj=>aC6 (ji k hk) hj h1)
 have aN5:aQ (∀ g c W t,Bw w W->0 < n->∀ ZR,gM w.heap.size W (Θ (ζ ⟨g,0,δ⟩) n c) ZR->ZR.map Lp.ps=(aZ.map Lp.ps).map (mU fs at')->bE W t #[Θ a nf ca,Θ b2 nf c2] 70->
  aE γ 77 #[Θ (ζ ⟨g,0,δ⟩) n c,.func (.func 78) #[] #[aB (ζ ⟨t,0,δ⟩)]] W fun e w'=>(∃ v,e=σ v)/\(∃ qK,gM w.heap.size w' (Θ (ζ ⟨g,0,δ⟩) n c) qK/\qK.map Lp.ps=sV fs at' (aZ.map Lp.ps))/\Bw w w'):=fun g c W t hW SY ZR ho hm ht=>by
  have DN:ZR.length=n:=by rw [<- υ (f:=Lp.ps),hm,υ,υ];exact hl
  have mG:∀ l∈ZR,∃ l' ∈aZ,l.ps=mU fs at' l'.ps:=fun l hl=>by
   have:l.ps∈ZR.map Lp.ps:=List.mem_map.2 ⟨l,hl,rfl⟩;rw [hm] at this;obtain⟨ps,lI,e⟩:=List.mem_map.1 this;obtain⟨l',UO,rfl⟩:=List.mem_map.1 lI;exact⟨l',UO,e.symm⟩
  refine(ZP w.heap.size g n c t (Θ a nf ca) (Θ b2 nf c2) fs at' ZR w W hW (θ _) SY hn DN ho (fun l hl=>?_) (fun l hl=>?_) ht jh).mono ?_
  .obtain⟨l',h1,h2⟩:=mG l hl;rw [h2,vA];exact(hlen l' h1).1
  .obtain⟨l',h1,h2⟩:=mG l hl;have hp:0 < l.ps.length:=by rw [h2,vA];exact(hlen l' h1).1
   have h3:l.ps.getD 0 Γ∈l.ps:=aN hp Γ;rw [h2] at h3 |-;exact yX l' h1 _ (N8 h3)
  .rintro e w' ⟨hv,⟨qK,h1,h2⟩,hg⟩;refine⟨hv,⟨qK,h1,by rw [h2,hm];rfl⟩,dT (v:=Θ (ζ ⟨g,0,δ⟩) n c) hW hg ho.1 (θ _) hW.size⟩
 have TG:=zq (fun k (hk:k < n)=>hlen _ (Wp k hk));have HR:=zq rl;have Hl:=zq hl;clear jh yX hlen hl rl Wp ji;have hq:=bE.new w #[Θ a nf ca,Θ b2 nf c2] 70;have fL:=nA w (π #[Θ a nf ca,Θ b2 nf c2] 70);obtain⟨W0,fI⟩:=nm (w.alloc (π #[Θ a nf ca,Θ b2 nf c2] 70));rw [fI] at hq fL;have jg:=zq hq;have gH:=zq fL;clear hq fL;go_enter func30,ntmps30;go_upto_if 13 with (fail);try rw [fI]
 clear fI;go_loopw [5,12] (fun o i wr=>∃ k:Nat,i=Υ Ξ (k:Int)/\k<=n/\aQ (bE wr w.heap.size #[Θ a nf ca,Θ b2 nf c2] 70)/\aQ (Bw w wr)/\aQ (∃ Af,gM w.heap.size wr o Af/\Af.map Lp.ps=((aZ.map Lp.ps).map (mU fs at')).take k)) (fun _ i _=>n - (ξ i).toNat);case atStart=>exact⟨0,rfl,oM,jg,gH,[],⟨rN _ _ _ _,fun l h=>by cases h⟩,sP⟩
 case round=>
  clear jg gH;obtain⟨k,rfl,hk,HT,HB,HO⟩:=hrel;by_cases hlt:k < n
  .have aC4:(k:Int) < n:=oM;have hk0:(0:Int)<=(k:Int):=oM;obtain⟨lb,lo,rfl,l0,rp⟩:=(HR.o.below HB.o).at (i:=k) (by rw [Hl.o];exact hlt) rfl;obtain⟨q1,q2,q3⟩:=TG.o k hlt;have HMk:=zq (bg2.o k hlt);have HIk:=zq (bg3.o k hlt);have PD:aQ (((aZ.map Lp.ps).map (mU fs at')).take (k+1)=((aZ.map Lp.ps).map (mU fs at')).take k ++ [mU fs at' (aZ.getD k Γ).ps]):=by
    show _=_;have hkl:k < aZ.length:=by rw [Hl.o];exact hlt
    rw [bM (by rw [υ,υ];exact hkl)];simp [Ω,hkl]
   obtain⟨pb,po,NW,-⟩:=rp.at (i:=0) q1 rfl;have hmi:=tE fs at' (aZ.getD k Γ).ps _ q1;have ZS:mU fs at' (aZ.getD k Γ).ps=(aZ.getD k Γ).ps.drop (gO fs at' (aZ.getD k Γ).ps (aZ.getD k Γ).ps.length) ++ (aZ.getD k Γ).ps.take (gO fs at' (aZ.getD k Γ).ps (aZ.getD k Γ).ps.length):=rfl;rw [NW] at l0 rp HMk HIk;generalize (aZ.getD k Γ).cap=lcap at *;clear NW;generalize (aZ.getD k Γ).ps=ps at *;generalize gO fs at' ps ps.length=mi at *;rw [ZS] at PD;clear ZS;obtain⟨np,PO⟩:=nm ps.length;rw [PO] at l0 q1 q2 q3 HMk HIk hmi;have Rh:=zq PO;clear PO;have HRp:=zq rp;clear rp;obtain⟨PV,hPV⟩:=nm (ps.getD mi Γ);rw [hPV] at HMk HIk;clear hPV;unfold Pt.v Pt.cells at HMk HIk;generalize PV.side=VS,bs PV.en=VE,bs PV.fr=VF at *;obtain⟨t0,t1,-,-,lT⟩:=HT.o.two;go_wp2_with fail
   refine ka (HMk.o _ HB.o) fun W1 hb1=>?_;obtain⟨W2,TH⟩:=nm (W1.alloc (π #[Υ Ξ VS,Δ VF,Δ VE] 35));have hb2:Bw wr W2:=by rw [<- TH];exact hb1.alloc hb1.size _
   have al1:=zq hb2;have eU:=HB.bS hb2;obtain⟨x0,x1,x2,lx⟩:W2.cell? ⟨W1.heap.size,0,δ⟩=ζ (Υ Ξ VS)/\W2.cell? ⟨W1.heap.size,1,δ⟩=ζ (Δ VF)/\W2.cell? ⟨W1.heap.size,2,δ⟩=ζ (Δ VE)/\W1.heap.size < W2.heap.size:=by
    rw [<- TH];have q:=bE.new W1 #[Υ Ξ VS,Δ VF,Δ VE] 35;exact⟨q.cell 0,q.cell 1,q.cell 2,q.lt⟩
   clear hb1 hb2 t0 t1 lT l0;go_wp2_with fail
   try rw [TH]
   refine(HIk.o _ eU.o).mono ?_;rintro e W3 ⟨rfl,hb3⟩;have wF:=al1.bS hb3;have HB3:=eU.bS hb3;clear hb3 x0 x1 x2 lx TH al1 eU;have f0:(0:Int)<=(mi:Int):=oM;have f1:(mi:Int)<=np:=oM;have f2:(np:Int)<=lcap:=oM;have f3:(mi:Int)<=lcap:=oM;have ru:¬ lcap=mi:=oM;go_wp2;obtain⟨Af,ZU,Pc⟩:=HO.o;obtain⟨oa,oc,PR⟩:=kU ZU.1;have ZV:Af.length=k:=by rw [<- υ (f:=Lp.ps),Pc,dR,υ,υ,Hl.o];omega
   rw [ZV] at PR;subst PR;have Hlk:=zq ZV;clear ZV;have al2:=zq (ZU.below wF.o);have Hom:=zq Pc;have HT3:=zq (HT.o.below wF.o HT.o.lt);have al3:=zq (HRp.o.below wF.o);clear ZU Pc HO HT HB wF HRp HMk HIk;refine wp_region_held_drew (S:=(fun _=>True)) kF trivial (fun iW=>?_);obtain⟨Wd,hWd⟩:=nm (W3.drew);have uu:Bw W3 Wd:=by rw [<- hWd];exact(μ _ _).drew
   rw [hWd];have HOd:=zq (al2.o.below uu);have HTd:=HT3.bb uu;have HRd:=zq (al3.o.below uu);have Yr:=HB3.bS uu;clear uu hWd al2 HT3 al3 HB3 iW;refine tH 0 rfl ?_ (hS:=trivial);refine pu ?_;refine tH 1 rfl ?_ (hS:=trivial);refine pu ?_;refine tH 2 rfl ?_ (hS:=trivial);refine pu ?_;refine tH 3 rfl ?_ (hS:=trivial);refine pu ?_;refine tH 4 rfl ?_ (hS:=trivial);refine pu ?_;refine tH 5 rfl ?_ (hS:=trivial);refine pu ?_;refine tH 6 rfl ?_ (hS:=trivial);refine pu ?_;refine eM (rs:=[7]) kF sP ?_;refine cP rfl (fun K hK=>?_) dH;go_simp;show K _ _;obtain⟨V1,hV1⟩:=nm (Wd.alloc (π #[Θ (ζ ⟨pb,po+mi * 3,δ⟩) (np - mi) (lcap - mi),Θ (ζ ⟨pb,po,δ⟩) mi lcap] 32));rw [hV1];have hb1:Bw Wd V1:=by rw [<- hV1];exact nA _ _
   have PI:bE V1 Wd.heap.size #[Θ (ζ ⟨pb,po+mi * 3,δ⟩) (np - mi) (lcap - mi),Θ (ζ ⟨pb,po,δ⟩) mi lcap] 32:=by rw [<- hV1];exact bE.new _ _ _
   have IU:=zq (N9 pb po np mi lcap (lcap - mi) Wd.heap.size ps V1 Rh.o q2 q1 oM (HRd.o.below hb1) PI);have Lj:=zq (HOd.o.below hb1);have HT1:=HTd.bb hb1;have eG:=Yr.bS hb1;clear hb1 PI hV1 HOd HTd Yr HRd;refine hK.o _ _ trivial (fun iW=>?_);clear hK K;refine pu ?_;refine eM (rs:=[8]) kF sP ?_;refine cP rfl (fun K hK=>?_) dH;go_simp;go_at_call 8;refine IU.o.mono ?_;rintro e V2 ⟨⟨rg,rc,rfl,cT⟩,hb2⟩;have PJ:=zq (jU cT eG.o.size);have Ps:=zq (Lj.o.below hb2);have Yv:=HT1.bb hb2;have eU:=eG.bS hb2;clear cT hb2 Lj HT1 eG IU;show K _ _;refine hK.o _ _ trivial (fun iW=>?_);clear hK K;refine pu ?_;refine eM (rs:=[9]) kF sP ?_;refine cP rfl (fun K hK=>?_) dH;go_simp;show K _ _;obtain⟨V3,hV3⟩:=nm (V2.alloc (π #[Θ (ζ ⟨rg,0,δ⟩) np rc] 32));rw [hV3];have hb3:Bw V2 V3:=by rw [<- hV3];exact nA _ _
   have HNb:aQ (bE V3 V2.heap.size #[Θ (ζ ⟨rg,0,δ⟩) np rc] 32):=by rw [<- hV3];exact bE.new _ _ _
   have al4:=zq (aR PJ.o hb3);have PU:=zq (Ps.o.below hb3);have HT3:=Yv.bb hb3;have HB3:=eU.bS hb3;clear hb3 hV3 PJ Ps Yv eU;refine hK.o _ _ trivial (fun iW=>?_);clear hK K;refine pu ?_;refine eM (rs:=[10]) kF sP ?_;refine cP rfl (fun K hK=>?_) dH;refine Cc (by rfl) _ _ (by rfl) w.heap.size (Θ oa k oc) k (Af.map Lp.v) (by rfl) (by have:=PU.o.1;rwa [Hlk.o] at this) V2.heap.size (ζ ⟨rg,0,δ⟩) np rc (by rfl) HNb.o oM HB3.o.size ?_;intro gx PP V4 cT Et uE;have Wq:V3.ownsRow w.heap.size 35 3 (Lp.v ⟨ζ ⟨rg,0,δ⟩,rc,ps.drop mi ++ ps.take mi⟩) (ps.drop mi ++ ps.take mi).length (cJ (ps.drop mi ++ ps.take mi)):=by
    have e:(ps.drop mi ++ ps.take mi).length=np:=by rw [aJ,dJ,dR,Rh.o];omega
    unfold Lp.v;rw [e];exact al4.o
   have lH:V4.ownsRow w.heap.size 32 1 (Θ (ζ ⟨gx,0,δ⟩) (k+1) PP) (k+1) (Af.map Lp.v ++ [Lp.v ⟨ζ ⟨rg,0,δ⟩,rc,ps.drop mi ++ ps.take mi⟩]):=by
    have e:(ps.drop mi ++ ps.take mi).length=np:=by rw [aJ,dJ,dR,Rh.o];omega
    unfold Lp.v at cT |-;rw [e];exact cT
   have ho4:=PU.o.grow (g:=gx) (cap:=PP) Wq Et (by rw [Hlk.o];exact lH);rw [Hlk.o] at ho4;have HO4:=zq ho4;clear ho4;have HT4:=zq (kT HT3.o Et (iL HT3.o PU.o.1 dD));have HB4:=zq (dT HB3.o Et PU.o.1 (θ _) HB3.o.size);clear cT lH Wq Et uE PU HT3 HB3 HNb al4;show K _ _;refine hK.o _ _ trivial (fun iW=>?_);clear hK K;refine pu ?_;refine tH 11 rfl ?_ (hS:=trivial);refine pu ?_;refine wpAnyH_done kF ?_ _;go_wp2;go_roundw;case rel=>
    refine⟨k+1,by go_num,oM,HT4.o,HB4.o,_,HO4.o,?_⟩;rw [PD.o,dV,Hom.o];rfl
   case measure=>simp only [ξ];omega
  .obtain rfl:k=n:=oM;clear bg2 bg3 HR TG;obtain⟨Af,ZU,Pc⟩:=HO.o;obtain⟨oa,oc,PR⟩:=kU ZU.1;have ZV:Af.length=k:=by rw [<- υ (f:=Lp.ps),Pc,dR,υ,υ,Hl.o];omega
   rw [ZV] at PR;subst PR;have bg4:Af.map Lp.ps=(aZ.map Lp.ps).map (mU fs at'):=by rw [Pc,eA (by rw [υ,υ,Hl.o];exact θ _)]
   have HOl:=zq ZU;have Hom:=zq bg4;have Hlk:=zq ZV;clear ZU Pc bg4 ZV HO;have aN6:aQ (aE γ 77 #[Θ oa k oc,.func (.func 78) #[] #[aB (ζ ⟨w.heap.size,0,δ⟩)]] wr fun e w'=>(∃ v,e=σ v)/\(∃ qK,gM w.heap.size w' (Θ oa k oc) qK/\qK.map Lp.ps=sV fs at' (aZ.map Lp.ps))/\Bw w w'):=by
    rcases iZ k with h0 | h0
    .subst h0;have hn:Af= []:=List.length_eq_zero_iff.1 Hlk.o;have hln:aZ= []:=List.length_eq_zero_iff.1 Hl.o;refine(Wm oa 0 oc _ dD wr (fun w'=>Bw wr w') (al0 _ _ _ wr)).mono ?_;rintro e w' ⟨hv,hb⟩;refine⟨hv,⟨Af,HOl.o.below hb,?_⟩,aW HB.o hb⟩;subst hn;subst hln;rfl
    .have h1:=HOl.o.1;rw [Hlk.o] at h1;obtain⟨gg,cc,e1⟩:=qV h0 h1;injection e1 with e1 e2 e3;subst e1;exact aN5.o gg oc wr w.heap.size HB.o h0 Af HOl.o Hom.o HT.o
   clear aN5 HOl Hom Hlk;go_wp2_with fail
   refine aN6.o.mono ?_;rintro e W1 ⟨⟨v,rfl⟩,⟨qK,h1,h2⟩,hb1⟩;have H1:=zq h1;have H2:=zq h2;have eG:=zq hb1;clear h1 h2 hb1 aN6;go_wp2;go_ret;exact⟨⟨_,qK,rfl,H1.o,H2.o⟩,eG.o⟩
end
section
open Go Go.RowKit Go.Lib
theorem al5(fs at' xs ys ls G w)(hX:xs.length<=100000)(hY:ys.length<=100000)(hXY:xs.length*(ys.length*4)<=10000)(h:NX w G xs ys (xO fs at' xs ys ls)):
 aE γ 28 #[aB (ζ ⟨G,0,δ⟩)] w fun e w'=>(∃v aZ,e=σ v/\gM w.heap.size w' v aZ/\aZ.map Lp.ps=DA fs at' xs ys ls)/\Bw w w':=by
 obtain⟨xa,ya,gx,gy,cx,cy,m2,m3,m4,S,Nn,I,hg,hxa,hya,gh,hcy,hI,hc⟩:=h;have hin:mW I=kV fs at' xs ys ls:=by funext i j;exact hc i j
 have oV:tG (mW I) xs.length ys.length:=by rw[hin];exact Ae fs at' xs ys ls
 have:=ZA xa ya G gx gy xs.length ys.length cx cy m2 m3 m4 S Nn I xs ys w hX hY hXY oV hxa hya hg ⟨rfl,rfl,gh,hcy⟩;rw[hin,aC7 fun w hw=>by
  have hd:=(rE hw).1;unfold rU Wl;rw[hI.sid w hd]]at this
 exact this
def EF(fs:List Fr)(z:List UInt8)(ps:List Pt)(k:Nat):Bool:=
 ((fs.getD (ps.getD k Γ).side.toNat Γ).up==(fs.getD (ps.getD ((k+1)%ps.length) Γ).side.toNat Γ).up)&&
  (FP (fs.getD (ps.getD k Γ).side.toNat Γ) z !=FP (fs.getD (ps.getD ((k+1)%ps.length) Γ).side.toNat Γ) z)
def TI(fs:List Fr)(z:List UInt8)(Ab:List (List Pt))(i:Nat):Bool:=anyN (EF fs z (Ab.getD i [])) (Ab.getD i []).length
def FY(fs:List Fr)(z:List UInt8)(Ab:List (List Pt)):Bool:=anyN (TI fs z Ab) Ab.length
def Cg(fs:List Fr)(at':List (List UInt8))(ls:List Lp):List (List UInt8):=aH ((ls.flatMap Lp.ps).map fun p=>(bA fs at' p).x)
def Ch(fs:List Fr)(at':List (List UInt8))(ls:List Lp):List (List UInt8):=aH ((ls.flatMap Lp.ps).map fun p=>(bA fs at' p).y)
noncomputable def nY (fs:List Fr) (at':List (List UInt8)) (ls:List Lp):List (List Pt):=DA fs at' (Cg fs at' ls) (Ch fs at' ls) ls
noncomputable def lY (fs:List Fr) (ls:List Lp) (z:List UInt8):Int:=
 if FY fs z (nY fs (dL fs z) ls)=ι then 17 else 0
noncomputable def nP (fs:List Fr) (ls:List Lp) (z:List UInt8):List (List Pt):=if lY fs ls z=0 then sV fs (dL fs z) (nY fs (dL fs z) ls)else[]
structure aU5(fs:List Fr)(z:List UInt8)(ls:List Lp):Prop where
 g:wW fs (dL fs z) ls ((ls.flatMap Lp.ps).map fun p=>(bA fs (dL fs z) p).x) ((ls.flatMap Lp.ps).map fun p=>(bA fs (dL fs z) p).y)
 x:(Cg fs (dL fs z) ls).length<=36
 y:(Ch fs (dL fs z) ls).length<=36
 ok:aN4 fs (dL fs z) (nY fs (dL fs z) ls)
theorem aN7{a b:Nat}(ha:a<=36)(hb:b<=36):a*(b*4)<=10000:=by
 have h1:a*(b*4)<=36*(b*4):=tA _ ha;omega
theorem TJ(sR:∀f∈fs,f.Ok)(My:Dw ls)(hz:Lz z)(h:oI fs (dL fs z) ls ν=ι)(Vj:fs.length<=12)(LD:ls.length<=1000)(hn:(ls.flatMap Lp.ps).length<=36):aU5 fs z ls:=by
 have hg:=G3 sR My hz h LD oM;have hx:(Cg fs (dL fs z) ls).length<=36:=by
  refine aA (C4 _) ?_;rw[υ];exact hn
 have hy:(Ch fs (dL fs z) ls).length<=36:=by
  refine aA (C4 _) ?_;rw[υ];exact hn
 refine⟨hg,hx,hy,aU4 hg h Vj (fun s hs=>?_) (aN7 hx hy)⟩;rw[yQ hs];refine Ta (sR _ ?_) hz;rw[Ω,aS hs,bK];exact fJ _
theorem aU5.at(h:aU5 fs z ls)(hi:i<(nY fs (dL fs z) ls).length)(hk:k<((nY fs (dL fs z) ls).getD i []).length):rX fs (dL fs z) (((nY fs (dL fs z) ls).getD i []).getD k Γ):=
 h.ok.ok _ (aN hi []) _ (aN hk Γ)
theorem C7(fs at' ls):(bv8 fs at' ls).length=ls.length:=by unfold bv8;rw[υ]
theorem Rr(hi:i<ls.length):(bv8 fs at' ls).getD i []=uW fs at' (ls.getD i Γ).ps:=by
 simp[bv8,Ω,hi]
theorem al6(My:Dw ls){nf:Nat}(uE:∀k,k<nf->Sm (at'.getD k []))(Ii:∀i,i<ls.length->∀j,j<(ls.getD i Γ).ps.length->∃s:Nat,((ls.getD i Γ).ps.getD j Γ).side=s/\s<nf)(hi:i<ls.length):
 ((bv8 fs at' ls).getD i []).length=(ls.getD i Γ).ps.length/\∀j,j<(ls.getD i Γ).ps.length->
  (∃s:Nat,(((bv8 fs at' ls).getD i []).getD j Γ).side=s/\s<nf)/\Sm (((bv8 fs at' ls).getD i []).getD j Γ).fr/\Sm (((bv8 fs at' ls).getD i []).getD j Γ).en:=by
 rw[Rr hi];refine⟨nM _ _ _,fun j hj=>?_⟩;rw[zF hj];have hm:=My _ (aN hi Γ);have hp:=hm.2 _ (aN hj Γ);refine⟨Ii i hi j hj,?_,?_⟩
 .show Sm (if _ then _ else _:List UInt8);split
  .exact hp.1
  .obtain⟨s,e,h⟩:=Ii i hi _ (aV (j+(ls.getD i Γ).ps.length-1) (by omega:0<(ls.getD i Γ).ps.length));rw[e];exact uE _ h
 .show Sm (if _ then _ else _:List UInt8);split
  .exact hp.2
  .obtain⟨s,e,h⟩:=Ii i hi _ (aV (j+1) (by omega:0<(ls.getD i Γ).ps.length));rw[e];exact uE _ h
theorem al7(f:Pt->Bool)(l:List Pt):l.any f=anyN (fun k=>f (l.getD k Γ)) l.length:=by
 rw[Bool.eq_iff_iff,List.any_eq_true,eF];constructor
 .rintro⟨x,hx,hf⟩;obtain⟨k,hk,rfl⟩:=List.getElem_of_mem hx;exact⟨k,hk,by simpa[Ω,hk]using hf⟩
 .rintro⟨k,hk,hf⟩;exact⟨_,aN hk Γ,hf⟩
theorem Oa{x y:List UInt8}(h:nN fs ls x y≠0):oJ fs ls x y=[]:=iN h
theorem uv{x y:List UInt8}(h:nN fs ls x y=0):oJ fs ls x y=bv8 fs (dL fs y) ls:=ip h
end
section
open Go Go.Lib
theorem Rs(h:nX xs):xs.Nodup:=h.imp fun h e=>by subst e;exact absurd h (by grind)
theorem al8(hx:nX xs)(hy:nX ys)(h:∀z,z∈xs↔z∈ys):xs=ys:=
 List.Perm.eq_of_pairwise (fun a b _ _ h1 h2=>by exfalso;grind) hx hy ((List.perm_ext_iff_of_nodup (Rs hx) (Rs hy)).2 h)
theorem Wr{ds es:List (List UInt8)}(hd:∀s∈ds,Nm s)(h:∀z,z∈ds↔z∈es):aH ds=aH es:=by
 obtain⟨a1,a2⟩:=gR hd;obtain⟨b1,b2⟩:=gR (ds:=es) fun s hs=>hd s ((h s).2 hs);exact al8 a1 b1 fun z=>by rw[a2,b2];exact h z
theorem Wt(f:Sg->Int)(h:E.Perm F):lF f E=lF f F:=by
 induction h with
 |nil=>rfl
 |cons x _ ih=>simp only[lF,ih]
 |swap x y l=>simp only[lF];omega
 |trans _ _ h1 h2=>rw[h1,h2]
theorem ZW(w a s t):uX w (uX w a s) t=uX w (uX w a t) s:=by
 unfold uX;by_cases h1:A6 s w.x w.y w.d<;>by_cases h2:A6 t w.x w.y w.d<;>simp only[h1,h2,if_true,if_false];cases a with
 |none=>simp only[];split <;>split <;>first |rfl|(exfalso;omega)|(congr 1;omega)
 |some c=>
  simp only[];by_cases c1:s.side<c<;>by_cases c2:t.side<c<;>by_cases c3:t.side<s.side<;>by_cases c4:s.side<t.side<;>simp only[c1,c2,c3,c4,if_true,if_false]<;>first |rfl|(exfalso;omega)|(congr 1;omega)
theorem Wu(h:E.Perm F)(w):nO E w=nO F w:=h.foldl_eq' (fun x _ y _ z=>ZW w z x y) δ
theorem LJ(X Y)(h:E.Perm F):dK X Y E=dK X Y F:=by
 funext i k;unfold dK bF;rw[Wt _ h]
theorem uw(h:E.Perm F)(X Y):TE E X Y=TE F X Y:=by
 unfold TE Wl;refine eB fun w _=>?_;rw[Wu h]
theorem Kv{ms:List Lp}(h:(ls.flatMap Lp.ps).Perm (ms.flatMap Lp.ps))(hx:∀p∈ls.flatMap Lp.ps,Nm (bA fs at' p).x/\Nm (bA fs at' p).y):nY fs at' ls=nY fs at' ms:=by
 have ex:Cg fs at' ls=Cg fs at' ms:=Wr (fun s hs=>by obtain⟨p,hp,rfl⟩:=List.mem_map.1 hs;exact(hx p hp).1) fun z=>(h.map _).mem_iff;have ey:Ch fs at' ls=Ch fs at' ms:=Wr (fun s hs=>by obtain⟨p,hp,rfl⟩:=List.mem_map.1 hs;exact(hx p hp).2) fun z=>(h.map _).mem_iff;unfold nY DA kV xO;rw[ex,ey,LJ _ _ (h.map _),uw (h.map _)]
end
section
open Go Go.RowKit
def Kw(c:Array χ):Nat->List χ->Array χ
 |_,[]=>c
 |o,v::r=>Kw (c.setIfInBounds o v) (o+1) r
theorem wN:∀(vs:List χ)(c:Array χ)(o:Nat),(Kw c o vs).size=c.size
 |[],_,_=>rfl
 |v::r,c,o=>by rw[Kw,wN r,Sw]
theorem Ci:∀(vs:List χ)(c:Array χ)(o j:Nat),o+vs.length<=c.size->(Kw c o vs)[j]? =if o<=j/\j<o+vs.length then vs[j-o]? else c[j]?
 |[],c,o,j,_=>by rw[Kw,iN (fun h=>by simp only[bB]at h;omega)]
 |v::r,c,o,j,h=>by
  simp only[aC]at h
  rw[Kw,Ci r _ (o+1) j (by rw[Sw];omega)]
  by_cases h1:o+1<=j/\j<o+1+r.length
  .rw[ip h1,ip (by simp only[aC];omega),show j-o=(j-(o+1))+1 by omega,List.getElem?_cons_succ]
  .rw[iN h1]
   by_cases h2:j=o
   .subst h2
    rw[ip (by simp only[aC];omega),CI,aU,Array.getElem?_setIfInBounds_self_of_lt oM]
   .rw[iN (by simp only[aC];omega),K8 oM]
theorem Wv(c vs)(h:c.size=vs.length):Kw c 0 vs=vs.toArray:=by
 apply Array.ext_getElem?;intro j;rw[Ci vs c 0 j oM];by_cases h1:j<vs.length
 .rw[ip oM];simp
 .rw[iN oM,Du oM,Du (by simp;omega)]
theorem EG(w:η)(T:cS):∀(vs:List χ)(c:Array χ)(o:Nat),(w.alloc (π c T)).setCells w.heap.size o vs=w.alloc (π (Kw c o vs) T)
 |[],_,_=>rfl
 |v::r,c,o=>by rw[World.setCells,World.setCell_alloc_new,EG w T r,Kw]
theorem Ag{F:Fence}{m:Nat}{T:TypeId}{d s:Tmp}{o1 o2:Oper}{a:Act}{W:World}{Q:Exit->Act->World->Prop}(z cs)(hs:a.tmps.getD s undef=.agg cs)(h:Q .normal (a.put (some d) (.pointer (some ⟨W.heap.size,0,none⟩))) (W.alloc (.cells cs T)))(e1:o1.op=.alloc T:=by rfl)(g1:o1.guard=none:=by rfl)(d1:o1.dst=some d:=by rfl)(e2:o2.op=.store T (.tmp d) (.tmp s):=by rfl)(g2:o2.guard=none:=by rfl)(d2:o2.dst=none:=by rfl)(hne:d≠s:=by decide)(hd:d<a.tmps.size:=by simp)(hi:(P.info? T).map (·.size)=some cs.size:=by kernel_rfl)(hzs:z.size=cs.size:=by rfl)(h1:cs.all (·.oneCell')=true:=by simp[Value.oneCell'])(hr:∀(ev:Operand->Value)(w:World),(execOp ev o1).run P w=.ok (.value (.pointer (some ⟨w.heap.size,0,none⟩))) (w.alloc (.cells z T)):=by(intro ev w;go_simp)):
 (Code.region id #[o1,o2] false).wpIn F m P Q a W:=by
 refine wpIn_region_lit (l:=[o1,o2]) (wpListIn_plain g1 fun K hK=>?_);refine⟨fun f hf=>?_,?_⟩
 .unfold Oper.about at hf;rw[e1]at hf;cases hf
 .rw[Oper.semAt_plain F _ _ (fun c=>by rw[e1];exact fun h=>by cases h),hr];show K (a.put o1.dst _) _;rw[d1];refine hK _ _ (wpListIn_plain g2 fun K' hK'=>?_);refine⟨fun f hf=>?_,?_⟩
  .unfold Oper.about at hf;rw[e2]at hf;cases hf
  .have q:=bE.new W z T;have e:=run_storeAt_mid (P:=P) (W.alloc (.cells z T)) W.heap.size 0 T cs (fun j hj=>⟨by rw[Nat.zero_add,q.cell];simp[hzs,hj],by rw[Nat.zero_add];exact q.fz j⟩) hi h1;rw[EG,Wv z _ (by rw[hzs];simp)]at e;have x1:(a.put (some d) (.pointer (some ⟨W.heap.size,0,none⟩))).eval (.tmp d)=.pointer (some ⟨W.heap.size,0,none⟩):=by
    simp[Act.eval,Act.put,hd]
   have x2:(a.put (some d) (.pointer (some ⟨W.heap.size,0,none⟩))).eval (.tmp s)=.agg cs:=by
    have:(a.tmps.setIfInBounds d (.pointer (some ⟨W.heap.size,0,none⟩))).getD s undef=a.tmps.getD s undef:=by
     simp[Array.getD_eq_getD_getElem?,Array.getElem?_setIfInBounds_ne hne]
    simp only[Act.eval,Act.put];rw[this,hs]
   rw[Oper.semAt_plain F _ _ (fun c=>by rw[e2];exact fun h=>by cases h)];unfold execOp;simp only[e2,x1,x2,Sem.run_bind,e,Result.andThen_ok,Sem.run_pure];show K' (Act.put _ o2.dst undef) _;rw[d2];exact hK' _ _ (by rw[Array.toArray_toList];exact h)
inductive Wy3 where
 |quiet|store|made
 |alloc(z:Array χ)(T:cS)
abbrev Gm:=Nat->Option (Array χ×cS)
variable{P:cQ}{cF:Array eZ}{md:gD}{C:η->Prop}{n:Nat}{A:Nat->Wy3}{b0:Nat}{G:Gm}{Q:sG->iS->η->Prop}{m:Nat}
theorem bq1{o:eZ}{D:η->Prop}{v:χ}(h:Oper.quietUpon P D w v ((uH a.eval o).run P w)):o.quietAt P a D w v:=h
theorem TK{o:eZ}{C C':η->Prop}{v:χ}(h:∀w2,C w2->C' w2)(k:o.quietAt P a C w v):o.quietAt P a C' w v:=by
 unfold K9 Oper.quietUpon at *;split at k
 .exact k
 .exact k
 .exact⟨k.1,k.2.mono fun e w2⟨h1,h2⟩=>⟨h1,h _ h2⟩⟩
 .exact k
def YR(P:cQ)(cF:Array eZ)(C:η->Prop)(o:eZ)(v:χ)(a:iS):Prop:=
 (dU o (rP cF a.tmps)=ι/\∀w,C w->o.quietAt P a (fun w2=>Bw w w2) w v)\/(dU o (rP cF a.tmps)=ν/\v=ψ)
theorem YR.same{o:eZ}{v:χ}{a':iS}(hy:YR P cF C o v a)(he:uH a'.eval o=uH a.eval o)(hw:dU o (rP cF a'.tmps)=dU o (rP cF a.tmps)):YR P cF C o v a':=by
 unfold YR K9 at *;rw[he,hw];exact hy
def AR(P:cQ)(o:eZ)(z:Array χ)(T:cS):Prop:=(∀y,dU o y=ι)/\∀a w,(uH a o).run P w=.ok (.value (aB (ζ ⟨w.heap.size,0,δ⟩))) (w.alloc (π z T))
def SR(P:cQ)(o:eZ)(a:iS)(g:Nat)(cs:Array χ):Prop:=(∀y,dU o y=ι)/\o.dst=δ/\∀w z T,bE w g z T->z.size=cs.size->(uH a.eval o).run P w=.ok (.value ψ) (w.setCells g 0 cs.toList)\/(uH a.eval o).run P w=.ok .skip (w.setCells g 0 cs.toList)
def MR(P:cQ)(o:eZ)(a:iS)(z:Array χ)(T:cS)(vf:Nat->χ):Prop:=(∀y,dU o y=ι)/\∀w,(uH a.eval o).run P w=.ok (.value (vf w.heap.size)) (w.alloc (π z T))
def DQ(G:Gm)(g:Nat)(v:Array χ×cS):Gm:=fun k=>if k=g then ζ v else G k
theorem al9{G:Gm}{h:Nat}(u v)(hne:g≠h):DQ (DQ G g u) h v=DQ (DQ G h v) g u:=by
 funext k;unfold DQ;by_cases e:k=h<;>by_cases e2:k=g<;>simp[e,e2]<;>omega
def Gk(G:Gm)(w:η):Prop:=∀k cs T,G k=ζ (cs,T)->bE w k cs T
theorem Gk.below{G:Gm}(h:Gk G w)(hb:Bw w w2):Gk G w2:=fun k cs T e=>(h k cs T e).below hb (h k cs T e).lt
theorem EH(w:η)(g:Nat):∀(vs:List χ)(o:Nat)(w:η)(k:Nat),k≠g->(w.setCells g o vs).heap[k]? =w.heap[k]?
 |[],_,_,_,_=>rfl
 |v::r,o,w,k,h=>by rw[World.setCells,EH w g r (o+1) _ k h];exact dG w ⟨g,o,δ⟩ k v h
theorem Gz(g T):∀(vs:List χ)(o:Nat)(w:η)(z:Array χ),bE w g z T->bE (w.setCells g o vs) g (Kw z o vs) T
 |[],_,_,_,h=>h
 |v::r,o,w,z,h=>Gz g T r (o+1) _ _ (h.set o v)
theorem EI(hg:B<=g):∀(vs:List χ)(o:Nat)(w:η),Below B w (w.setCells g o vs)
 |[],_,_=>μ _ _
 |v::r,o,w=>((μ B w).setCell (p:=⟨g,o,δ⟩) hg v).trans (EI hg r (o+1) _)
theorem Gk.store{G:Gm}(h:Gk G w){z:Array χ}(hz:G g=ζ (z,T))(cs)(hs:z.size=cs.size):Gk (DQ G g (cs,T)) (w.setCells g 0 cs.toList):=fun k c S e=>by
 unfold DQ at e
 by_cases hk:k=g
 .subst hk
  rw[ip rfl]at e
  injection e with e;injection e with e1 e2;subst e1 e2
  have:=Gz k T cs.toList 0 w z (h k z T hz)
  rwa[Wv z _ (by simpa using hs),YG]at this
 .rw[iN hk]at e
  exact(EH w g cs.toList 0 w k hk).trans (h k c S e)
def wpF(m:Nat)(P:cQ)(md:gD)(cF:Array eZ)(n:Nat)(A:Nat->Wy3)(Q:sG->iS->η->Prop)(C:η->Prop)(b0:Nat):Nat->Gm->Array Bool->iS->Prop
 |0,G,L,a=>cG md cF L=[]/\∀w,C w->Gk G w->Q .normal a w
 |f+1,G,L,a=>(cG md cF L=[]->∀w,C w->Gk G w->Q .normal a w)/\∀i∈cG md cF L,∃o,cF[i]? =ζ o/\
  if n<=i then∀w,C w->Gk G w->wpOpIn eD m P cF Q i (uM eD m P md cF Q f (L.setIfInBounds i ι)) a w
  else match A i with
   |.alloc z T=>AR P o z T/\∀g,b0<=g->G g=δ->wpF m P md cF n A Q C b0 f (DQ G g (z,T)) (L.setIfInBounds i ι) (a.put o.dst (aB (ζ ⟨g,0,δ⟩)))
   |.store=>∃g cs z T,G g=ζ (z,T)/\z.size=cs.size/\b0<=g/\SR P o a g cs/\wpF m P md cF n A Q C b0 f (DQ G g (cs,T)) (L.setIfInBounds i ι) a
   |.quiet=>∃v,YR P cF C o v a/\wpF m P md cF n A Q C b0 f G (L.setIfInBounds i ι) (a.put o.dst v)
   |.made=>∃z T vf,MR P o a z T vf/\∀g,b0<=g->G g=δ->wpF m P md cF n A Q C b0 f (DQ G g (z,T)) (L.setIfInBounds i ι) (a.put o.dst (vf g))
theorem Cj{b0:Nat}(hQ:¬LetsOut Q)(hs:∀w w2,C w->Below b0 w w2->C w2)(hb:∀w,C w->b0<=w.heap.size):∀(f:Nat)(G:Gm)(L:Array Bool)(a:iS),wpF m P md cF n A Q C b0 f G L a->∀w,C w->Gk G w->uM eD m P md cF Q f L a w
 |0,_,_,_,h,w,hw,hg=>⟨h.1,h.2 w hw hg⟩
 |f+1,G,L,a,h,w,hw,hg=>by
  refine⟨fun h0=>h.1 h0 w hw hg,fun i hi=>?_⟩
  obtain⟨o,ho,k⟩:=h.2 i hi
  split at k
  .exact k w hw hg
  .split at k
   .rename_i z T _
    obtain⟨⟨k1,k2⟩,k3⟩:=k
    have hgn:G w.heap.size=δ:=by
     cases e:G w.heap.size with
     |none=>rfl
     |some v=>exact absurd (hg _ v.1 v.2 e).lt (Nat.lt_irrefl _)
    have hr:=Cj hQ hs hb f _ _ _ (k3 w.heap.size (hb w hw) hgn) (w.alloc (π z T)) (hs _ _ hw ((μ _ _).alloc (hb w hw) _)) (fun k cs S e=>by
     unfold DQ at e;by_cases hk:k=w.heap.size
     .rw[ip hk]at e;injection e with e;injection e with e1 e2;subst e1 e2 hk;exact bE.new w z T
     .rw[iN hk]at e;exact(hg k cs S e).alloc _)
    refine Iq hQ ?_;unfold wpOp;rw[ho];simp only;rw[ip (k1 _)];left;unfold OQ;rw[k2];exact hr
   .obtain⟨g,cs,z,T,e1,e2,e3,⟨k1,k0,k2⟩,k3⟩:=k;have hr:=Cj hQ hs hb f _ _ _ k3 (w.setCells g 0 cs.toList) (hs _ _ hw (EI e3 _ _ _)) (hg.store e1 cs e2);refine Iq hQ ?_;unfold wpOp;rw[ho];simp only;rw[ip (k1 _)];left;unfold OQ;rcases k2 w z T (hg g z T e1) e2 with k2|k2
    .rw[k2];show uM _ _ _ _ _ _ _ _ (a.put o.dst _) _;rw[k0];exact hr
    .rw[k2];show uM _ _ _ _ _ _ _ _ (a.put o.dst _) _;rw[k0];exact hr
   .obtain⟨v,hy,hK⟩:=k;have hq:qOp P cF (fun w2=>Bw w w2) i (wpF m P md cF n A Q C b0 f G (L.setIfInBounds i ι)) a:=by
     refine YieldsIn.qOp (v:=v) ho ?_ hK;rcases hy with⟨h1,h2⟩|h1
     .exact .inl ⟨h1,fun w1 hw1=>TK (fun w2 hw2=>hw1.trans (hw2.mono hw1.size)) (h2 w1 (hs _ _ hw (hw1.mono (hb w hw))))⟩
     .exact .inr h1
    exact Iq hQ<|wpOp_of_qOp (C:=fun w2=>Bw w w2) (μ _ _) (fun a' w' IV hk=>Cj hQ hs hb f G _ _ hk w' (hs _ _ hw (IV.mono (hb w hw))) (hg.below IV)) hq
   .obtain⟨z,T,vf,⟨k1,k2⟩,k3⟩:=k;have hgn:G w.heap.size=δ:=by
     cases e:G w.heap.size with
     |none=>rfl
     |some v=>exact absurd (hg _ v.1 v.2 e).lt (Nat.lt_irrefl _)
    have hr:=Cj hQ hs hb f _ _ _ (k3 w.heap.size (hb w hw) hgn) (w.alloc (π z T)) (hs _ _ hw ((μ _ _).alloc (hb w hw) _)) (fun k cs S e=>by
     unfold DQ at e;by_cases hk:k=w.heap.size
     .rw[ip hk]at e;injection e with e;injection e with e1 e2;subst e1 e2 hk;exact bE.new w z T
     .rw[iN hk]at e;exact(hg k cs S e).alloc _)
    refine Iq hQ ?_;unfold wpOp;rw[ho];simp only;rw[ip (k1 _)];left;unfold OQ;rw[k2];exact hr
def cls(md:gD)(cF:Array eZ):Nat->List Nat->List Nat
 |0,S=>S
 |f+1,S=>cls md cF f (S++(cI cF.size).filter fun i=>!S.contains i&&S.any fun j=>Region.waitsFor md cF j i)
def Ru(md:gD)(cF:Array eZ)(n:Nat):Bool:=(cI cF.size).all fun t=>decide (t<n)||(cI n).all fun i=>(cls md cF 12 [t]).contains i
theorem Ob(inv:GL md cF n L)(ht:t∈cG md cF L):∀(f:Nat)(S:List Nat),(∀j∈S,j=t\/L.getD j ν=ι)->∀j∈cls md cF f S,j=t\/L.getD j ν=ι
 |0,_,h=>h
 |f+1,S,h=>Ob inv ht f _ fun j hj=>by
  rcases List.mem_append.1 hj with hj|hj
  .exact h j hj
  .obtain⟨-,h1⟩:=List.mem_filter.1 hj
   rw[aI]at h1
   obtain⟨k,hk,h2⟩:=List.any_eq_true.1 h1.2
   obtain⟨o,ho,e,he,hb,rfl⟩:=Region.waitsFor_spec h2
   refine .inr ?_
   rcases h k hk with rfl|hl
   .obtain⟨_,ot,hot,hall⟩:=mem_ready.1 ht
    rw[hot]at ho;injection ho with ho;subst ho
    exact hall e he hb
   .exact inv.closed k o ho hl e he hb
theorem aC9(hs:Ru md cF n=ι)(inv:GL md cF n L)(hi:i<n)(hu:L.getD i ι=ν)(ht:t∈cG md cF L):t<n:=by
 obtain⟨_,ot,hot,hall⟩:=mem_ready.1 ht;have hlt:=(Array.getElem?_eq_some_iff.1 hot).1;have h1:=List.all_eq_true.1 hs t (List.mem_range.2 hlt);rw[jZ,decide_eq_true_eq]at h1;rcases h1 with h1|h1
 .exact h1
 .have h2:i∈cls md cF 12 [t]:=by simpa using List.all_eq_true.1 h1 i (List.mem_range.2 hi)
  rcases Ob inv ht 12 [t] (fun j hj=>.inl (List.mem_singleton.1 hj)) i h2 with rfl|h3
  .exact hi
  .rw[La hu]at h3;cases h3
def Fre(md:gD)(cF:Array eZ)(L:Array Bool)(i:Nat)(oi:eZ):Prop:=∀j oj,cF[j]? =ζ oj->j≠i->L.getD j ι=ν->(∀e∈oj.after,pH md e=ι->e.on≠i)->oi.apart cF oj=ι
theorem Fre.set{oi:eZ}(h:Fre md cF L i oi)(hj:L.getD j ι=ν):Fre md cF (L.setIfInBounds j ι) i oi:=fun k ok hk hki hun Q8=>by
 refine h k ok hk hki ?_ Q8
 by_cases hjk:j=k
 .subst hjk;exact hj
 .rw[qQ ι hjk]at hun;exact hun
theorem Kx(hi:i∈cG md cF L)(hj:j∈cG md cF L):∃oj,cF[j]? =ζ oj/\L.getD j ι=ν/\∀e∈oj.after,pH md e=ι->e.on≠i:=by
 obtain⟨hun,-⟩:=mem_ready.1 hi;obtain⟨G1,oj,Pa,hall⟩:=mem_ready.1 hj;refine⟨oj,Pa,G1,fun e he hb heq=>?_⟩;have h1:=hall e he hb;rw[heq,La hun]at h1;cases h1
theorem Rv{oi:eZ}{v:χ}(hi:cF[i]? =ζ oi)(ZF:∀(j:Nat)(o:eZ)cs b,cF[j]? =ζ o->o.op≠.select cs b)(hs:Ru md cF n=ι)(hin:i<n)(hA:A i=.quiet):
 ∀(f:Nat)(G:Gm)(L:Array Bool)(a:iS),GL md cF n L->Fre md cF L i oi->i∈cG md cF L->YR P cF C oi v a->
  wpF m P md cF n A Q C b0 f G (L.setIfInBounds i ι) (a.put oi.dst v)->wpF m P md cF n A Q C b0 (f+1) G L a:=by
 intro f;induction f with
 |zero=>
  intro G L a inv Cd hr hy H;refine⟨fun h=>(by rw[h]at hr;cases hr),fun j hj=>?_⟩;by_cases hji:j=i
  .subst hji;exact⟨oi,hi,by rw[iN oM,hA];exact⟨v,hy,H⟩⟩
  .have:=oY hj hji;rw[H.1]at this;cases this
 |succ f ih=>
  intro G L a inv Cd hr hy H;refine⟨fun h=>(by rw[h]at hr;cases hr),fun j hj=>?_⟩;by_cases hji:j=i
  .subst hji;exact⟨oi,hi,by rw[iN oM,hA];exact⟨v,hy,H⟩⟩
  .have hjn:=aC9 hs inv hin (mem_ready.1 hr).1 hj;obtain⟨oj,Pa,G1,VV⟩:=Kx hr hj;obtain⟨h1,h2,h3⟩:=Oper.apart_spec (Cd j oj Pa hji G1 VV);obtain⟨o',jj,k⟩:=H.2 j (oY hj hji);rw[Pa]at jj;injection jj with jj;subst jj;refine⟨oj,Pa,?_⟩;rw[iN oM]at k|-;have aD0:∀u,YR P cF C oi v (a.put oj.dst u):=fun u=>hy.same (YH oi (fun cs b=>ZF i oi cs b hi) a oj.dst u h3) (wanted_put oi a oj.dst u h3);split at k
   .rename_i z T hz;refine⟨k.1,fun g hb hg=>?_⟩;refine ih _ _ _ (inv.set hj hjn) (Cd.set G1) (oY hr (Ne.symm hji)) (aD0 _) ?_;have:=k.2 g hb hg;rwa[kG _ _ hji,<-L5 a v _ h2]
   .obtain⟨g,cs,z,T,e1,e2,e3,⟨k1,k0,k2⟩,k3⟩:=k;refine⟨g,cs,z,T,e1,e2,e3,⟨k1,k0,fun w z T h4 h5=>?_⟩,?_⟩
    .have:=k2 w z T h4 h5;rwa[YH oj (fun cs b=>ZF j oj cs b Pa) a oi.dst v h1]at this
    .have kp:=aD0 ψ;rw[k0]at kp;refine ih _ _ _ (inv.set hj hjn) (Cd.set G1) (oY hr (Ne.symm hji)) kp ?_;rwa[kG _ _ hji]
   .obtain⟨u,hu,hK⟩:=k;refine⟨u,hu.same (YH oj (fun cs b=>ZF j oj cs b Pa) a oi.dst v h1).symm (wanted_put oj a oi.dst v h1).symm,?_⟩;refine ih _ _ _ (inv.set hj hjn) (Cd.set G1) (oY hr (Ne.symm hji)) (aD0 _) ?_;rwa[kG _ _ hji,<-L5 a v _ h2]
   .obtain⟨z,T,vf,⟨k1,k2⟩,k3⟩:=k;refine⟨z,T,vf,⟨k1,fun w=>?_⟩,fun g hb hg=>?_⟩
    .have:=k2 w;rwa[YH oj (fun cs b=>ZF j oj cs b Pa) a oi.dst v h1]at this
    .refine ih _ _ _ (inv.set hj hjn) (Cd.set G1) (oY hr (Ne.symm hji)) (aD0 _) ?_;have:=k3 g hb hg;rwa[kG _ _ hji,<-L5 a v _ h2]
theorem uz{i:Nat}{oi:eZ}{z:Array χ}{T:cS}(hi:cF[i]? =ζ oi)(hin:i<n)(hA:A i=.alloc z T)(hR:AR P oi z T)(al:List Nat)(hal:∀j∈al,∃y S,A j=.alloc y S/\j<n):
 ∀(f:Nat)(G:Gm)(L:Array Bool)(a:iS),(∃B,∀k,B<=k->G k=δ)->GL md cF n L->Fre md cF L i oi->(∀L':Array Bool,GL md cF n L'->(∀j,L.getD j ν=ι->L'.getD j ν=ι)->L'.getD i ι=ν->∀j∈cG md cF L',j∈al)->i∈cG md cF L->
  (∀g,b0<=g->G g=δ->wpF m P md cF n A Q C b0 f (DQ G g (z,T)) (L.setIfInBounds i ι) (a.put oi.dst (aB (ζ ⟨g,0,δ⟩))))->wpF m P md cF n A Q C b0 (f+1) G L a:=by
 intro f;induction f with
 |zero=>
  intro G L a hB inv Cd hall hr H;refine⟨fun h=>(by rw[h]at hr;cases hr),fun j hj=>?_⟩;by_cases hji:j=i
  .subst hji;exact⟨oi,hi,by rw[iN oM,hA];exact⟨hR,H⟩⟩
  .obtain⟨oj,Pa,-⟩:=Kx hr hj;refine⟨oj,Pa,?_⟩;exfalso;have:=oY hj hji;obtain⟨B,hB⟩:=hB;rw[(H (max B b0) (Nat.le_max_right _ _) (hB _ (Nat.le_max_left _ _))).1]at this;cases this
 |succ f ih=>
  intro G L a hB inv Cd hall hr H;refine⟨fun h=>(by rw[h]at hr;cases hr),fun j hj=>?_⟩;by_cases hji:j=i
  .subst hji;exact⟨oi,hi,by rw[iN oM,hA];exact⟨hR,H⟩⟩
  .obtain⟨y,S,hAj,hjn⟩:=hal j (hall L inv (fun _ h=>h) (mem_ready.1 hr).1 j hj);obtain⟨oj,Pa,G1,VV⟩:=Kx hr hj;obtain⟨h1,h2,h3⟩:=Oper.apart_spec (Cd j oj Pa hji G1 VV);refine⟨oj,Pa,?_⟩;rw[iN oM,hAj];have key:∀g,b0<=g->G g=δ->AR P oj y S/\∀g',b0<=g'->DQ G g (z,T) g'=δ->wpF m P md cF n A Q C b0 f (DQ (DQ G g (z,T)) g' (y,S)) ((L.setIfInBounds i ι).setIfInBounds j ι) ((a.put oi.dst (aB (ζ ⟨g,0,δ⟩))).put oj.dst (aB (ζ ⟨g',0,δ⟩))):=fun g hb hg=>by
    obtain⟨o',jj,k⟩:=(H g hb hg).2 j (oY hj hji);rw[Pa]at jj;injection jj with jj;subst jj;rw[iN oM,hAj]at k;exact k
   obtain⟨B,hB⟩:=hB;refine⟨(key (max B b0) (Nat.le_max_right _ _) (hB _ (Nat.le_max_left _ _))).1,fun g' Ju hg'=>?_⟩;refine ih _ _ _ ⟨max B (g'+1),fun k hk=>?_⟩ (inv.set hj hjn) (Cd.set G1) (fun L' aU6 SK hu=>hall L' aU6 (fun k hk=>SK k (D5 hk)) hu) (oY hr (Ne.symm hji)) fun g hb hg=>?_
   .unfold DQ;rw[iN oM];exact hB k oM
   .have hne:g≠g':=fun e=>by subst e;unfold DQ at hg;rw[ip rfl]at hg;cases hg
    have hgG:G g=δ:=by unfold DQ at hg;rwa[iN hne]at hg
    have hgu:DQ G g (z,T) g'=δ:=by unfold DQ;rw[iN (Ne.symm hne)];exact hg'
    have:=(key g hb hgG).2 g' Ju hgu;rw[kG _ _ hji,<-L5 a _ _ h2,al9 _ _ (Ne.symm hne)];exact this
def WF(m:Nat)(P:cQ)(md:gD)(cF:Array eZ)(n:Nat)(A:Nat->Wy3)(Q:sG->iS->η->Prop)(C:η->Prop)(b0 f:Nat)(G:Gm)(L:Array Bool)(a:iS):Prop:=
 Ru md cF n=ι->lE cF=ι->(∃B,∀k,B<=k->G k=δ)->GL md cF n L->wpF m P md cF n A Q C b0 f G L a
variable{f:Nat}{L:Array Bool}{a:iS}
theorem qS(i){v:Value}(hi:cF[i]? =some oi)(h:WF m P md cF n A Q C b0 f G (L.setIfInBounds i true) (a.put oi.dst v))(hw:Region.wanted oi (yielded cF a.tmps)=true:=by kernel_rfl)(hy:∀w,C w->oi.quietAt P a (fun w2=>Bw w w2) w v:=by(intro w hSw;have hSx:=hSw.1;clear hSw;(try dsimp only at hSx);apply bq1;go_simp;first |done|exact⟨rfl,rfl⟩|rfl))(hin:i<n:=by decide)(hA:A i=.quiet:=by rfl)(hf:Region.free md cF L i=true:=by kernel_rfl)(hr:(Region.ready md cF L).contains i=true:=by kernel_rfl):WF m P md cF n A Q C b0 (f+1) G L a:=fun hs hn hB inv=>by
 have Pn:i∈Region.ready md cF L:=by simpa using hr
 exact Rv hi (Region.noSelect_spec hn) hs hin hA f G L a inv (Region.free_spec hi hf) Pn (.inl ⟨hw,hy⟩) (h hs hn hB (inv.set Pn hin))
theorem qC(i){v:Value}{g:FuncId}{ar:Array Value}(H:∀w,C w->Calls P g ar w (Rt (v) w))(hi:cF[i]? =some oi)(h:WF m P md cF n A Q C b0 f G (L.setIfInBounds i true) (a.put oi.dst v))(hw:Region.wanted oi (yielded cF a.tmps)=true:=by kernel_rfl)(he:∀w,(execOp a.eval oi).run P w=.ok (.enter g ar) w:=by(intro w;go_simp;first |done|rfl))(hin:i<n:=by decide)(hA:A i=.quiet:=by rfl)(hf:Region.free md cF L i=true:=by kernel_rfl)(hr:(Region.ready md cF L).contains i=true:=by kernel_rfl):WF m P md cF n A Q C b0 (f+1) G L a:=
 qS i hi h hw (fun w hw=>by unfold Oper.quietAt;rw[he w];exact⟨rfl,H w hw⟩) hin hA hf hr
theorem bE.range{b:Nat}{arr:Array χ}(h:bE w b arr T)(o n){cs:List χ}(e:(arr.toList.drop o).take n=cs):w.rangeAt b o cs:=fun j v hv=>by
 subst e
 rw[h.cell]
 rw[List.getElem?_take]at hv
 split at hv
 .rw[List.getElem?_drop]at hv
  simpa using hv
 .cases hv
theorem qR(i b o cs)(hS:∀w,C w->w.rangeAt b o cs.toList)(hi:cF[i]? =some oi)(h:WF m P md cF n A Q C b0 f G (L.setIfInBounds i true) (a.put oi.dst (.agg cs))){x:Operand}{d:TypeDesc}(ho:oi.op=.load ty x:=by rfl)(hx:a.eval x=.pointer (some ⟨b,o,none⟩):=by rfl)(hu:P.underlying ty=some d:=by rfl)(hd:d.isRow=true:=by rfl)(hz:(P.info? ty).map (·.size)=some cs.toList.length:=by kernel_rfl)(hw:Region.wanted oi (yielded cF a.tmps)=true:=by kernel_rfl)(hin:i<n:=by decide)(hA:A i=.quiet:=by rfl)(hf:Region.free md cF L i=true:=by kernel_rfl)(hr:(Region.ready md cF L).contains i=true:=by kernel_rfl):WF m P md cF n A Q C b0 (f+1) G L a:=
 qS i hi h hw (fun w hw=>by
  unfold Oper.quietAt execOp
  have e:=run_loadAt_mid (P:=P) w b o ty cs.toList d (hS w hw) hu hd hz
  simp only[ho,hx,Instr.loadAt,Instr.sureAddr,Sem.run_bind,Sem.run_pure,Result.andThen_ok]at e|-
  rw[e]
  exact⟨rfl,sP⟩) hin hA hf hr
theorem qL(i b o cs){arr:Array Value}{T:TypeId}(hS:∀w,C w->bE w b arr T)(hi:cF[i]? =some oi)(h:WF m P md cF n A Q C b0 f G (L.setIfInBounds i true) (a.put oi.dst (.agg cs))){x:Operand}{d:TypeDesc}(ho:oi.op=.load ty x:=by rfl)(hx:a.eval x=.pointer (some ⟨b,o,none⟩):=by rfl)(hu:P.underlying ty=some d:=by rfl)(hd:d.isRow=true:=by rfl)(hz:(P.info? ty).map (·.size)=some cs.toList.length:=by kernel_rfl)(CD:(arr.toList.drop o).take cs.size=cs.toList:=by rfl)(hw:Region.wanted oi (yielded cF a.tmps)=true:=by kernel_rfl)(hin:i<n:=by decide)(hA:A i=.quiet:=by rfl)(hf:Region.free md cF L i=true:=by kernel_rfl)(hr:(Region.ready md cF L).contains i=true:=by kernel_rfl):WF m P md cF n A Q C b0 (f+1) G L a:=
 qR i b o cs (fun w hw=>(hS w hw).range o cs.size CD) hi h ho hx hu hd hz hw hin hA hf hr
theorem jk(i)(hi:cF[i]? =some oi)(h:WF m P md cF n A Q C b0 f G (L.setIfInBounds i true) (a.put oi.dst undef))(hw:Region.wanted oi (yielded cF a.tmps)=false:=by kernel_rfl)(hin:i<n:=by decide)(hA:A i=.quiet:=by rfl)(hf:Region.free md cF L i=true:=by kernel_rfl)(hr:(Region.ready md cF L).contains i=true:=by kernel_rfl):WF m P md cF n A Q C b0 (f+1) G L a:=fun hs hn hB inv=>by
 have Pn:i∈Region.ready md cF L:=by simpa using hr
 exact Rv hi (Region.noSelect_spec hn) hs hin hA f G L a inv (Region.free_spec hi hf) Pn (.inr ⟨hw,rfl⟩) (h hs hn hB (inv.set Pn hin))
def upB(md:gD)(cF:Array eZ)(L:Array Bool)(i:Nat)(al:List Nat):Bool:=(cI cF.size).all fun j=>L.getD j ι||al.contains j||(cls md cF 12 [j]).contains i
theorem am0{al:List Nat}(bq2:GL md cF n L)(h:upB md cF L i al=ι)(hni:i∈al)(L')(inv:GL md cF n L')(SK:∀j,L.getD j ν=ι->L'.getD j ν=ι)(hu:L'.getD i ι=ν)(j)(hj:j∈cG md cF L'):j∈al:=by
 obtain⟨G1,oj,Pa,hall⟩:=mem_ready.1 hj;have hlt:=(Array.getElem?_eq_some_iff.1 Pa).1;have h1:=List.all_eq_true.1 h j (List.mem_range.2 hlt);rw[jZ,jZ]at h1;rcases h1 with(h1|h1)|h1
 .exfalso;by_cases hs:j<L.size
  .have:L.getD j ν=ι:=by simp[hs]at h1|-;exact h1
   have:=SK j this;rw[La G1]at this;cases this
  .rw[bq2.size]at hs;exact hs hlt
 .simpa using h1
 .rcases Ob inv hj 12 [j] (fun k hk=>.inl (List.mem_singleton.1 hk)) i (by simpa using h1)with rfl|h3
  .exact hni
  .rw[La hu]at h3;cases h3
theorem qA(i al z T)(hi:cF[i]? =some oi)(h:∀g,b0<=g->G g=none->WF m P md cF n A Q C b0 f (DQ G g (z,T)) (L.setIfInBounds i true) (a.put oi.dst (.pointer (some ⟨g,0,none⟩))))(hR:AR P oi z T:=by exact⟨fun _=>rfl,fun a w=>by go_simp⟩)(hal:∀j∈al,∃y S,A j=.alloc y S/\j<n:=by simp)(hup:upB md cF L i al=true:=by kernel_rfl)(hni:i∈al:=by simp)(hin:i<n:=by decide)(hA:A i=.alloc z T:=by rfl)(hf:Region.free md cF L i=true:=by kernel_rfl)(hr:(Region.ready md cF L).contains i=true:=by kernel_rfl):WF m P md cF n A Q C b0 (f+1) G L a:=fun hs hn hB inv=>by
 have Pn:i∈Region.ready md cF L:=by simpa using hr
 refine uz hi hin hA hR al hal f G L a hB inv (Region.free_spec hi hf) (fun L' aU6 SK hu=>am0 inv hup hni L' aU6 SK hu) Pn fun g hb hg=>h g hb hg hs hn ?_ (inv.set Pn hin)
 obtain⟨B,hB⟩:=hB
 exact⟨max B (g+1),fun k hk=>by unfold DQ;rw[iN oM];exact hB k oM⟩
theorem Ww{o:Oper}{cs:Array Value}{T:TypeId}{x y:Operand}(e:o.op=.store T x y:=by rfl)(gd:o.guard=none:=by rfl)(d:o.dst=none:=by rfl)(hx:a.eval x=.pointer (some ⟨g,0,none⟩):=by rfl)(hy:a.eval y=.agg cs:=by rfl)(hi:(P.info? T).map (·.size)=some cs.size:=by kernel_rfl)(h1:cs.all (·.oneCell')=true:=by simp[Value.oneCell']):SR P o a g cs:=
 ⟨fun _=>by unfold Region.wanted;rw[gd],d,fun w z S hz hs=>by
  have e2:=run_storeAt_mid (P:=P) w g 0 T cs (fun j hj=>⟨by rw[Nat.zero_add,hz.cell];simp[hs,hj],by rw[Nat.zero_add];exact hz.fz j⟩) hi h1
  unfold execOp
  simp only[e,hx,hy,Sem.run_bind,e2,Result.andThen_ok,Sem.run_pure]
  simp⟩
theorem qW(i g cs z T)(hi:cF[i]? =some oi)(hg:G g=some (z,T))(hb:b0<=g)(h:WF m P md cF n A Q C b0 f (DQ G g (cs,T)) (L.setIfInBounds i true) a)(hR:SR P oi a g cs)(hz:z.size=cs.size:=by rfl)(hin:i<n:=by decide)(hA:A i=.store:=by rfl)(hr:Region.ready md cF L=[i]:=by kernel_rfl):WF m P md cF n A Q C b0 (f+1) G L a:=fun hs hn hB inv=>by
 refine⟨fun h0=>(by rw[h0]at hr;cases hr),fun j hj=>?_⟩
 have hji:j=i:=by rw[hr]at hj;exact List.mem_singleton.1 hj
 subst hji
 refine⟨oi,hi,?_⟩
 rw[iN oM,hA]
 refine⟨g,cs,z,T,hg,hz,hb,hR,h hs hn ?_ (inv.set hj hin)⟩
 obtain⟨B,hB⟩:=hB
 exact⟨max B (g+1),fun k hk=>by unfold DQ;rw[iN oM];exact hB k oM⟩
theorem qM(i z T)(vf:Nat->Value)(hi:cF[i]? =some oi)(h:∀g,b0<=g->G g=none->WF m P md cF n A Q C b0 f (DQ G g (z,T)) (L.setIfInBounds i true) (a.put oi.dst (vf g)))(hR:MR P oi a z T vf)(hin:i<n:=by decide)(hA:A i=.made:=by rfl)(hr:Region.ready md cF L=[i]:=by kernel_rfl):WF m P md cF n A Q C b0 (f+1) G L a:=fun hs hn hB inv=>by
 refine⟨fun h0=>(by rw[h0]at hr;cases hr),fun j hj=>?_⟩
 have hji:j=i:=by rw[hr]at hj;exact List.mem_singleton.1 hj
 subst hji
 refine⟨oi,hi,?_⟩
 rw[iN oM,hA]
 refine⟨z,T,vf,hR,fun g hb hg=>h g hb hg hs hn ?_ (inv.set hj hin)⟩
 obtain⟨B,hB⟩:=hB
 exact⟨max B (g+1),fun k hk=>by unfold DQ;rw[iN oM];exact hB k oM⟩
theorem qT(h:∀w,C w->Gk G w->uM eD m P md cF Q (f+1) L a w)(hn:((cG md cF L).all fun i=>decide (n<=i))=ι:=by kernel_rfl):WF m P md cF n A Q C b0 (f+1) G L a:=fun _ _ _ _=>by
 refine⟨fun h0 w hw hg=>(h w hw hg).1 h0,fun i hi=>?_⟩
 have hni:=of_decide_eq_true (List.all_eq_true.1 hn i hi)
 obtain⟨-,oi,hoi,-⟩:=mem_ready.1 hi
 exact⟨oi,hoi,by rw[ip hni];exact fun w hw hg=>(h w hw hg).2 i hi⟩
theorem qE(h:∀w,C w->Gk G w->Q .normal a w)(hn:(Region.ready md cF L).isEmpty=true:=by kernel_rfl):WF m P md cF n A (jH Q) C b0 f G L a:=fun _ _ _ _=>by
 have hn:=List.isEmpty_iff.1 hn
 cases f with
 |zero=>exact⟨hn,h⟩
 |succ f=>exact⟨fun _=>h,fun i hi=>by rw[hn]at hi;cases hi⟩
theorem bg5(md cF n):GL md cF n (gA cF.size ν):=
 ⟨sP,fun j oj _ hl=>(by rw[Ar]at hl;cases hl),fun t _ ht=>getD_in (by simpa using ht) (Ar _ _)⟩
def Cl(S:η->Prop)(w:η):η->Prop:=fun w2=>S w2/\Bw w w2
theorem Cl.b{S:η->Prop}(h:Cl S w.drew w2):Bw w w2:=(μ w.heap.size w).drew.trans h.2
theorem Rw(hQ:¬LetsOut Q)(n)(hk:Ru md cF n=ι)(hn:lE cF=ι)(A:Nat->Wy3)(S:η->Prop)(hS:S w)(st:∀w1 w2,S w1->Below w.heap.size w1 w2->S w2)(h:WF m P md cF n A Q (Cl S w) w.heap.size cF.size (fun _=>δ) (gA cF.size ν) a):uM eD m P md cF Q cF.size (gA cF.size ν) a w:=
 Cj hQ (fun w1 w2 h1 h2=>⟨st _ _ h1.1 h2,h1.2.trans h2⟩) (fun w1 h1=>h1.2.size) cF.size _ _ _ (h hk hn ⟨0,fun _ _=>rfl⟩ (bg5 md cF n)) w ⟨hS,μ _ _⟩ (fun _ _ _ e=>by cases e)
section
variable{id:Nat}{w:η}{a:iS}(n:Nat)(A:Nat->Wy3)(S:η->Prop)(hS:S w.drew)(h:WF m P .any cF n A (jH Q) (Cl S w.drew) w.heap.size cF.size (fun _=>δ) (gA cF.size ν) a)
 (st:∀w1 w2,S w1->Below w.heap.size w1 w2->S w2)(hm:P.follows .mixedOrders=ι:=by kernel_rfl)(hk:Ru .any cF n=ι:=by kernel_rfl)(hn:lE cF=ι:=by kernel_rfl)
include hS h st hm hk hn
theorem xB:(pS id cF ι).wpIn eD m P Q a w:=
 zj (wpIn_region_any hm (Rw jH.no n hk hn A S hS st h)) jH.imp
theorem wO{l:Nat}(hd:CM cF=true:=by kernel_rfl):(Code.region id cF true).wpIn (Fence.wide.inRound l) m P Q a w:=
 wpIn_mono (CN hm hd (Rw jH.no n hk hn A S hS st h)) jH.imp
theorem Wx:(pS id cF ι).wp P Q a w:=(wpIn_wide (n:=m)).1 (xB n A S hS h st hm hk hn)
end
theorem tJ{w:World}{a:Act}(n)(A:Nat->Wy3)(S:World->Prop)(hS:S w.drew)(h:WF 9 P .any cF n A (jH Q) (Cl S w.drew) w.heap.size cF.size (fun _=>none) (Array.replicate cF.size false) a)(st:∀w1 w2,S w1->Below w.heap.size w1 w2->S w2)(hm:P.follows .mixedOrders=true:=by kernel_rfl)(hk:Ru .any cF n=true:=by kernel_rfl)(hn:Region.noSelect cF=true:=by kernel_rfl):(Code.region id cF true).wp P Q a w:=Wx n A S hS h st hm hk hn
section
variable{P:cQ}{cF:Array eZ}{md:gD}{Q:sG->iS->η->Prop}{m:Nat}{F:Jy}
def GA(md:gD)(cF:Array eZ)(i:Nat):List Nat:=match cF[i]? with
 |some o=>(o.after.toList.filter (pH md)).map (·.on)
 |none=>[]
def am1(md:gD)(cF:Array eZ):Bool:=(cI cF.size).all fun i=>(GA md cF i).all fun k=>decide (k<i)
theorem EM{o:eZ}(ho:cF[i]? =ζ o):(∀e∈o.after,pH md e=ι->L.getD e.on ν=ι)↔∀k∈GA md cF i,L.getD k ν=ι:=by
 unfold GA;rw[ho];simp only[List.mem_map,List.mem_filter,Array.mem_toList_iff];constructor
 .rintro h k⟨e,⟨h1,h2⟩,rfl⟩;exact h e h1 h2
 .intro h e h1 h2;exact h _ ⟨e,⟨h1,h2⟩,rfl⟩
theorem am2(hs:L.size=cF.size)(hb:am1 md cF=ι)(h:cG md cF L=[]):∀j,j<cF.size->L.getD j ν=ι:=by
 intro j;induction j using Nat.strongRecOn with
 |_ j ih=>
  intro hj;cases e:L.getD j ν with
  |true=>rfl
  |false=>
   have:j∈cG md cF L:=by
    refine mem_ready.2 ⟨getD_in oM e,cF[j],nI hj,(EM (nI hj)).2 fun k hk=>?_⟩;have:=List.all_eq_true.1 (List.all_eq_true.1 hb j (List.mem_range.2 hj)) k hk;have hlt:=of_decide_eq_true this;exact ih k hlt oM
   rw[h]at this;cases this
theorem am3(hi:i<L.size):(fun j=>(L.setIfInBounds i ι).getD j ν)=fun j=>if j=i then ι else L.getD j ν:=by
 funext j;by_cases e:j=i
 .subst e;simp[hi]
 .rw[iN e,qQ ν (Ne.symm e)]
theorem RA(I:(Nat->Bool)->iS->η->Prop)(hb:am1 md cF=ι)(stp:∀d a w i o,cF[i]? =ζ o->I d a w->d i=ν->(∀k∈GA md cF i,d k=ι)->(∀j,d j=ι->∀k∈GA md cF j,d k=ι)->∀K:iS->η->Prop,(∀a' w',I (fun j=>if j=i then ι else d j) a' w'->K a' w')->
  if dU o (rP cF a.tmps)=ι then tB F m P o a w K Q else(∀f,o.about P w a.eval=ζ f->F.fn f)/\K (a.put o.dst ψ) w)(fin:∀d a w,I d a w->(∀j,j<cF.size->d j=ι)->Q .normal a w):
 ∀(f:Nat)(L:Array Bool)(a:iS)(w:η),L.size=cF.size->(∀j,L.getD j ν=ι->∀k∈GA md cF j,L.getD k ν=ι)->L.countP (fun b=>!b)<=f->I (fun j=>L.getD j ν) a w->uM F m P md cF Q f L a w
 |0,L,a,w,hs,_,hc,hI=>by
  have h0:∀j,j<cF.size->L.getD j ν=ι:=fun j hj=>by
   have:=Array.countP_eq_zero.1 (Nat.le_zero.1 hc) L[j] (Array.getElem_mem _)
   simpa[hs,hj]using this
  refine⟨List.eq_nil_iff_forall_not_mem.2 fun i hi=>?_,fin _ a w hI h0⟩
  obtain⟨h1,o,h2,-⟩:=mem_ready.1 hi
  have:=h0 i (Array.getElem?_eq_some_iff.1 h2).1
  rw[La h1]at this
  cases this
 |f+1,L,a,w,hs,hcl,hc,hI=>by
  refine⟨fun h=>fin _ a w hI (am2 hs hb h),fun i hi=>?_⟩
  obtain⟨h1,o,h2,h3⟩:=mem_ready.1 hi
  have hlt:i<L.size:=by rw[hs];exact(Array.getElem?_eq_some_iff.1 h2).1
  have hk:=stp _ a w i o h2 hI (La h1) ((EM h2).1 h3) hcl (uM F m P md cF Q f (L.setIfInBounds i ι)) (fun a' w' h=>by
   rw[<-am3 hlt]at h
   refine RA I hb stp fin f _ a' w' (by simpa using hs) (fun j hj k hk=>?_) ?_ h
   .by_cases e:i=j
    .subst e;exact D5 ((EM h2).1 h3 k hk)
    .rw[qQ ν e]at hj
     exact D5 (hcl j hj k hk)
   have hb1:L[i]=ν:=by simpa[hlt]using h1
   have bq3:L.setIfInBounds i ι=L.set i ι hlt:=by simp[Array.setIfInBounds,hlt]
   have h1:0<L.countP (fun b=>!b):=Array.countP_pos_iff.2 ⟨L[i],Array.getElem_mem _,by simp[hb1]⟩
   rw[bq3,Array.countP_set]
   simp[hb1]
   omega)
  unfold wpOpIn
  rw[h2]
  exact hk
theorem Ky{w:World}{a:Act}{l:Nat}(I:(Nat->Bool)->Act->World->Prop)(hI:I (fun _=>false) a w.drew)(stp:∀d a w i o,cF[i]? =some o->I d a w->d i=false->(∀k∈GA .any cF i,d k=true)->(∀j,d j=true->∀k∈GA .any cF j,d k=true)->∀K:Act->World->Prop,(∀a' w',I (fun j=>if j=i then true else d j) a' w'->K a' w')->
  if Region.wanted o (yielded cF a.tmps)=true then Oper.wpIn Fence.wide m P o a w K (jH Q)else(∀f,o.about P w a.eval=some f->Fence.wide.fn f)/\K (a.put o.dst undef) w)(fin:∀d a w,I d a w->(∀j,j<cF.size->d j=true)->Q .normal a w)(hm:P.follows .mixedOrders=true:=by kernel_rfl)(hd:CM cF=true:=by kernel_rfl)(hb:am1 .any cF=true:=by kernel_rfl):(Code.region id cF true).wpIn (Fence.wide.inRound l) m P Q a w:=
 wpIn_mono (CN hm hd (RA I hb stp (fun d a w h k=>jH.normal (fin d a w h k)) _ _ a _ sP (fun j hj=>by rw[getD_replicate_false]at hj;cases hj) (Nat.le_trans Array.countP_le_size sP) (by
  have:(fun j=>(Array.replicate cF.size false).getD j false)=fun _=>false:=by funext j;exact getD_replicate_false _ _
  rw[this];exact hI))) jH.imp
end
theorem Kz{F:Jy}{P:cQ}{o:eZ}{K:iS->η->Prop}{Q:sG->iS->η->Prop}(s x t)(ho:o.op=.call {callee:=.builtin .append,args:=#[s,x],argTypes:=#[t,t]})(cH e i z size bytes)(ht:P.underlying t=ζ (TypeDesc.slice e))(hi:P.info? e=ζ i)(hz:i.zero=ζ z)(aa5:i.size=size)(hby:i.bytes=bytes)(hzs:z.cells.size=size)(Dv:0<size)(v n xs)(hs:a.eval s=v)(cT:w.ownsRow cH e size v n xs)(ad m c FO)(hx:a.eval x=Θ (ζ ad) m c)(hl:FO.length=m*size)(bg6:∀j u,FO[j]? =ζ u->w.cell? (ad.add j)=ζ u)(h1:∀u∈FO,u.oneCell'=ι)(OZ:n+m<=yE)(YP:(n+m)*bytes<=140737488355328)(kH:cH<=w.heap.size)(h:∀v' w',w'.ownsRow cH e size v' (n+m) (xs++FO)->w.grownBy w' v.ownBlock->K (a.put o.dst v') w'):tB F nF P o a w K Q:=by
 obtain⟨v',w',hr,h2,h3,h4,h5⟩:=run_append_own_at (P:=P) w cH t o.type e i z size bytes ht hi hz aa5 hby hzs Dv v n xs cT ad m c FO hl bg6 h1 OZ YP kH;unfold tB;refine⟨by simp[Qi,ho,resolve,Target.leads,D6],?_⟩;rw[pF F _ _ (by rw[ho];intro c hc';cases hc')];simp[uH,ho,resolve,invoke,Bh,hs,hx,hr,Result.andThen];exact h v' w' h2 h3
theorem G7{F:Fence}{w:World}{o:Oper}{a:Act}{K:Act->World->Prop}{Q:Exit->Act->World->Prop}{v:Value}(he:(execOp a.eval o).run P w=.ok (.value v) w')(h:K (a.put o.dst v) w')(hab:∀f,o.about P w a.eval=some f->F.fn f:=by(intro f hf;cases hf))(CW:∀c,o.op≠.defer c:=by(intro c h;cases h)):Oper.wpIn F nF P o a w K Q:=by
 unfold Oper.wpIn;refine⟨hab,?_⟩;rw[Oper.semAt_plain F _ _ CW,he];exact h
theorem jn{F:Fence}{w:World}{o:Oper}{a:Act}{K:Act->World->Prop}{Q:Exit->Act->World->Prop}(he:(execOp a.eval o).run P w=.ok .skip w')(h:K (a.put o.dst undef) w')(hab:∀f,o.about P w a.eval=some f->F.fn f:=by(intro f hf;cases hf))(CW:∀c,o.op≠.defer c:=by(intro c h;cases h)):Oper.wpIn F nF P o a w K Q:=by
 unfold Oper.wpIn;refine⟨hab,?_⟩;rw[Oper.semAt_plain F _ _ CW,he];exact h
theorem aD1{F:Fence}{w:World}{op:Oper}{a:Act}{K:Act->World->Prop}{Q:Exit->Act->World->Prop}(ty b o cs){x:Operand}{d:TypeDesc}(hc:w.rangeAt b o cs.toList)(h:K (a.put op.dst (.agg cs)) w)(ho:op.op=.load ty x:=by rfl)(hx:a.eval x=.pointer (some ⟨b,o,none⟩):=by rfl)(hu:P.underlying ty=some d:=by rfl)(hd:d.isRow=true:=by rfl)(hz:(P.info? ty).map (·.size)=some cs.toList.length:=by kernel_rfl):Oper.wpIn F nF P op a w K Q:=by
 refine⟨fun f hf=>?_,?_⟩
 .unfold Oper.about at hf;rw[ho]at hf;cases hf
 .have e:=run_loadAt_mid (P:=P) w b o ty cs.toList d hc hu hd hz;rw[Oper.semAt_plain F _ _ (fun c=>by rw[ho];exact fun h=>by cases h)];unfold execOp;simp only[ho,hx,Sem.run_bind,e,Result.andThen_ok,Sem.run_pure];show K (a.put op.dst _) w;simpa using h
end
end Go.Proofs.YtncclggcfgnhpaaGreatDoor
