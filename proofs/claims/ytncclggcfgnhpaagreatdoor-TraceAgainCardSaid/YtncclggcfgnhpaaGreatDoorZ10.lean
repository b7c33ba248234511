import Derived.Test.YtncclggcfgnhpaaGreatDoorZ9
namespace Go.Proofs.YtncclggcfgnhpaaGreatDoor
set_option maxRecDepth 100000
set_option maxHeartbeats 8000000
set_option linter.all false
open Go.Proofs.Tryz
open _root_.Bool renaming true->ι,false->ν,and_eq_true->aI,false_eq_true->aK,not_eq_true'->bX,or_eq_false_iff->jA,not_eq_false'->vS,false_and->wT,and_false->Bk
open _root_.Classical renaming byContradiction->aG
open _root_.Go renaming World->η,Value->χ,Addr->bW
open _root_.Inhabited renaming default->Γ
open _root_.Int renaming toNat_of_nonneg->fE,toNat_natCast->gG,sub_self->sL
open _root_.List renaming getD_eq_getElem?_getD->Ω,length_map->υ,length_append->aJ,getElem?_eq_getElem->aS,mem_cons_self->bO,mem_cons_of_mem->cC,range->cI,length_drop->dJ,mem_singleton->dE,mem_map_of_mem->dC,map_congr_left->eB,map_append->dV,map_map->eH,getElem?_append_right->fA,getElem_mem->fJ,map_cons->fN,flatMap_def->fT,flatMap_cons->gS,mem_append_left->gU,flatten_cons->jP,length_range->jQ,getElem?_take->kP,append_nil->kQ,getElem?_append_left->nQ,getElem?_drop->pO,pairwise_cons->pY,mem_append_right->rM,range_succ->sB,getElem?_map->oP,nodup_iff_pairwise_ne->Qe,length_pos_of_mem->vQ,mem_range->xS,take_append_drop->yK,length->Jr,ext_getElem->OV
open _root_.List.Pairwise renaming nil->Fm
open _root_.Nat renaming le_refl->θ,mod_eq_of_lt->aT,zero_le->aP,mod_lt->aV,zero_add->bD,mod_add_mod->eV,le_of_lt->fM,add_mod_right->gQ,lt_or_ge->fO,add_zero->jN,mod_self->mY,add_comm->Ao,not_lt_zero->vJ,add_assoc->LV
open _root_.Option renaming none->δ,getD_some->bK
open _root_.Prod renaming fst->Bl,snd->Bm
open _root_.Rat renaming num_intCast->vK,intCast_lt_intCast->YI
variable{P:Program}{w W:η}{a:Option bW}{i g e t j k N r r2 j2 t2:Nat}{X Y:ByteArray}{p:bW}{fs:List Fr}{at' xs ys:List (List UInt8)}{ps:List Pt}{s:Sg}{α β:Type}{c:Array χ}{L:List (Nat×Nat)}{ss:List Sd}{aZ:List Lp}{rs:List Rg}{S:WL}
section
open Go Go.Lib
section
variable{α:Type}{lt:α->α->Bool}{S:α->Prop}(ht:∀x y z,S x->S y->S z->lt x y=ν->lt y z=ν->lt x z=ν)(ha:∀x y,S x->S y->lt x y=ι->lt y x=ν)
theorem xx(x l):(rF lt x l).Perm (x::l):=by
 induction l with
 |nil=>exact .refl _
 |cons y l ih=>
  unfold rF;split
  .exact .refl _
  .exact(ih.cons y).trans (.swap x y l)
theorem mK(l):(nT lt l).Perm l:=by
 have:∀(l out:List α),(l.foldl (fun out x=>rF lt x out) out).Perm (out++l):=by
  intro l;induction l with
  |nil=>intro out;rw[kQ];exact .refl _
  |cons x l ih=>intro out;exact(ih _).trans (((xx x out).append_right l).trans List.perm_middle.symm)
 exact this l []
include ht ha
theorem xy{x:α}{l:List α}(hx:S x)(hl:∀y∈l,S y)(h:IZ lt l):IZ lt (rF lt x l):=by
 unfold IZ at *;induction l with
 |nil=>simp[rF]
 |cons y l ih=>
  rw[pY]at h;have hy:=hl y (bO ..);unfold rF;split
  .rename_i c;refine List.pairwise_cons.2 ⟨fun b hb=>?_,List.pairwise_cons.2 h⟩;rcases List.mem_cons.1 hb with e|hb
   .rw[e];exact ha x y hx hy c
   .exact ht b y x (hl b (cC _ hb)) hy hx (h.1 b hb) (ha x y hx hy c)
  .rename_i c;refine List.pairwise_cons.2 ⟨fun b hb=>?_,ih (fun z hz=>hl z (cC _ hz)) h.2⟩;rcases(I4 lt x l b).1 hb with e|hb
   .rw[e];simpa using c
   .exact h.1 b hb
theorem Oz{l:List α}(hl:∀y∈l,S y):IZ lt (nT lt l):=by
 have:∀(l out:List α),(∀y∈l,S y)->(∀y∈out,S y)->IZ lt out->IZ lt (l.foldl (fun out x=>rF lt x out) out):=by
  intro l;induction l with
  |nil=>intro out _ _ h;exact h
  |cons x l ih=>
   intro out h1 h2 h3;refine ih _ (fun y hy=>h1 y (cC _ hy)) (fun y hy=>?_) (xy ht ha (h1 x (bO ..)) h2 h3);rcases(I4 lt x out y).1 hy with e|e
   .rw[e];exact h1 x (bO ..)
   .exact h2 y e
 exact this l [] hl (fun y hy=>absurd hy sP) Fm
theorem Xs{l m:List α}(hl:∀y∈l,S y)(h:l.Perm m)(he:∀a b,a∈l->b∈l->lt a b=ν->lt b a=ν->a=b):nT lt l=nT lt m:=
 List.Perm.eq_of_pairwise (le:=fun a b=>lt b a=ν) (fun a b h1 h2 h3 h4=>he a b ((mK l).mem_iff.1 h1) (h.mem_iff.2 ((mK m).mem_iff.1 h2)) h4 h3)
  (Oz ht ha hl) (Oz ht ha fun y hy=>hl y (h.mem_iff.2 hy)) ((mK l).trans (h.trans (mK m).symm))
end
section
variable{fs:List Fr}{at':List (List UInt8)}
theorem OA(h:∀i,i<ps.length->rX fs at' (ps.getD i Γ)):∀m,m<=ps.length->∀i,i<m->¬G6 fs at' (ps.getD i Γ) (ps.getD (gO fs at' ps m) Γ)
 |0,_,i,hi=>oM
 |m+1,hm,i,hi=>by
  have ih:=OA h m oM
  have L7:gO fs at' ps m<=m:=by
   rcases Nat.eq_zero_or_pos m with e|e
   .subst e;simp[gO]
   .exact fM (tE fs at' ps m e)
  unfold gO;by_cases hc:Dy fs at' (ps.getD m Γ) (ps.getD (gO fs at' ps m) Γ)<0
  .rw[ip hc];rw[yS (h m oM) (h _ oM)]at hc;rcases fO i m with h1|h1
   .intro h3;exact ih i h1 (Ku h3 hc)
   .obtain rfl:i=m:=oM;exact MC _ _ _ _
  .rw[iN hc];rw[yS (h m oM) (h _ oM)]at hc;rcases fO i m with h1|h1
   .exact ih i h1
   .obtain rfl:i=m:=oM;exact hc
def Dis(fs:List Fr)(at':List (List UInt8))(ps:List Pt):Prop:=∀i j,i<ps.length->j<ps.length->i≠j->G6 fs at' (ps.getD i Γ) (ps.getD j Γ)\/G6 fs at' (ps.getD j Γ) (ps.getD i Γ)
theorem Dh(ps)(h0:0<ps.length)(i)(hi:i<ps.length):(mU fs at' ps).getD i Γ=ps.getD ((i+gO fs at' ps ps.length)%ps.length) Γ:=by
 have hm:=tE fs at' ps ps.length h0;unfold mU;generalize gO fs at' ps ps.length=m at *;by_cases c:i+m<ps.length
 .rw[aT c,Ω,nQ (by rw[dJ];omega),pO,Ω,Ao]
 .rw[Nat.mod_eq_sub_mod oM,aT oM,Ω,fA (by rw[dJ];omega),kP,dJ,ip oM,Ω];congr 2;omega
theorem Xt{qs:List Pt}(h:∀i,i<ps.length->rX fs at' (ps.getD i Γ))(hd:Dis fs at' ps)(h0:0<ps.length)(hl:qs.length=ps.length)(hk:∀i,i<ps.length->qs.getD i Γ=ps.getD ((i+k)%ps.length) Γ):mU fs at' qs=mU fs at' ps:=by
 have hq:∀i,i<qs.length->rX fs at' (qs.getD i Γ):=fun i hi=>by rw[hk i oM];exact h _ (aV _ h0)
 have m1:=tE fs at' ps ps.length h0;have m2:=tE fs at' qs qs.length oM;have i1:=OA h ps.length (θ _);have i2:=OA hq qs.length (θ _);have hmk:(gO fs at' qs qs.length+k)%ps.length=gO fs at' ps ps.length:=by
  refine aG fun hne=>?_;have hlt:(gO fs at' qs qs.length+k)%ps.length<ps.length:=aV _ h0;rcases hd _ _ hlt m1 hne with c|c
  .exact i1 _ hlt c
  .have e:∃j,j<qs.length/\qs.getD j Γ=ps.getD (gO fs at' ps ps.length) Γ:=by
    refine⟨(gO fs at' ps ps.length+(ps.length-k%ps.length))%ps.length,by rw[hl];exact aV _ h0,?_⟩;rw[hk _ (aV _ h0),eV];congr 1;have:=aV k h0;rw[<-Nat.add_mod_mod _ k,show gO fs at' ps ps.length+(ps.length-k%ps.length)+k%ps.length=gO fs at' ps ps.length+ps.length by omega,gQ,aT m1]
   obtain⟨j,hj,e⟩:=e;refine i2 j hj ?_;rw[e,hk _ oM];exact c
 apply Tk (by rw[vA,vA,hl]);intro i hi;rw[vA]at hi;rw[Dh qs oM i hi,Dh ps h0 i oM,hk _ (by rw[<-hl];exact aV _ oM),hl,eV];congr 1;rw[<-hl,LV,<-Nat.add_mod_mod,hl];rw[hl]at hmk;rw[hmk]
end
def bv7(L:Nat->Nat):Nat->Nat
 |0=>0
 |i+1=>bv7 L i+L i
theorem Ai{f g:Nat->Nat}{n:Nat}(h:∀j,j<n->f j=g j):bv7 f n=bv7 g n:=by
 induction n with
 |zero=>rfl
 |succ n ih=>rw[bv7,bv7,h n oM,ih fun j hj=>h j oM]
theorem bj(f:Nat->Nat)(n):bv7 (fun j=>f (j+1)) n+f 0=bv7 f (n+1):=by
 induction n with
 |zero=>simp[bv7]
 |succ n ih=>rw[bv7,bv7,<-ih];omega
theorem xz(f:Nat->Nat)(n):bv7 (fun j=>f ((j+1)%n)) n=bv7 f n:=by
 cases n with
 |zero=>rfl
 |succ n=>
  rw[bv7,mY,Ai (g:=fun j=>f (j+1)) fun j hj=>by rw[aT oM],bj]
theorem Xu(f:Nat->Nat)(n):∀j,bv7 (fun i=>f ((i+j)%n)) n=bv7 f n
 |0=>Ai fun i hi=>by rw[jN,aT hi]
 |j+1=>by
  rw[<-Xu f n j,<-xz (fun i=>f ((i+j)%n)) n]
  refine Ai fun i _=>?_
  show f ((i+(j+1))%n)=f (((i+1)%n+j)%n)
  rw[eV,LV,Ao 1 j]
theorem Di{f:Nat->Nat}{n:Nat}(hi:i<n)(ht:t<f i):bv7 f i+t<bv7 f n:=by
 induction n with
 |zero=>omega
 |succ n ih=>
  rw[bv7];by_cases h:i<n
  .have:=ih h;omega
  .obtain rfl:i=n:=oM;omega
section
variable{S:WL}{xs ys:List (List UInt8)}{l:List Wy}{W:Nat->Nat->Wy}{L:Nat->Nat}{n:Nat}
theorem LP(hL:∀i,i<n->0<L i)(hW:∀i,i<n->∀t,t<L i->l.getD (bv7 L i+t) Γ=W i t)(hs:∀i,i<n->∀t,t+1<L i->mF S (W i t) (W i (t+1))=ι)(hd:∀i,i+1<n->mF S (W i (L i-1)) (W (i+1) 0)=ν):∀i,i<=n->jY S xs ys l (bv7 L i)=(cI i).map fun i=>⟨rU S (W i 0),Yp xs ys (W i 0),Ux xs ys (W i (L i-1))⟩:=by
 intro i;induction i with
 |zero=>intro _;rfl
 |succ i ih=>
  intro hi;have ih:=ih oM;have hLi:=hL i oM;have inn:∀t,t<L i->jY S xs ys l (bv7 L i+t+1)=((cI i).map fun i=>(⟨rU S (W i 0),Yp xs ys (W i 0),Ux xs ys (W i (L i-1))⟩:Pt))++[⟨rU S (W i 0),Yp xs ys (W i 0),Ux xs ys (W i t)⟩]:=by
   intro t;induction t with
   |zero=>
    intro _;have h0:=hW i oM 0 hLi;rw[jN]at h0|-;rw[ND,ih,h0];by_cases hz:i=0
    .subst hz;exact .inl rfl
    .refine .inr ?_;obtain⟨k,rfl⟩:∃k,i=k+1:=⟨i-1,oM⟩;have hk:=hL k oM;have h1:=hW k oM (L k-1) oM;rw[h0,show bv7 L (k+1)-1=bv7 L k+(L k-1) by rw[bv7];omega,h1];exact hd k oM
   |succ t iht=>
    intro ht;have iht:=iht oM;have a:=hW i oM t oM;have b:=hW i oM (t+1) ht;obtain⟨qs,s,u,z,e1,e2⟩:=Lv (S:=S) (xs:=xs) (ys:=ys) (l:=l) (k:=bv7 L i+t+1) oM (by rw[show bv7 L i+t+1-1=bv7 L i+t by omega,a,show bv7 L i+t+1=bv7 L i+(t+1) by omega,b];exact hs i oM t ht);rw[iht]at e1;obtain⟨e3,e4⟩:=List.append_inj' e1 rfl;injection e4 with e4;injection e4 with e5 e6 e7;rw[show bv7 L i+(t+1)+1=bv7 L i+t+1+1 by omega,e2,<-e3,<-e5,<-e6,show bv7 L i+t+1=bv7 L i+(t+1) by omega,b]
  have:=inn (L i-1) oM;rw[bv7,show bv7 L i+L i=bv7 L i+(L i-1)+1 by omega,this,sB,dV];rfl
theorem E9(hk:k<l.length)(h1:∀j,j<k->mF S (l.getD ((j+l.length-1)%l.length) Γ) (l.getD j Γ)=ι)(h2:mF S (l.getD ((k+l.length-1)%l.length) Γ) (l.getD k Γ)=ν):eO S l=k:=by
 have h3:∀m,m<=k->mH S l m=m:=by
  intro m;induction m with
  |zero=>intro _;rfl
  |succ m ih=>intro hm;rw[mH,ip (ih oM),ip (h1 m oM)]
 have h4:mH S l (k+1)=k:=by rw[mH,ip (h3 k (θ _)),iN (by rw[h2];decide)]
 have h5:=Lw (S:=S) (l:=l) (k:=k+1) oM (l.length-(k+1));rw[h4,show k+1+(l.length-(k+1))=l.length by omega]at h5;unfold eO;rw[h5,iN oM]
end
def uG(xs ys:List (List UInt8))(s:Sg):Pt:=⟨s.side,Yp xs ys (cV s 0),Ux xs ys (cV s (s.len-1))⟩
theorem aI1{q:Sg}(h:s.up≠q.up):s.dir≠q.dir:=by
 unfold Sg.dir;cases hs:s.up<;>cases hq:q.up<;>rw[hs,hq]at h<;>first |exact absurd rfl h|skip
 all_goals simp only[aK,if_false,if_true];(repeat' split)<;>omega
section
variable{ls:List (List Sg)}{X Y:Int}
theorem Fa(E n):vN E n=bv7 (fun i=>(E.getD i Γ).len) n:=by
 induction n with
 |zero=>rfl
 |succ n ih=>rw[vN,bv7,ih]
theorem yd(F:Nat->Nat){n:Nat}(h:0<n):bv7 F n=bv7 F (n-1)+F (n-1):=by
 obtain⟨m,rfl⟩:∃m,n=m+1:=⟨n-1,oM⟩;rfl
theorem qF[Inhabited α]{f:α->α}{w:α}{L:Nat}(h:k<L):(jX f w L).getD k Γ=fW f k w:=by
 unfold jX;simp[Ω,h]
theorem Xv{f:Wy->Wy}{w:Wy}{L:Nat}(h1:fW f L w=w)(hk:k<=L):Eo (jX f w L) k=jX f (fW f k w) L:=(as3 h1 hk).symm
end
theorem OB{c:Int->Int->Bool}{X Y:Nat}(hc:tG c X Y)(ws):∀w∈ws,eX c w=ι->w∈(jK c ws).1:=by
 have:∀(ws:List Wy)st,rW c X Y st->(∀v∈st.1,v∈(ws.foldl (eT c) st).1)/\∀w∈ws,eX c w=ι->w∈(ws.foldl (eT c) st).1:=by
  intro ws;induction ws with
  |nil=>intro st _;exact⟨fun v h=>h,fun w h=>absurd h sP⟩
  |cons u ws ih=>
   intro st h;obtain⟨i1,i2⟩:=ih _ (h.step hc u);have SK:∀v∈st.1,v∈(eT c st u).1:=fun v hv=>by
    unfold eT;split
    .exact hv
    .exact gU _ hv
   refine⟨fun v hv=>i1 v (SK v hv),fun w hw hb=>?_⟩;rcases List.mem_cons.1 hw with e|hw
   .subst e;refine i1 _ ?_;unfold eT;split
    .rename_i hn;rcases hn with h1|h1
     .exact h1
     .rw[hb]at h1;cases h1
    .refine rM _ ?_;obtain⟨k,hk,-⟩:=GY hc hb;show _∈Ly (eY c) w;rw[uY hk];exact rC.2 ⟨0,hk.1,rfl⟩
   .exact i2 w hw hb
 exact(this ws _ (rW.nil c X Y)).2
theorem Fb{P:α->β->Prop}:∀ {L:List α},(∀ l∈L,∃ x,P l x)->∃ rl:List (α×β),rl.map (·.1)=L/\∀ y∈rl,P y.1 y.2
 | [],_=>⟨[],rfl,fun y h=>absurd h sP⟩
 | l ::L,h=>by
  obtain⟨x,hx⟩:=h l (bO ..)
  obtain⟨rl,h1,h2⟩:=Fb (L:=L) fun m hm=>h m (cC _ hm)
  refine⟨(l,x) ::rl,by rw [fN,h1],fun y hy=>?_⟩
  rcases List.mem_cons.1 hy with e | hy
  .subst e;exact hx
  .exact h2 y hy
section
variable{ls:List (List Sg)}{X Y:Int}
def OnR(ls:List (List Sg))(r:Nat)(w:Wy):Prop:=∃j t,j<(ls.getD r []).length/\t<((ls.getD r []).getD j Γ).len/\w=cV ((ls.getD r []).getD j Γ) t
def as5(xs ys:List (List UInt8))(E:List Sg)(j:Nat):List Pt:=(cI E.length).map fun i=>uG xs ys (E.getD ((i+j)%E.length) Γ)
end
theorem qG(s:Sg):s.dir%2=if s.up=ι then 1 else 0:=by
 unfold Sg.dir;cases s.up<;>simp only[aK,if_false,if_true]<;>split <;>rfl
theorem aI2{p:Pt}(h:pV fs at' xs ys p)(hl:(eP fs at' xs ys p).a≠(eP fs at' xs ys p).b):uG xs ys (eP fs at' xs ys p)=p:=by
 obtain⟨-,h1,h2,h3,-,-⟩:=h;have hlen:0<(eP fs at' xs ys p).len:=by unfold Sg.len;omega
 have AF:=DI (eP fs at' xs ys p);have hen:=Mj (eP fs at' xs ys p);have hsp:=rH (eP fs at' xs ys p) ((eP fs at' xs ys p).len-1);rw[show(eP fs at' xs ys p).len-1+1=(eP fs at' xs ys p).len by omega]at hsp;have hd:=qG (eP fs at' xs ys p);unfold uG Yp Ux cV;simp only;rw[<-hsp.1,<-hsp.2];unfold bA at h1 h2;have e1:=congrArg Bl AF;have e2:=congrArg Bm AF;have e3:=congrArg Bl hen;have e4:=congrArg Bm hen;simp only at e1 e2 e3 e4;rw[e1,e2,e3,e4];unfold wH;rw[hd];unfold eP Sg.st Sg.en at *;by_cases hu:(fs.getD p.side.toNat Γ).up=ι
 .simp only[hu,if_true]at h1 h2 h3|-;rw[gG,gG,pB h2,pB h3]
 .simp only[hu,if_false,aK]at h1 h2 h3|-;simp only[show¬((0:Nat)=1) by decide,if_false];rw[gG,gG,pB h1,pB h3]
theorem as6{x y:Rat}{s:Int}{e x' y':Rat}{s':Int}{e':Rat}(h:s≠s'):Dz x y s e x' y' s' e'\/Dz x' y' s' e' x y s e:=by unfold Dz;grind
theorem as7(ht:t<s.len):A6 s (cV s t).x (cV s t).y (cV s t).d:=by
 unfold Sg.len at ht;by_cases hu:s.up=ι<;>by_cases hab:s.a<s.b
 .have e:cV s t=⟨s.line,s.a+t,1⟩:=by unfold cV Sg.px Sg.py Sg.dir;simp only[hu,hab,if_true]
  rw[e];exact⟨hu,rfl,by show s.a<=s.a+t;omega,by show s.a+t<s.b;omega⟩
 .have e:cV s t=⟨s.line,s.a-t,3⟩:=by unfold cV Sg.px Sg.py Sg.dir;simp only[hu,hab,if_true,if_false]
  rw[e];exact⟨hu,rfl,by show s.b<=s.a-t-1;omega,by show s.a-t-1<s.a;omega⟩
 .have hu2:s.up=ν:=by simpa using hu
  have e:cV s t=⟨s.a+t,s.line,0⟩:=by unfold cV Sg.px Sg.py Sg.dir;simp only[hu2,hab,if_true,if_false,aK]
  rw[e];exact⟨hu2,rfl,by show s.a<=s.a+t;omega,by show s.a+t<s.b;omega⟩
 .have hu2:s.up=ν:=by simpa using hu
  have e:cV s t=⟨s.a-t,s.line,2⟩:=by unfold cV Sg.px Sg.py Sg.dir;simp only[hu2,hab,if_false,aK]
  rw[e];exact⟨hu2,rfl,by show s.b<=s.a-t-1;omega,by show s.a-t-1<s.a;omega⟩
theorem rJ[Inhabited α](f:Nat->α){n:Nat}(hi:i<n):((cI n).map f).getD i Γ=f i:=by
 simp[Ω,hi]
section
variable{fs:List Fr}{at':List (List UInt8)}{ls:List Lp}
theorem iM(xs ys r):(eC fs at' xs ys ls).getD r []=(ls.getD r Γ).ps.map (eP fs at' xs ys):=by
 unfold eC;rw[Ω,oP,Ω];cases ls[r]? <;>rfl
theorem kX[Inhabited α][Inhabited β](f:α->β)(l:List α)(hi:i<l.length):(l.map f).getD i Γ=f (l.getD i Γ):=by
 simp[Ω,hi]
end
section
variable{ls:List (List Sg)}{X Y:Int}
theorem Dg.brd(h:Dg ls X Y):uF ls X Y:=
 ⟨fun r hr=>(h.simple r hr).ring,fun r hr=>by have:=(h.simple r hr).three;omega,fun r hr=>(h.simple r hr).long,h.grid,fun r j t hr hj ht=>h.sides hr hj ht,fun r j hr hj=>by
  have l:=(h.simple r hr).long j hj
  have hlen:0<((ls.getD r []).getD j Γ).len:=by unfold Sg.len;omega
  rw[h.next hr hj (t:=((ls.getD r []).getD j Γ).len-1) oM,iN oM],fun r j hr hj=>.inl (aI1 ((h.simple r hr).alt j hj))⟩
theorem uF.goes(h:uF ls X Y)(hr:r<ls.length):∀j,j<(ls.getD r []).length->∀t,t<((ls.getD r []).getD j Γ).len->fW (eY (dK X Y ls.flatten)) (vN (ls.getD r []) j+t) (cV ((ls.getD r []).getD 0 Γ) 0)=cV ((ls.getD r []).getD j Γ) t:=by
 have hs:=h.long r hr;have hs2:=h.two r hr;have inn:∀j,j<(ls.getD r []).length->fW (eY (dK X Y ls.flatten)) (vN (ls.getD r []) j) (cV ((ls.getD r []).getD 0 Γ) 0)=cV ((ls.getD r []).getD j Γ) 0->∀t,t<((ls.getD r []).getD j Γ).len->fW (eY (dK X Y ls.flatten)) (vN (ls.getD r []) j+t) (cV ((ls.getD r []).getD 0 Γ) 0)=cV ((ls.getD r []).getD j Γ) t:=by
  intro j hj h0 t;induction t with
  |zero=>intro _;exact h0
  |succ t ih=>
   intro ht;show eY _ (fW _ (vN (ls.getD r []) j+t) _)=_;rw[ih oM,h.next hr hj oM,ip ht]
 intro j;induction j with
 |zero=>exact fun hj=>inn 0 hj rfl
 |succ j ih=>
  intro hj;refine inn (j+1) hj ?_;have hl:=hs j oM;have hlen:0<((ls.getD r []).getD j Γ).len:=by unfold Sg.len;omega
  have h1:=ih oM (((ls.getD r []).getD j Γ).len-1) oM;rw[vN,show vN (ls.getD r []) j+((ls.getD r []).getD j Γ).len=vN (ls.getD r []) j+(((ls.getD r []).getD j Γ).len-1)+1 by omega];show eY _ (fW _ (vN (ls.getD r []) j+(((ls.getD r []).getD j Γ).len-1)) _)=_;rw[h1,h.next hr oM oM,iN oM,aT hj]
theorem uF.per(h:uF ls X Y)(hr:r<ls.length):it (eY (dK X Y ls.flatten)) (cV ((ls.getD r []).getD 0 Γ) 0) (vN (ls.getD r []) (ls.getD r []).length):=by
 have hs:=h.long r hr;have hs2:=h.two r hr;have h3:=hs2;obtain⟨n,hn⟩:∃n,(ls.getD r []).length=n+1:=⟨(ls.getD r []).length-1,oM⟩;have hl:=hs n oM;have hl0:=hs 0 oM;have hlen:0<((ls.getD r []).getD n Γ).len:=by unfold Sg.len;omega
 have lj:0<((ls.getD r []).getD 0 Γ).len:=by unfold Sg.len;omega
 refine⟨by rw[hn,vN];omega,?_,fun k k0 hk e=>?_⟩
 .rw[hn,vN,show vN (ls.getD r []) n+((ls.getD r []).getD n Γ).len=vN (ls.getD r []) n+(((ls.getD r []).getD n Γ).len-1)+1 by omega];show eY _ (fW _ (vN (ls.getD r []) n+(((ls.getD r []).getD n Γ).len-1)) _)=_;rw[h.goes hr n oM _ oM,h.next hr oM oM,iN oM,show(n+1)%(ls.getD r []).length=0 by rw[hn];exact mY _]
 .obtain⟨j,t,h1,h2,rfl⟩:=aI0 _ _ _ hk;rw[h.goes hr j h1 t h2]at e;obtain⟨-,e2,e3⟩:=h.uniq hr hr h1 oM h2 lj e;subst e2 e3;unfold vN at k0;omega
theorem uF.goesL(h:uF ls X Y)(hr:r<ls.length)(hj:j<(ls.getD r []).length):∀i t,t<((ls.getD r []).getD ((i+j)%(ls.getD r []).length) Γ).len->
 fW (eY (dK X Y ls.flatten)) (bv7 (fun i=>((ls.getD r []).getD ((i+j)%(ls.getD r []).length) Γ).len) i+t) (cV ((ls.getD r []).getD j Γ) 0)=cV ((ls.getD r []).getD ((i+j)%(ls.getD r []).length) Γ) t:=by
 have hs:=h.long r hr;have hs2:=h.two r hr;have hm:∀i,(i+j)%(ls.getD r []).length<(ls.getD r []).length:=fun i=>aV _ oM;intro i;induction i with
 |zero=>
  intro t;rw[show(0+j)%(ls.getD r []).length=j by rw[bD,aT hj]];induction t with
  |zero=>intro _;rfl
  |succ t ih=>
   intro ht;show fW _ (0+(t+1)) _=_;rw[show 0+(t+1)=(0+t)+1 by omega,fW];have:=ih oM;rw[show bv7 (fun i=>((ls.getD r []).getD ((i+j)%(ls.getD r []).length) Γ).len) 0=0 from rfl]at this;rw[this,h.next hr hj oM,ip ht]
 |succ i ih=>
  intro t;induction t with
  |zero=>
   intro _;have hl:0<((ls.getD r []).getD ((i+j)%(ls.getD r []).length) Γ).len:=by
    have:=hs _ (hm i);unfold Sg.len;omega
   rw[bv7,show bv7 (fun i=>((ls.getD r []).getD ((i+j)%(ls.getD r []).length) Γ).len) i+((ls.getD r []).getD ((i+j)%(ls.getD r []).length) Γ).len+0=(bv7 (fun i=>((ls.getD r []).getD ((i+j)%(ls.getD r []).length) Γ).len) i+(((ls.getD r []).getD ((i+j)%(ls.getD r []).length) Γ).len-1))+1 by omega,fW,ih _ oM,h.next hr (hm i) oM,iN oM];rw[eV,Nat.add_right_comm]
  |succ t iht=>
   intro ht;rw[<-LV,fW,iht oM,h.next hr (hm (i+1)) oM,ip ht]
theorem uF.parts(h:uF ls X Y)(hS:∀r j t,r<ls.length->j<(ls.getD r []).length->t<((ls.getD r []).getD j Γ).len->rU S (cV ((ls.getD r []).getD j Γ) t)=((ls.getD r []).getD j Γ).side){w:Wy}(hw:eX (dK X Y ls.flatten) w=ι):∃r j,r<ls.length/\j<(ls.getD r []).length/\(∃j0 t0,j0<(ls.getD r []).length/\t0<((ls.getD r []).getD j0 Γ).len/\w=cV ((ls.getD r []).getD j0 Γ) t0)/\
  fF S xs ys (Ly (eY (dK X Y ls.flatten)) w)=(cI (ls.getD r []).length).map fun i=>uG xs ys ((ls.getD r []).getD ((i+j)%(ls.getD r []).length) Γ):=by
 have hw2:=hw;unfold eX at hw2;rw[aI,decide_eq_true_eq]at hw2;obtain⟨r,j0,t0,hr,hj,ht,e1,e2,e3⟩:=(h.border hw2.1).1 hw2.2;have ew:w=cV ((ls.getD r []).getD j0 Γ) t0:=by obtain⟨x,y,d⟩:=w;unfold cV;simp only[]at e1 e2 e3;rw[e1,e2,e3]
 refine⟨r,?_⟩;have hs:=h.long r hr;have hs2:=h.two r hr;have gz:=h.per hr;have hg:=fun j(hj:j<(ls.getD r []).length)=>h.goesL hr hj;have hgo:=h.goes hr;have hSr:=fun j t hj ht=>hS r j t hr hj ht;have hdf:=fun j hj=>h.diff r j hr hj;clear hS e1 e2 e3 hw2;generalize ls.getD r []=E,eY (dK X Y ls.flatten)=f at *;have hlen:∀j,j<E.length->0<(E.getD j Γ).len:=fun j hj=>by have:=hs j hj;unfold Sg.len;omega
 have h3:=hs2;obtain⟨Yz,aY5⟩:=nm (vN E E.length);rw[aY5]at gz;have aY6:∀j t,j<E.length->t<(E.getD j Γ).len->it f (cV (E.getD j Γ) t) Yz:=fun j t hj ht=>by
  rw[<-hgo j hj t ht];refine gz.from ?_;have:=Di (f:=fun i=>(E.getD i Γ).len) hj ht;rw[Fa,<-aY5,Fa];omega
 have BQ:∀j,bv7 (fun i=>(E.getD ((i+j)%E.length) Γ).len) E.length=Yz:=fun j=>by
  rw[Xu (fun i=>(E.getD i Γ).len) E.length j,<-Fa,aY5]
 have hm:∀i,i%E.length<E.length:=fun i=>aV _ oM;have aI3:∀j t t',j<E.length->t<(E.getD j Γ).len->t'<(E.getD ((j+1)%E.length) Γ).len->mF S (cV (E.getD j Γ) t) (cV (E.getD ((j+1)%E.length) Γ) t')=ν:=fun j t t' hj ht ht'=>by
  unfold mF;rw[hSr j t hj ht,hSr _ t' (hm _) ht'];rcases hdf j hj with e|e
  .rw[decide_eq_false (show¬(cV (E.getD j Γ) t).d=(cV (E.getD ((j+1)%E.length) Γ) t').d from e),wT]
  .rw[decide_eq_false e,Bk]
 have bs1:∃j1 f0,j1<E.length/\f0<Yz/\fW f f0 w=cV (E.getD j1 Γ) 0/\eO S (jX f w Yz)=f0:=by
  have Dn:∀j t t',j<E.length->t<(E.getD j Γ).len->t'<(E.getD j Γ).len->mF S (cV (E.getD j Γ) t) (cV (E.getD j Γ) t')=ι:=fun j t t' hj h1 h2=>by
   unfold mF;rw[hSr j t hj h1,hSr j t' hj h2,decide_eq_true (show(cV (E.getD j Γ) t).d=(cV (E.getD j Γ) t').d from rfl),decide_eq_true rfl];rfl
  have Xw:∀j t t',j<E.length->t<(E.getD j Γ).len->t'<(E.getD ((j+1)%E.length) Γ).len->mF S (cV (E.getD j Γ) t) (cV (E.getD ((j+1)%E.length) Γ) t')=ν:=aI3;have hlt:=Di (f:=fun i=>(E.getD i Γ).len) hj ht;have DN:(jX f w Yz).length=Yz:=BY _ _;have hL0:=gz.1;have hPw:=aY6 j0 t0 hj ht;rw[<-ew]at hPw;have Yl:=hg j0 hj 0 t0 (by rw[bD,aT hj];exact ht);rw[bD,aT hj]at Yl;have Yl:fW f t0 (cV (E.getD j0 Γ) 0)=w:=by rw[ew,<-Yl];rw[show bv7 (fun i=>(E.getD ((i+j0)%E.length) Γ).len) 0=0 from rfl,bD]
  have hP0:=aY6 j0 0 hj (hlen j0 hj);by_cases hz:t0=0
  .refine⟨j0,0,hj,hL0,by rw[ew,hz];rfl,E9 (by rw[DN];exact hL0) (fun j hj=>absurd hj (vJ _)) ?_⟩;rw[DN,bD,aT oM,qF oM,qF hL0];have hk:=hg j0 hj (E.length-1) ((E.getD ((E.length-1+j0)%E.length) Γ).len-1) (by have:=hlen _ (hm (E.length-1+j0));omega);have hss:=BQ j0;have e:bv7 (fun i=>(E.getD ((i+j0)%E.length) Γ).len) (E.length-1)+((E.getD ((E.length-1+j0)%E.length) Γ).len-1)=Yz-1:=by
    have h1:=hlen _ (hm (E.length-1+j0));rw[<-hss];have h2:=yd (fun i=>(E.getD ((i+j0)%E.length) Γ).len) (n:=E.length) oM;omega
   rw[e]at hk;rw[ew,hz,hk];have h4:=Xw ((E.length-1+j0)%E.length) ((E.getD ((E.length-1+j0)%E.length) Γ).len-1) 0 (hm _) (by have:=hlen _ (hm (E.length-1+j0));omega) (hlen _ (hm _));rw[eV,show E.length-1+j0+1=j0+E.length by omega,gQ,aT hj]at h4;exact h4
  .have hlj:=hlen j0 hj;have hLl:(E.getD j0 Γ).len<Yz:=by
    have h1:=Di (f:=fun i=>(E.getD ((i+j0)%E.length) Γ).len) (i:=1) (n:=E.length) (t:=0) oM (hlen _ (hm _));rw[BQ j0]at h1;have h2:bv7 (fun i=>(E.getD ((i+j0)%E.length) Γ).len) 1=(E.getD j0 Γ).len:=by
     show 0+(E.getD ((0+j0)%E.length) Γ).len=_;rw[bD,bD,aT hj]
    omega
   have hin:∀t,t<(E.getD j0 Γ).len->fW f t (cV (E.getD j0 Γ) 0)=cV (E.getD j0 Γ) t:=fun t ht=>by
    have:=hg j0 hj 0 t (by rw[bD,aT hj];exact ht);rw[bD,aT hj]at this;rw[<-this];rw[show bv7 (fun i=>(E.getD ((i+j0)%E.length) Γ).len) 0=0 from rfl,bD]
   have hiw:∀k,t0+k<(E.getD j0 Γ).len->fW f k w=cV (E.getD j0 Γ) (t0+k):=fun k hk=>by
    rw[<-Yl,<-mM,Ao k,hin _ hk]
   have Re:fW f ((E.getD j0 Γ).len-t0) w=cV (E.getD ((1+j0)%E.length) Γ) 0:=by
    have h1:=hg j0 hj 1 0 (hlen _ (hm _));rw[show bv7 (fun i=>(E.getD ((i+j0)%E.length) Γ).len) 1=(E.getD j0 Γ).len by show 0+(E.getD ((0+j0)%E.length) Γ).len=_;rw[bD,bD,aT hj],jN]at h1;rw[<-h1,<-Yl,<-mM];congr 1;omega
   refine⟨(1+j0)%E.length,(E.getD j0 Γ).len-t0,hm _,oM,Re,E9 (by rw[DN];omega) (fun j hjk=>?_) ?_⟩
   .rw[DN];by_cases hj0':j=0
    .subst hj0';rw[bD,aT oM,qF oM,qF hL0];have h1:fW f (Yz-1) w=cV (E.getD j0 Γ) (t0-1):=by
      rw[<-Yl,<-mM,show Yz-1+t0=(t0-1)+Yz by omega,mM,hP0.2.1,hin _ oM]
     rw[h1,hiw 0 oM];exact Dn j0 _ _ hj oM oM
    .rw[show j+Yz-1=(j-1)+Yz by omega,gQ,aT oM,qF oM,qF oM,hiw (j-1) oM,hiw j oM];exact Dn j0 _ _ hj oM oM
   .rw[DN,show(E.getD j0 Γ).len-t0+Yz-1=((E.getD j0 Γ).len-t0-1)+Yz by omega,gQ,aT oM,qF oM,qF oM,Re,hiw _ oM,Ao 1 j0];exact Xw j0 _ _ hj oM (hlen _ (hm _))
 obtain⟨j1,f0,hj1,hf0,hi,hfw⟩:=bs1;have hPw:=aY6 j0 t0 hj ht;rw[<-ew]at hPw;refine⟨j1,hr,hj1,⟨j0,t0,hj,ht,ew⟩,?_⟩;rw[uY hPw];unfold fF;rw[hfw,Xv hPw.2.1 (fM hf0),hi,BY,<-BQ j1];have hR:=LP (S:=S) (xs:=xs) (ys:=ys) (l:=jX f (cV (E.getD j1 Γ) 0) Yz) (W:=fun i t=>cV (E.getD ((i+j1)%E.length) Γ) t) (L:=fun i=>(E.getD ((i+j1)%E.length) Γ).len) (n:=E.length)
  (fun i _=>hlen _ (hm _)) (fun i hi t ht=>by
   have:=Di (f:=fun i=>(E.getD ((i+j1)%E.length) Γ).len) hi ht;rw[BQ j1]at this;rw[qF this];exact hg j1 hj1 i t ht) (fun i _ t ht=>by
   unfold mF;rw[hSr _ t (hm _) oM,hSr _ (t+1) (hm _) ht,decide_eq_true (show(cV (E.getD ((i+j1)%E.length) Γ) t).d=(cV (E.getD ((i+j1)%E.length) Γ) (t+1)).d from rfl),decide_eq_true rfl];rfl) (fun i hi=>by
   have h4:=aI3 ((i+j1)%E.length) ((E.getD ((i+j1)%E.length) Γ).len-1) 0 (hm _) (by have:=hlen _ (hm (i+j1));omega) (hlen _ (hm _));rw[eV,Nat.add_right_comm]at h4;exact h4) E.length (θ _)
 rw[BQ j1]at hR|-;rw[hR];refine eB fun i _=>?_;unfold uG;rw[hSr _ 0 (hm _) (hlen _ (hm _))]
theorem uF.on_uniq(h:uF ls X Y){q:Nat}(hr:r<ls.length)(hq:q<ls.length){w:Wy}(h1:OnR ls r w)(h2:OnR ls q w):r=q:=by
 obtain⟨j,t,hj,ht,rfl⟩:=h1;obtain⟨j2,t2,Wh,UH,e⟩:=h2;exact(h.uniq hr hq hj Wh ht UH e).1
theorem uF.on_itr(h:uF ls X Y)(hr:r<ls.length){w:Wy}(hw:OnR ls r w):∀k,OnR ls r (fW (eY (dK X Y ls.flatten)) k w)
 |0=>hw
 |k+1=>by
  obtain⟨j,t,hj,ht,e⟩:=h.on_itr hr hw k
  rw[fW,e,h.next hr hj ht]
  have hm:(j+1)%(ls.getD r []).length<(ls.getD r []).length:=aV _ oM
  split
  .exact⟨j,t+1,hj,by assumption,rfl⟩
  .refine⟨_,0,hm,?_,rfl⟩
   have:=h.long r hr _ hm
   unfold Sg.len;omega
theorem uF.on_all(h:uF ls X Y)(hr:r<ls.length){w v:Wy}(hw:OnR ls r w)(hv:OnR ls r v):v∈Ly (eY (dK X Y ls.flatten)) w:=by
 obtain⟨j,t,hj,ht,rfl⟩:=hw;obtain⟨j2,t2,Wh,UH,rfl⟩:=hv;have hp:=h.per hr;rw[<-h.goes hr j hj t ht,<-h.goes hr j2 Wh t2 UH];have l1:=Di (f:=fun i=>((ls.getD r []).getD i Γ).len) hj ht;have l2:=Di (f:=fun i=>((ls.getD r []).getD i Γ).len) Wh UH;rw[<-Fa,<-Fa]at l1 l2;generalize vN (ls.getD r []) (ls.getD r []).length=L,vN (ls.getD r []) j2+t2=k2,vN (ls.getD r []) j+t=k1 at *;rw[uY (hp.from (fM l1))];rw[rC];by_cases c:k1<=k2
 .exact⟨k2-k1,oM,by rw[<-mM];congr 1;omega⟩
 .refine⟨k2+L-k1,oM,?_⟩;rw[<-mM,show k2+L-k1+k1=k2+L by omega,mM,hp.2.1]
theorem uF.loops(h:uF ls X Y){Xn Yn:Nat}(hX:X=Xn)(hY:Y=Yn)(hS:∀ r j t,r < ls.length->j < (ls.getD r []).length->t < ((ls.getD r []).getD j Γ).len->rU S (cV ((ls.getD r []).getD j Γ) t)=((ls.getD r []).getD j Γ).side):
 ∃ rl:List (Nat×Nat),(rl.map (·.1)).Perm (cI ls.length)/\(jK (dK X Y ls.flatten) (oR Xn Yn)).2.map (fF S xs ys)=rl.map fun y=>as5 xs ys (ls.getD y.1 []) y.2:=by
 have hc:tG (dK X Y ls.flatten) Xn Yn:=fun i j Le=>by
  unfold dK at Le;rw [decide_eq_true_eq] at Le;omega
 have yR:=wL hc (oR Xn Yn);have ye:=OB hc (oR Xn Yn);generalize AF:jK (dK X Y ls.flatten) (oR Xn Yn)=st at *;obtain⟨rl,e1,e2⟩:=Fb (P:=fun (l:List Wy) (x:Nat×Nat)=>x.1 < ls.length/\(∀ v∈l,OnR ls x.1 v)/\(∀ v,OnR ls x.1 v->v∈l)/\fF S xs ys l=as5 xs ys (ls.getD x.1 []) x.2) (L:=st.2) fun l hl=>by
  obtain⟨-,w,hb,rfl⟩:=yR.pos l hl;obtain⟨r,j,hr,hj,PQ,hp⟩:=h.parts (xs:=xs) (ys:=ys) hS hb;have PQ:OnR ls r w:=PQ;refine⟨(r,j),hr,fun v hv=>?_,fun v hv=>h.on_all hr PQ hv,hp⟩;obtain⟨k,hk,-⟩:=GY hc hb;rw [uY hk] at hv;obtain⟨i,-,rfl⟩:=rC.1 hv;exact h.on_itr hr PQ i
 have h0:∀ r,r < ls.length->OnR ls r (cV ((ls.getD r []).getD 0 Γ) 0):=fun r hr=>by
  have hs:=h.long r hr;have hs2:=h.two r hr;have:=hs2;have:=hs 0 oM;exact⟨0,0,oM,by unfold Sg.len;omega,rfl⟩
 refine⟨rl.map (·.2),?_,?_⟩
 .rw [eH];refine(List.perm_ext_iff_of_nodup ?_ List.nodup_range).2 fun r=>?_
  .have hnd:=yR.nd;rw [yR.all,Qe,List.pairwise_flatten,<- e1,List.pairwise_map] at hnd;rw [Qe,List.pairwise_map];refine hnd.2.imp_of_mem fun {y z} hy hz hyz e=>?_;obtain⟨a1,-,a3,-⟩:=e2 y hy;obtain⟨b1,-,b3,-⟩:=e2 z hz;have e:y.2.1=z.2.1:=e;have ho:=h0 _ a1;exact hyz _ (a3 _ ho) _ (b3 _ (by rw [<- e];exact ho)) rfl
  .rw [List.mem_map,xS];constructor
   .rintro⟨y,hy,rfl⟩;exact(e2 y hy).1
   .intro hr;have ho:=h0 r hr;obtain⟨j,t,hj,ht,ew⟩:=ho;have hb:=h.bord hr hj ht;rw [<- ew] at hb;have hin:=ye _ (zZ hc hb) hb;rw [yR.all,<- e1] at hin;obtain⟨l,hl,hwl⟩:=List.mem_flatten.1 hin;obtain⟨y,hy,rfl⟩:=List.mem_map.1 hl;obtain⟨a1,a2,-,-⟩:=e2 y hy;exact⟨y,hy,h.on_uniq a1 hr (a2 _ hwl) ⟨j,t,hj,ht,ew⟩⟩
 .rw [<- e1,eH,eH];exact eB fun y hy=>(e2 y hy).2.2.2
end
section
variable{fs:List Fr}{at':List (List UInt8)}{ls:List Lp}
def bk8(fs:List Fr)(at':List (List UInt8))(ls:List Lp):Prop:=∀r i q k,r<ls.length->q<ls.length->i<(ls.getD r Γ).ps.length->k<(ls.getD q Γ).ps.length->(r≠q\/i≠k)->
 G6 fs at' ((ls.getD r Γ).ps.getD i Γ) ((ls.getD q Γ).ps.getD k Γ)\/G6 fs at' ((ls.getD q Γ).ps.getD k Γ) ((ls.getD r Γ).ps.getD i Γ)
theorem T9(hp:∀ p∈ls.flatMap Lp.ps,pV fs at' xs ys p)(hL:uF (eC fs at' xs ys ls) xs.length ys.length):
 ∃ rl:List (Nat×Nat),(rl.map (·.1)).Perm (cI ls.length)/\DA fs at' xs ys ls=rl.map fun y=>(cI (ls.getD y.1 Γ).ps.length).map fun i=>(ls.getD y.1 Γ).ps.getD ((i+y.2) % (ls.getD y.1 Γ).ps.length) Γ:=by
 have hlen:(eC fs at' xs ys ls).length=ls.length:=by unfold eC;rw [υ]
 have CF:=wM fs at' xs ys ls;have hc:=Ae fs at' xs ys ls;have hS:∀ r j t,r < (eC fs at' xs ys ls).length->j < ((eC fs at' xs ys ls).getD r []).length->t < (((eC fs at' xs ys ls).getD r []).getD j Γ).len->rU (TE (xO fs at' xs ys ls) xs.length ys.length) (cV (((eC fs at' xs ys ls).getD r []).getD j Γ) t)=(((eC fs at' xs ys ls).getD r []).getD j Γ).side:=fun r j t hr hj ht=>by
  have hb:=hL.bord hr hj ht;rw [CF] at hb;rw [I6 (zZ hc hb)];unfold Wl xO;have hm:((eC fs at' xs ys ls).getD r []).getD j Γ∈(eC fs at' xs ys ls).flatten:=List.mem_flatten.2 ⟨_,aN hr [],aN hj Γ⟩;rw [<- CF];have h1:=QR hm (as7 ht);obtain⟨s0,hs0⟩:=Option.isSome_iff_exists.1 h1;rw [hs0];obtain⟨s,hs,ho,e⟩:=NI hs0;rw [bK,<- e];obtain⟨E,hE,bn⟩:=List.mem_flatten.1 hs;obtain⟨r2,Pw,rfl⟩:=List.mem_iff_getElem.1 hE;obtain⟨j2,Wh,rfl⟩:=List.mem_iff_getElem.1 bn;have g1:(eC fs at' xs ys ls)[r2]=(eC fs at' xs ys ls).getD r2 []:=by simp [Ω,Pw]
  have g2:(eC fs at' xs ys ls)[r2][j2]=((eC fs at' xs ys ls).getD r2 []).getD j2 Γ:=by simp [Ω,Pw,Wh]
  rw [g2] at ho |-;obtain⟨t2,UH,e1,e2,e3⟩:=vD (Sg.dir_lt _) ho;obtain⟨rfl,rfl,-⟩:=hL.uniq hr Pw hj (by rw [<- g1];exact Wh) ht UH (by unfold cV at *;simp only [] at e1 e2 e3;rw [e1,e2,e3]);rfl
 obtain⟨rl,h1,h2⟩:=hL.loops (Xn:=xs.length) (Yn:=ys.length) rfl rfl (xs:=xs) (ys:=ys) hS;rw [hlen] at h1;refine⟨rl,h1,?_⟩;unfold DA kV;unfold xO at h2 |-;rw [CF] at h2;rw [h2];refine eB fun y hy=>?_;have hy1:y.1 < ls.length:=List.mem_range.1 (h1.mem_iff.1 (dC hy));unfold as5;rw [iM,υ];refine eB fun i hi=>?_;rw [xS] at hi;have hm:(i+y.2) % (ls.getD y.1 Γ).ps.length < (ls.getD y.1 Γ).ps.length:=aV _ oM;rw [kX _ _ hm];refine aI2 (hp _ (List.mem_flatMap.2 ⟨_,aN hy1 Γ,aN hm Γ⟩)) ?_;have hs:=hL.long y.1 (by rw [hlen];exact hy1);rw [iM] at hs;have:=hs _ (by rw [υ];exact hm);rwa [kX _ _ hm] at this
theorem Xx(hp:∀ p∈ls.flatMap Lp.ps,pV fs at' xs ys p)(hL:uF (eC fs at' xs ys ls) xs.length ys.length)(yX:∀ l∈ls,0 < l.ps.length/\∀ p∈l.ps,rX fs at' p)(hd:bk8 fs at' ls):
 sV fs at' (DA fs at' xs ys ls)=sV fs at' (ls.map Lp.ps):=by
 obtain⟨rl,h1,h2⟩:=T9 hp hL;have aY7:∀ r,r < ls.length->0 < (ls.getD r Γ).ps.length/\∀ i,i < (ls.getD r Γ).ps.length->rX fs at' ((ls.getD r Γ).ps.getD i Γ):=fun r hr=>by
  obtain⟨a,b⟩:=yX _ (aN hr Γ);exact⟨a,fun i hi=>b _ (aN hi Γ)⟩
 have ZS:∀ y∈rl,mU fs at' ((cI (ls.getD y.1 Γ).ps.length).map fun i=>(ls.getD y.1 Γ).ps.getD ((i+y.2) % (ls.getD y.1 Γ).ps.length) Γ)=mU fs at' (ls.getD y.1 Γ).ps:=fun y hy=>by
  have hy1:y.1 < ls.length:=List.mem_range.1 (h1.mem_iff.1 (dC hy));obtain⟨a,b⟩:=aY7 _ hy1;refine Xt (k:=y.2) b (fun i j hi hj hne=>hd _ _ _ _ hy1 hy1 hi hj (.inr hne)) a sP fun i hi=>rJ _ hi
 have hP:((DA fs at' xs ys ls).map (mU fs at')).Perm ((ls.map Lp.ps).map (mU fs at')):=by
  have e1:(DA fs at' xs ys ls).map (mU fs at')=(rl.map (·.1)).map fun r=>mU fs at' (ls.getD r Γ).ps:=by
   rw [h2,eH,eH];exact eB fun y hy=>ZS y hy
  have e2:(ls.map Lp.ps).map (mU fs at')=(cI ls.length).map fun r=>mU fs at' (ls.getD r Γ).ps:=by
   rw [eH];refine OV sP fun i h3 h4=>?_;have hi:i < ls.length:=by simpa using h3
   simp [Ω,hi]
  rw [e1,e2];exact h1.map _
 have mG:∀ z∈(ls.map Lp.ps).map (mU fs at'),∃ r,r < ls.length/\z=mU fs at' (ls.getD r Γ).ps:=fun z hz=>by
  rw [eH] at hz;obtain⟨l,hl,rfl⟩:=List.mem_map.1 hz;obtain⟨r,hr,rfl⟩:=List.mem_iff_getElem.1 hl;exact⟨r,hr,by simp [Ω,hr]⟩
 have hhd:∀ r,r < ls.length->∃ m,m < (ls.getD r Γ).ps.length/\(mU fs at' (ls.getD r Γ).ps).getD 0 Γ=(ls.getD r Γ).ps.getD m Γ:=fun r hr=>by
  obtain⟨a,b⟩:=aY7 _ hr;exact⟨_,aV _ a,Dh _ a 0 a⟩
 have hS:∀ z∈(DA fs at' xs ys ls).map (mU fs at'),rX fs at' (z.getD 0 Γ):=fun z hz=>by
  obtain⟨r,hr,rfl⟩:=mG z (hP.mem_iff.1 hz);obtain⟨m,hm,e⟩:=hhd r hr;rw [e];exact(aY7 r hr).2 m hm
 have hlt:∀ x y:List Pt,rX fs at' (x.getD 0 Γ)->rX fs at' (y.getD 0 Γ)->(ur fs at' x y=ι↔G6 fs at' (x.getD 0 Γ) (y.getD 0 Γ)):=fun x y hx hy=>by
  unfold ur;rw [decide_eq_true_iff];exact yS hx hy
 have ag:∀ x y:List Pt,rX fs at' (x.getD 0 Γ)->rX fs at' (y.getD 0 Γ)->(ur fs at' x y=ν↔¬ G6 fs at' (x.getD 0 Γ) (y.getD 0 Γ)):=fun x y hx hy=>by
  rw [<- hlt x y hx hy];simp
 unfold sV;refine Xs (S:=fun z:List Pt=>rX fs at' (z.getD 0 Γ)) (fun x y z hx hy hz a b=>?_) (fun x y hx hy a=>?_) hS hP fun a b ha hb h3 h4=>?_
 .rw [ag x y hx hy] at a;rw [ag y z hy hz] at b;rw [ag x z hx hz];exact C5 a b
 .rw [hlt x y hx hy] at a;rw [ag y x hy hx];exact Wk a
 .obtain⟨r,hr,rfl⟩:=mG a (hP.mem_iff.1 ha);obtain⟨q,hq,rfl⟩:=mG b (hP.mem_iff.1 hb);by_cases hne:r=q
  .rw [hne]
  .exfalso;rw [ag _ _ (hS _ ha) (hS _ hb)] at h3;rw [ag _ _ (hS _ hb) (hS _ ha)] at h4;obtain⟨m,hm,e1⟩:=hhd r hr;obtain⟨k,hk,e2⟩:=hhd q hq;rw [e1,e2] at h3 h4;exact(hd r m q k hr hq hm hk (.inl hne)).elim h3 h4
end
end
section
section
variable{E F:List Sg}{X Y:Int}
theorem as8{P:Nat->Prop}:∀m,P m->∃k,P k/\∀j,j<k->¬P j:=by
 intro m;induction m using Nat.strongRecOn with
 |_ m ih=>
  intro hm;by_cases c:∃j,j<m/\P j
  .obtain⟨j,h1,h2⟩:=c;exact ih j h1 h2
  .exact⟨m,hm,fun j h1 h2=>c ⟨j,h1,h2⟩⟩
theorem RZ(hr:oZ E)(hg:∀s∈E,iT X Y s){i:Int}(hi:i<0)(k):bF E i k=0:=by
 have:=Iv (ls:=[E]) (X:=X) (Y:=Y) (by intro l hl;rw[dE]at hl;subst hl;exact hr) (by simpa using hg) hi k;simpa using this
theorem aI4(hr:oZ E)(hg:∀s∈E,iT X Y s){i k:Int}(h:bF E i k≠0):∃j,j<E.length/\(E.getD j Γ).up=ι/\(E.getD j Γ).line<=i:=by
 refine aG fun hn=>h ?_;by_cases c:i<0
 .exact RZ hr hg c k
 .rw[<-RZ hr hg (i:=-1) oM k];unfold bF;refine jW fun s hs=>?_;obtain⟨j,hj,rfl⟩:=List.mem_iff_getElem.1 hs;have ej:E.getD j Γ=E[j]:=by simp[Ω,hj]
  have h0:=(hg _ hs).1;unfold JM;by_cases u:E[j].up=ι
  .have hl:i<E[j].line:=by
    refine aG fun c2=>hn ⟨j,hj,by rw[ej];exact u,by rw[ej];omega⟩
   rw[ip ⟨u,hl⟩,ip ⟨u,oM⟩]
  .rw[iN fun z=>u z.1,iN fun z=>u z.1]
theorem iU.left(h:iU E)(hg:∀s∈E,iT X Y s):∃j,j<E.length/\(E.getD j Γ).up=ι/\∀i,i<E.length->(E.getD i Γ).up=ι->(E.getD j Γ).line<=(E.getD i Γ).line:=by
 obtain⟨i,hi,hu⟩:=h.upr;have hp:∀j,j<E.length->0<=(E.getD j Γ).line:=fun j hj=>(hg _ (aN hj Γ)).1;obtain⟨k,⟨j,hj,hju,e⟩,hk⟩:=as8 (P:=fun m=>∃j,j<E.length/\(E.getD j Γ).up=ι/\(E.getD j Γ).line.toNat=m) _ ⟨i,hi,hu,rfl⟩;refine⟨j,hj,hju,fun i hi hiu=>aG fun c=>?_⟩;have:=hp i hi;have:=hp j hj;exact hk (E.getD i Γ).line.toNat oM ⟨i,hi,hiu,rfl⟩
theorem ll(hE:iU E)(hF:iU F)(gE:∀s∈E,iT X Y s)(gF:∀s∈F,iT X Y s)(ha:Df E F)(hn:bF F ((E.getD 0 Γ).px 0) ((E.getD 0 Γ).py 0)≠0)(hj:j<E.length)(hu:(E.getD j Γ).up=ι):
 ∃i,i<F.length/\(F.getD i Γ).up=ι/\(F.getD i Γ).line<(E.getD j Γ).line:=by
 have hc:=LM hE.ring hF.ring ha j hj 0 (aP _);have hx:(E.getD j Γ).px 0=(E.getD j Γ).line:=by unfold Sg.px;rw[ip hu]
 have h1:=(TZ hF.ring (fun q hq=>ha _ (aN hj Γ) q hq _ _ (P7 (s:=E.getD j Γ) (t:=0) (aP _))) 1 oM).1;unfold sA at h1;simp only[]at h1;rw[hc,hx]at h1;obtain⟨i,hi,hiu,hl⟩:=aI4 hF.ring gF (i:=(E.getD j Γ).line-1) (k:=(E.getD j Γ).py 0) (by rw[h1];exact hn);exact⟨i,hi,hiu,oM⟩
theorem as9(hE:iU E)(hF:iU F)(gE:∀s∈E,iT X Y s)(gF:∀s∈F,iT X Y s)(ha:Df E F)(h1:bF F ((E.getD 0 Γ).px 0) ((E.getD 0 Γ).py 0)≠0):bF E ((F.getD 0 Γ).px 0) ((F.getD 0 Γ).py 0)=0:=by
 refine aG fun h2=>?_;obtain⟨j,hj,hju,hjm⟩:=hE.left gE;obtain⟨i,hi,hiu,him⟩:=hF.left gF;obtain⟨a,ha1,ha2,ha3⟩:=ll hE hF gE gF ha h1 hj hju;obtain⟨b,hb1,hb2,hb3⟩:=ll hF hE gF gE (fun s hs q hq x y h3 h4=>ha q hq s hs x y h4 h3) h2 hi hiu;have:=him a ha1 ha2;have:=hjm b hb1 hb2;omega
variable{ls:List (List Sg)}
theorem aI5(hs:∀r,r<ls.length->iU (ls.getD r []))(hg:∀s∈ls.flatten,iT X Y s)(ha:∀r q,r<ls.length->q<ls.length->r≠q->Df (ls.getD r []) (ls.getD q []))(h0:0<ls.length)(hc:DU (ls.getD 0 []) ((ls.getD 0 []).getD 0 Γ) 0=1)(hd:∀r,0<r->r<ls.length->DU (ls.getD r []) ((ls.getD r []).getD 0 Γ) 0=0)(hi:∀r,0<r->r<ls.length->bF (ls.getD 0 []) (((ls.getD r []).getD 0 Γ).px 0) (((ls.getD r []).getD 0 Γ).py 0)≠0)(ho:∀r q,0<r->0<q->r<ls.length->q<ls.length->r≠q->bF (ls.getD q []) (((ls.getD r []).getD 0 Γ).px 0) (((ls.getD r []).getD 0 Γ).py 0)=0):Dg ls X Y:=by
 have gr:∀r,r<ls.length->∀s∈ls.getD r [],iT X Y s:=fun r hr s hm=>hg s (List.mem_flatten.2 ⟨_,aN hr [],hm⟩);refine⟨hs,hg,ha,fun r hr=>?_⟩;by_cases c:r=0
 .subst c;rw[rG h0 fun q hq hn=>?_]
  .unfold Xp;rw[ip rfl,hc]
  .unfold Xp;rw[iN hn];exact as9 (hs q hq) (hs 0 h0) (gr q hq) (gr 0 h0) (ha q 0 hq h0 hn) (hi q oM hq)
 .rw[rG h0 fun q hq hn=>?_]
  .unfold Xp;rw[iN fun e=>c e.symm];have hn:=hi r oM hr;have hp:∃n:Nat,((ls.getD r []).getD 0 Γ).px 0=(n:Int)-1:=by
    have h3:=(hs r hr).three;have hm:=gr r hr _ (aN (i:=0) oM Γ);obtain⟨m1,m2,-⟩:=hm;refine⟨(((ls.getD r []).getD 0 Γ).px 0+1).toNat,?_⟩;have:0<=((ls.getD r []).getD 0 Γ).px 0:=by unfold Sg.px;(repeat' split)<;>omega
    omega
   obtain⟨n,hn2⟩:=hp;have hv:=(hs 0 h0).vals (gr 0 h0) (((ls.getD r []).getD 0 Γ).py 0) n;rw[<-hn2,hc]at hv;omega
  .unfold Xp;by_cases e:q=r
   .subst e;rw[ip rfl];exact hd q oM hq
   .rw[iN e];exact ho r q oM oM hr hq (Ne.symm e)
end
end
section
open Go
section
theorem lm{X:Nat->Int}{m:Nat}(h:∀i,i<m->X i<X (i+1)):∀j,j<=m->∀i,i<j->X i<X j:=by
 intro j;induction j with
 |zero=>intro _ i hi;omega
 |succ j ih=>
  intro hj i hi;have h1:=h j oM;by_cases c:i=j
  .subst c;exact h1
  .have:=ih oM i oM;omega
theorem Cu{X:Nat->Int}{m:Nat}(h:∀i,i<m->X i<X (i+1))(hi:i<=m)(hj:j<=m):X i<X j↔i<j:=by
 refine⟨fun c=>aG fun n=>?_,lm h j hj i⟩;by_cases e:i=j
 .subst e;omega
 .have:=lm h i hi j oM;omega
structure R6(X Y:Nat->Int)(m n:Nat)(l:List Sd)(E:List Sg):Prop where
 len:E.length=l.length
 up:∀j,j<l.length->(E.getD j Γ).up=((l.getD j Γ).x==(fR l j).x)
 grid:∀s∈E,iT (m+1) (n+1) s
 u:∀j,j<l.length->(E.getD j Γ).up=ι->X (E.getD j Γ).line.toNat=(l.getD j Γ).x/\Y (E.getD j Γ).a.toNat=(l.getD j Γ).y/\Y (E.getD j Γ).b.toNat=(fR l j).y
 v:∀j,j<l.length->(E.getD j Γ).up=ν->Y (E.getD j Γ).line.toNat=(l.getD j Γ).y/\X (E.getD j Γ).a.toNat=(l.getD j Γ).x/\X (E.getD j Γ).b.toNat=(fR l j).x/\(fR l j).y=(l.getD j Γ).y
theorem aI6{f:Nat->Int}{p:Nat->Bool}{n:Nat}(h:∀j,j<n->f j%2=if p j=ι then 1 else 0):dP f n%2=if Ax p n=ι then 1 else 0:=by
 induction n with
 |zero=>simp[dP,Ax]
 |succ n ih=>
  have h1:=h n oM;have h2:=ih fun j hj=>h j oM;rw[dP,Ax];cases hp:p n<;>cases ho:Ax p n<;>simp[hp,ho]at h1 h2|-<;>omega
variable{X Y:Nat->Int}{m n:Nat}{l:List Sd}{E:List Sg}
theorem R6.ins(h:R6 X Y m n l E)(hx:∀i,i<m->X i<X (i+1))(hy:∀i,i<n->Y i<Y (i+1))(hi:i<=m)(hk:k<=n):
 bF E i k%2=if I8 l (X i) (Y k)=ι then 1 else 0:=by
 unfold bF I8;rw[nB,h.len];refine aI6 fun j hj=>?_;have hu:=h.up j hj;have hg:=h.grid _ (aN (by rw[h.len];exact hj) Γ:E.getD j Γ∈E);have h1:=h.u j hj;unfold A9 DB DC;generalize fR l j=q,l.getD j Γ=p,E.getD j Γ=s at *;obtain⟨g1,g2,g3,g4,-⟩:=hg;by_cases c:s.up=ι
 .obtain⟨e1,e2,e3⟩:=h1 c;obtain⟨b1,b2,b3⟩:=g4 c;have hpq:(p.x==q.x)=ι:=by rw[<-hu,c]
  have hxx:p.x=q.x:=by simpa using hpq
  have m1:=Cu hx hi (j:=s.line.toNat) oM;have m2:=Cu hy hk (j:=s.a.toNat) oM;have m3:=Cu hy hk (j:=s.b.toNat) oM;have m4:=Cu hy (i:=s.a.toNat) (j:=s.b.toNat) oM oM;have m5:=Cu hy (i:=s.b.toNat) (j:=s.a.toNat) oM oM;rw[e1,hxx]at m1;rw[e2]at m2 m4 m5;rw[e3]at m3 m4 m5;rw[hpq];unfold JM tD;simp only[c,true_and,Bool.true_and,aI,decide_eq_true_eq];(repeat' split)<;>omega
 .have hpq:(p.x==q.x)=ν:=by rw[<-hu];simpa using c
  rw[hpq];unfold JM;rw[iN fun z=>c z.1];simp
theorem aI7(l k):rZ l k=dP (fun j=>(l.getD j Γ).x*(fR l j).y-(fR l j).x*(l.getD j Γ).y) k:=by
 induction k with
 |zero=>rfl
 |succ k ih=>rw[rZ,dP,ih];omega
theorem R6.area(h:R6 X Y m n l E):rZ l l.length=2*lF (upA X Y) E:=by
 have ht:dP (fun j=>(fR l j).x*(fR l j).y-(l.getD j Γ).x*(l.getD j Γ).y) l.length=0:=by
  rw[sO];have:=BC (fun j=>(l.getD j Γ).x*(l.getD j Γ).y) l.length;unfold fR;rw[this];omega
 rw[aI7,nB,h.len,<-E8];have e:dP (fun j=>2*upA X Y (E.getD j Γ)-((fR l j).x*(fR l j).y-(l.getD j Γ).x*(l.getD j Γ).y)) l.length=dP (fun j=>2*upA X Y (E.getD j Γ)) l.length:=by
  rw[sO,ht,Int.sub_zero]
 rw[<-e];refine dI fun j hj=>?_;have hu:=h.up j hj;have h1:=h.u j hj;have h2:=h.v j hj;unfold upA;generalize fR l j=q,l.getD j Γ=p,E.getD j Γ=s at *;by_cases c:s.up=ι
 .obtain⟨e1,e2,e3⟩:=h1 c;have hxx:p.x=q.x:=by rw[c]at hu;simpa using hu.symm
  rw[ip c,e1,e2,e3,hxx];grind
 .obtain⟨e1,e2,e3,e4⟩:=h2 (by simpa using c);rw[iN c,e4];grind
end
section
variable{X Y:Nat->Int}{m n:Nat}{l l2:List Sd}{E F:List Sg}
theorem xD{X:Nat->Int}{m:Nat}(h:∀i,i<m->X i<X (i+1))(hi:i<=m)(hj:j<=m):X i<=X j↔i<=j:=by
 have:=Cu h hj hi;omega
theorem R6.box(h:R6 X Y m n l E)(hx:∀i,i<m->X i<X (i+1))(hy:∀i,i<n->Y i<Y (i+1))(hj:j<l.length){x y:Int}(ho:(E.getD j Γ).on x y):
 0<=x/\x<=m/\0<=y/\y<=n/\DB (l.getD j Γ).x (fR l j).x<=X x.toNat/\X x.toNat<=DC (l.getD j Γ).x (fR l j).x/\DB (l.getD j Γ).y (fR l j).y<=Y y.toNat/\Y y.toNat<=DC (l.getD j Γ).y (fR l j).y:=by
 have hu:=h.up j hj;have hg:=h.grid _ (aN (by rw[h.len];exact hj) Γ:E.getD j Γ∈E);have h1:=h.u j hj;have h2:=h.v j hj;unfold DB DC;generalize fR l j=q,l.getD j Γ=p,E.getD j Γ=s at *;obtain⟨g1,g2,g3,g4,g5⟩:=hg;unfold Sg.on at ho;by_cases c:s.up=ι
 .obtain⟨e1,e2,e3⟩:=h1 c;obtain⟨b1,b2,b3⟩:=g4 c;obtain⟨rfl,hr⟩:=ho.1 c;have hxx:p.x=q.x:=by rw[c]at hu;simpa using hu.symm
  have m2:=xD hy (i:=s.a.toNat) (j:=y.toNat) oM oM;have m3:=xD hy (i:=y.toNat) (j:=s.b.toNat) oM oM;have m4:=xD hy (i:=s.b.toNat) (j:=y.toNat) oM oM;have m5:=xD hy (i:=y.toNat) (j:=s.a.toNat) oM oM;rw[e2]at m2 m5;rw[e3]at m3 m4;rw[e1,hxx];refine⟨oM,oM,oM,oM,?_,?_,?_,?_⟩<;>(repeat' split)<;>omega
 .have c':s.up=ν:=by simpa using c
  obtain⟨e1,e2,e3,e4⟩:=h2 c';obtain⟨b1,b2,b3⟩:=g5 c';obtain⟨rfl,hr⟩:=ho.2 c';have m2:=xD hx (i:=s.a.toNat) (j:=x.toNat) oM oM;have m3:=xD hx (i:=x.toNat) (j:=s.b.toNat) oM oM;have m4:=xD hx (i:=s.b.toNat) (j:=x.toNat) oM oM;have m5:=xD hx (i:=x.toNat) (j:=s.a.toNat) oM oM;rw[e2]at m2 m5;rw[e3]at m3 m4;rw[e1,e4];refine⟨oM,oM,oM,oM,?_,?_,?_,?_⟩<;>(repeat' split)<;>omega
theorem at0(h:R6 X Y m n l E)(h2:R6 X Y m n l2 F)(hx:∀i,i<m->X i<X (i+1))(hy:∀i,i<n->Y i<Y (i+1))(hi:i<l.length)(hk:k<l2.length){x y:Int}(ho:(E.getD i Γ).on x y)(hp:(F.getD k Γ).on x y):Me l i l2 k=ι:=by
 obtain⟨-,-,-,-,a1,a2,a3,a4⟩:=h.box hx hy hi ho;obtain⟨-,-,-,-,b1,b2,b3,b4⟩:=h2.box hx hy hk hp;unfold Me aD2;rw[decide_eq_true oM,decide_eq_true oM,decide_eq_true oM,decide_eq_true oM];rfl
theorem at1{f:Nat->List Sd}{g:Nat->List Sg}(hc:EO f N=ν)(hx:∀i,i<m->X i<X (i+1))(hy:∀i,i<n->Y i<Y (i+1))(he:∀r,r<N->R6 X Y m n (f r) (g r)){s:Nat}(hr:r<N)(hs:s<N)(hne:r≠s):Df (g r) (g s):=by
 have key:∀r s,r<s->s<N->Df (g r) (g s):=by
  intro r s hrs hs p hp q hq x y h1 h2;obtain⟨i,hi,rfl⟩:=List.mem_iff_getElem.1 hp;obtain⟨k,hk,rfl⟩:=List.mem_iff_getElem.1 hq;have ei:(g r).getD i Γ=(g r)[i]:=by simp[Ω,hi]
  have ek:(g s).getD k Γ=(g s)[k]:=by simp[Ω,hk]
  rw[<-ei]at h1;rw[<-ek]at h2;have U7:i<(f r).length:=by rw[<-(he r oM).len];exact hi
  have Yj:k<(f s).length:=by rw[<-(he s hs).len];exact hk
  have ht:=at0 (he r oM) (he s hs) hx hy U7 Yj h1 h2;have:=MH (f:=f) (N:=N) (r:=r) (i:=i) (s:=s) (k:=k) oM U7 hs oM Yj (by unfold Mf vh;rw[ht,decide_eq_false oM];rfl);rw[hc]at this;exact absurd this dD
 rcases Nat.lt_or_gt_of_ne hne with c|c
 .exact key r s c hs
 .exact fun p hp q hq x y h1 h2=>key s r c hr q hq p hp x y h2 h1
end
section
variable{X Y:Nat->Int}{m n:Nat}{l:List Sd}{E:List Sg}
theorem lp{n:Nat}(h:j<n):pre n ((j+1)%n)=j:=by
 unfold pre;by_cases c:j+1<n
 .rw[aT c,show j+1+n-1=j+n by omega,gQ,aT h]
 .rw[show j+1=n by omega,mY,bD,aT oM];omega
theorem at2{a:Int}:sgI a=0↔a=0:=by
 unfold sgI;(repeat' split)<;>omega
theorem kY(hs:pE l=ι):4<=l.length/\∀j,j<l.length->Dq l j*Dq l j+dY l j*dY l j=1/\UB l j≠0:=by
 unfold pE at hs;rw[aI,decide_eq_true_eq,bX]at hs;refine⟨hs.2,fun j hj=>?_⟩;have hb:xP l j=ν:=by
  cases hb:xP l j
  .rfl
  .have:=eF.2 ⟨j,hj,hb⟩;rw[hs.1]at this;exact absurd this dD
 unfold xP at hb;rw[jA,vS,decide_eq_true_eq,decide_eq_false_iff_not]at hb;exact hb
theorem Je{X:Nat->Int}{m:Nat}(h:∀i,i<m->X i<X (i+1)){a b:Int}(ha:0<=a)(hb:0<=b)(ha2:a<m+1)(hb2:b<m+1)(e:X a.toNat=X b.toNat):a=b:=by
 have h1:=xD h (i:=a.toNat) (j:=b.toNat) oM oM;have h2:=xD h (i:=b.toNat) (j:=a.toNat) oM oM;omega
theorem R6.kinds(h:R6 X Y m n l E)(hs:pE l=ι)(hj:j<l.length):((E.getD j Γ).up=ι->Dq l j=0/\dY l j≠0)/\((E.getD j Γ).up=ν->Dq l j≠0/\dY l j=0):=by
 have hu:=h.up j hj;obtain⟨h1,-⟩:=(kY hs).2 j hj;constructor
 .intro c;rw[c]at hu;have e:(l.getD j Γ).x=(fR l j).x:=by simpa using hu.symm
  have z:Dq l j=0:=by unfold Dq;rw[e,sL];rfl
  refine⟨z,fun w=>?_⟩;rw[z,w]at h1;omega
 .intro c;rw[c]at hu;have e:(l.getD j Γ).x≠(fR l j).x:=by simpa using hu.symm
  have e4:=(h.v j hj c).2.2.2;refine⟨fun w=>?_,?_⟩
  .have:=at2.1 w;omega
  .unfold dY;rw[e4,sL];rfl
theorem R6.alt(h:R6 X Y m n l E)(hs:pE l=ι)(hj:j<l.length):(E.getD j Γ).up≠(E.getD ((j+1)%l.length) Γ).up:=by
 have hk:(j+1)%l.length<l.length:=aV _ oM;have ht:=((kY hs).2 _ hk).2;unfold UB at ht;rw[lp hj]at ht;intro e;obtain⟨a1,a2⟩:=h.kinds hs hj;obtain⟨b1,b2⟩:=h.kinds hs hk;cases c:(E.getD j Γ).up
 .rw[c]at e;rw[(a2 c).2,(b2 e.symm).2]at ht;simp at ht
 .rw[c]at e;rw[(a1 c).1,(b1 e.symm).1]at ht;simp at ht
theorem R6.ring(h:R6 X Y m n l E)(hx:∀i,i<m->X i<X (i+1))(hy:∀i,i<n->Y i<Y (i+1))(hs:pE l=ι):oZ E:=by
 intro j hj;rw[h.len]at hj|-;have hk:(j+1)%l.length<l.length:=aV _ oM;have ha:=h.alt hs hj;have hn:fR l j=l.getD ((j+1)%l.length) Γ:=rfl;have g1:=h.grid _ (aN (by rw[h.len];exact hj) Γ:E.getD j Γ∈E);have g2:=h.grid _ (aN (by rw[h.len];exact hk) Γ:E.getD ((j+1)%l.length) Γ∈E);have u1:=h.u j hj;have v1:=h.v j hj;have u2:=h.u _ hk;have v2:=h.v _ hk;have hu:=h.up j hj;rw[<-hn]at u2 v2;generalize E.getD ((j+1)%l.length) Γ=q,E.getD j Γ=s at *;obtain⟨a1,a2,a3,a4,a5⟩:=g1;obtain⟨b1,b2,b3,b4,b5⟩:=g2;unfold Sg.en Sg.st;by_cases c:s.up=ι
 .have c2:q.up=ν:=by rw[c]at ha;simpa using ha.symm
  obtain⟨e1,e2,e3⟩:=u1 c;obtain⟨d1,d2,d3,d4⟩:=v2 c2;obtain⟨r1,r2,r3⟩:=a4 c;obtain⟨t1,t2,t3⟩:=b5 c2;have hxx:(l.getD j Γ).x=(fR l j).x:=by rw[c]at hu;simpa using hu.symm
  rw[ip c,iN (by rw[c2];decide),Je hx a1 b2 r1 t2 (by rw[e1,d2,hxx]),Je hy a3 b1 r3 t1 (by rw[e3,d1])]
 .have c':s.up=ν:=by simpa using c
  have c2:q.up=ι:=by rw[c']at ha;simpa using ha.symm
  obtain⟨e1,e2,e3,e4⟩:=v1 c';obtain⟨d1,d2,d3⟩:=u2 c2;obtain⟨r1,r2,r3⟩:=a5 c';obtain⟨t1,t2,t3⟩:=b4 c2;rw[iN c,ip c2,Je hx a3 b1 r3 t1 (by rw[e3,d1]),Je hy a1 b2 r1 t2 (by rw[e1,d2,e4])]
theorem lu{q:Sg}(ha:s.up≠q.up)(he:s.en=q.st){x y:Int}(h1:s.on x y)(h2:q.on x y):(x,y)=s.en:=by
 unfold Sg.en Sg.st at *;unfold Sg.on at h1 h2;by_cases c:s.up=ι
 .have c2:q.up=ν:=by rw[c]at ha;simpa using ha.symm
  have a:=(h1.1 c).1;have b:=(h2.2 c2).1;rw[ip c,iN (by rw[c2];decide)]at he;injection he with e1 e2;rw[ip c,a,b,e2]
 .have c':s.up=ν:=by simpa using c
  have c2:q.up=ι:=by rw[c']at ha;simpa using ha.symm
  have a:=(h1.2 c').1;have b:=(h2.1 c2).1;rw[iN c,ip c2]at he;injection he with e1 e2;rw[iN c,a,b,e1]
theorem yf(h:R6 X Y m n l E)(hx:∀i,i<m->X i<X (i+1))(hy:∀i,i<n->Y i<Y (i+1))(hs:pE l=ι)(ht:∀i k,i<k->k<l.length->k≠i+1->¬(i=0/\k+1=l.length)->Me l i l k=ν):iU E:=by
 have hr:=h.ring hx hy hs;have h4:=(kY hs).1;have nb:∀i k,i<k->k<l.length->∀x y,(E.getD i Γ).on x y->(E.getD k Γ).on x y->(k=(i+1)%E.length/\(x,y)=(E.getD i Γ).en)\/(i=(k+1)%E.length/\(x,y)=(E.getD k Γ).en):=by
  intro i k hik hk x y h1 h2;have hto:=at0 h h hx hy oM hk h1 h2;by_cases c:k=i+1
  .left;have e:k=(i+1)%E.length:=by rw[h.len,aT oM];exact c
   have GG:=hr i (by rw[h.len];omega);have hal:=h.alt hs (j:=i) oM;rw[<-h.len]at hal;rw[<-e]at GG hal;exact⟨e,lu hal GG h1 h2⟩
  .by_cases c2:i=0/\k+1=l.length
   .right;have e:i=(k+1)%E.length:=by rw[h.len,c2.2,mY];exact c2.1
    have GG:=hr k (by rw[h.len];omega);have hal:=h.alt hs (j:=k) oM;rw[<-h.len]at hal;rw[<-e]at GG hal;exact⟨e,lu hal GG h2 h1⟩
   .rw[ht i k hik hk c c2]at hto;exact absurd hto dD
 refine⟨hr,by rw[h.len];omega,fun j hj=>by rw[h.len]at hj|-;exact h.alt hs hj,fun j hj e=>?_,fun i j hi hj Le x y h1 h2=>?_⟩
 .rw[h.len]at hj;obtain⟨k1,k2⟩:=h.kinds hs hj;cases c:(E.getD j Γ).up
  .obtain⟨-,e2,e3,-⟩:=h.v j hj c;rw[e,e3]at e2;refine(k2 c).1 ?_;unfold Dq;rw[e2,sL];rfl
  .obtain⟨-,e2,e3⟩:=h.u j hj c;rw[e,e3]at e2;refine(k1 c).2 ?_;unfold dY;rw[e2,sL];rfl
 .rcases Nat.lt_or_gt_of_ne Le with c|c
  .exact nb i j c (by rw[<-h.len];exact hj) x y h1 h2
  .exact(nb j i c (by rw[<-h.len];exact hi) x y h2 h1).symm
end
section
variable{X Y:Nat->Int}{m n:Nat}{l:List Sd}{E:List Sg}{f:Nat->List Sd}{ls:List (List Sg)}
theorem R6.corner(h:R6 X Y m n l E)(h0:0<l.length):0<=(E.getD 0 Γ).px 0/\(E.getD 0 Γ).px 0<=m/\0<=(E.getD 0 Γ).py 0/\(E.getD 0 Γ).py 0<=n/\X ((E.getD 0 Γ).px 0).toNat=(l.getD 0 Γ).x/\Y ((E.getD 0 Γ).py 0).toNat=(l.getD 0 Γ).y:=by
 have hg:=h.grid _ (aN (by rw[h.len];exact h0) Γ:E.getD 0 Γ∈E);have h1:=h.u 0 h0;have h2:=h.v 0 h0;have ep:=DI (E.getD 0 Γ);generalize E.getD 0 Γ=s at *;obtain⟨g1,g2,g3,g4,g5⟩:=hg;unfold Sg.st at ep;by_cases c:s.up=ι
 .obtain⟨e1,e2,-⟩:=h1 c;obtain⟨b1,b2,-⟩:=g4 c;rw[ip c]at ep;injection ep with p1 p2;rw[p1,p2];exact⟨g1,oM,g2,oM,e1,e2⟩
 .obtain⟨e1,e2,-⟩:=h2 (by simpa using c);obtain⟨b1,b2,-⟩:=g5 (by simpa using c);rw[iN c]at ep;injection ep with p1 p2;rw[p1,p2];exact⟨g2,oM,g1,oM,e2,e1⟩
theorem yg(h0:0 < ls.length)(hx:∀ i,i < m->X i < X (i+1))(hy:∀ i,i < n->Y i < Y (i+1))(he:∀ r,r < ls.length->R6 X Y m n (f r) (ls.getD r []))(hs:∀ r,r < ls.length->pE (f r)=ι)(hc:EO f ls.length=ν)(hp:Ba f ls.length=ι):Dg ls (m+1) (n+1):=by
 have sim:∀ r,r < ls.length->iU (ls.getD r []):=fun r hr=>by
  refine yf (he r hr) hx hy (hs r hr) fun i k hik hk n1 n2=>?_;cases ht:Me (f r) i (f r) k
  .rfl
  .have:=MH (f:=f) (N:=ls.length) (r:=r) (i:=i) (s:=r) (k:=k) hr oM hr (θ _) hk (by
    unfold Mf vh;rw [ht,decide_eq_false (show ¬ k<=i by omega),decide_eq_false (show ¬ k=i+1 from n1)];by_cases z:i=0
    .rw [decide_eq_false (show ¬ k+1=(f r).length from fun w=>n2 ⟨z,w⟩)];simp
    .rw [decide_eq_false z];simp)
   rw [hc] at this;exact absurd this dD
 have gr:∀ r,r < ls.length->∀ s∈ls.getD r [],iT (m+1) (n+1) s:=fun r hr=>(he r hr).grid;unfold Ba at hp;rw [aI,bX,bX,decide_eq_false_iff_not] at hp;obtain⟨gz,hp1⟩:=hp;have bad:∀ r,0 < r->r < ls.length->AQ f ls.length r=ν:=fun r h1 h2=>by
  cases hb:AQ f ls.length r
  .rfl
  .have:=(eF (p:=fun r=>decide (1<=r) && AQ f ls.length r)).2 ⟨r,h2,(by rw [decide_eq_true (show 1<=r from h1),hb];rfl:(decide (1<=r) && AQ f ls.length r)=ι)⟩;rw [hp1] at this;exact absurd this dD
 have pl:∀ r,0 < r->r < ls.length->rZ (f r) (f r).length < 0/\∀ s,s < ls.length->s≠r->I8 (f s) ((f r).getD 0 Γ).x ((f r).getD 0 Γ).y=decide (s=0):=fun r h1 h2=>by
  have hb:=bad r h1 h2;unfold AQ at hb;rw [jA,decide_eq_false_iff_not] at hb;refine⟨oM,fun s xZ hs2=>?_⟩;cases hq:GE f r s
  .unfold GE at hq;rw [decide_eq_false hs2] at hq;simpa using hq
  .have:=eF.2 ⟨s,xZ,hq⟩;rw [hb.2] at this;exact absurd this dD
 have cn:∀ r s,r < ls.length->s < ls.length->bF (ls.getD s []) (((ls.getD r []).getD 0 Γ).px 0) (((ls.getD r []).getD 0 Γ).py 0) % 2=if I8 (f s) ((f r).getD 0 Γ).x ((f r).getD 0 Γ).y=ι then 1 else 0:=fun r s hr xZ=>by
  obtain⟨a1,a2,a3,a4,a5,a6⟩:=(he r hr).corner (by have:=(kY (hs r hr)).1;omega);have:=(he s xZ).ins hx hy (i:=(((ls.getD r []).getD 0 Γ).px 0).toNat) (k:=(((ls.getD r []).getD 0 Γ).py 0).toNat) oM oM;rw [a5,a6,fE a1,fE a3] at this;exact this
 have right:∀ r,0 < r->r < ls.length->DU (ls.getD r []) ((ls.getD r []).getD 0 Γ) 0=0:=fun r h1 h2=>by
  have ar:=(he r h2).area;have sa:=((sim r h2).area X Y (gr r h2) hx hy).1;have sd:=(sim r h2).side (gr r h2);have:=(pl r h1 h2).1;rcases sd with e | e
  .exact e
  .have:=sa e;omega
 refine aI5 sim (fun s xZ=>?_) (fun r q hr hq hne=>at1 (g:=fun r=>ls.getD r []) hc hx hy he hr hq hne) h0 ?_ right (fun r h1 h2=>?_) (fun r q h1 h2 h3 h4 hne=>?_)
 .obtain⟨l1,Vf,Ki⟩:=List.mem_flatten.1 xZ;obtain⟨r,hr,rfl⟩:=List.mem_iff_getElem.1 Vf;exact gr r hr s (by rw [show ls.getD r []=ls[r] by simp [Ω,hr]];exact Ki)
 .have ar:=(he 0 h0).area;have sa:=((sim 0 h0).area X Y (gr 0 h0) hx hy).2;have sd:=(sim 0 h0).side (gr 0 h0);rcases sd with e | e
  .have:=sa e;omega
  .exact e
 .have h5:=cn r 0 h2 h0;rw [(pl r h1 h2).2 0 h0 oM,ip dD] at h5;omega
 .have h5:=cn r q h3 h4;rw [(pl r h1 h3).2 q h4 (Ne.symm hne),decide_eq_false (show ¬ q=0 by omega),iN dD] at h5;obtain⟨a1,a2,a3,a4,a5,a6⟩:=(he r h3).corner (by have:=(kY (hs r h3)).1;omega);have hv:=(sim q h4).vals (gr q h4) (((ls.getD r []).getD 0 Γ).py 0) ((((ls.getD r []).getD 0 Γ).px 0).toNat+1);rw [show(((((ls.getD r []).getD 0 Γ).px 0).toNat+1:Nat):Int) - 1=((ls.getD r []).getD 0 Γ).px 0 by omega,right q h2 h4] at hv;omega
end
end
section
open Go Go.Lib
theorem zJ{l:List Sd}(hs:pE l=ι)(hk:k<l.length):
 ((l.getD k Γ).x=(fR l k).x/\(l.getD k Γ).y≠(fR l k).y/\GF (xV (l.getD k Γ) (fR l k))=ι/\Yy (xV (l.getD k Γ) (fR l k))=if(l.getD k Γ).y<(fR l k).y then -1 else 1)\/
 ((l.getD k Γ).y=(fR l k).y/\(l.getD k Γ).x≠(fR l k).x/\GF (xV (l.getD k Γ) (fR l k))=ν/\Yy (xV (l.getD k Γ) (fR l k))=if(l.getD k Γ).x<(fR l k).x then 1 else -1):=by
 obtain⟨h1,-⟩:=(kY hs).2 k hk;unfold Dq dY at h1;generalize fR l k=t,l.getD k Γ=s at *;rcases FC (t.x-s.x)with⟨a,a'⟩|⟨a,a'⟩|⟨a,a'⟩<;>rcases FC (t.y-s.y)with⟨b,b'⟩|⟨b,b'⟩|⟨b,b'⟩<;>rw[a,b]at h1<;>first |(exfalso;revert h1;decide)|skip
 .refine .inr ⟨oM,oM,?_,?_⟩
  .unfold xV;rw[iN oM,iN oM,ip oM];rfl
  .unfold xV;rw[iN (show¬s.x<t.x by omega),iN oM,ip oM,iN oM];rfl
 .refine .inl ⟨oM,oM,?_,?_⟩
  .unfold xV;rw[iN oM,iN oM,iN oM];rfl
  .unfold xV;rw[iN oM,iN (show¬s.y<t.y by omega),iN oM,iN oM];rfl
 .refine .inl ⟨oM,oM,?_,?_⟩
  .unfold xV;rw[iN oM,ip oM];rfl
  .unfold xV;rw[iN oM,ip oM,ip oM];rfl
 .refine .inr ⟨oM,oM,?_,?_⟩
  .unfold xV;rw[ip oM];rfl
  .unfold xV;rw[ip oM,ip oM];rfl
section
variable{rs:List Rg}{N:Nat}(hl:rs.length=N)(xC:∀r,r<N->pE (aF rs r)=ι){r k:Nat}(hr:r<N)(hk:k<(aF rs r).length)
abbrev bP(rs:List Rg)(N r k:Nat):Pt:=ao4 (cK rs) (fP (aF rs) N) (bY (aF rs) r) (aF rs r).length k
theorem mg:(bP rs N r k).side=((bY (aF rs) r+k:Nat):Int)/\(bP rs N r k).side.toNat=bY (aF rs) r+k:=⟨rfl,rfl⟩
include hl hr hk
theorem vE:(fP (aF rs) N).getD (bP rs N r k).side.toNat Γ=Pf ((aF rs r).getD k Γ) (fR (aF rs r) k):=vC _ _ hr hk
theorem mh:(bP rs N r k).fr=aO (((if GF (xV ((aF rs r).getD k Γ) (fR (aF rs r) k))=ι then((aF rs r).getD k Γ).y else((aF rs r).getD k Γ).x:Int)):Rat):=by
 show aO ((Cm (cK rs) (fP (aF rs) N) (bY (aF rs) r+k) (bY (aF rs) r+k):Int):Rat)=_;unfold Cm;rw[vC _ _ hr hk,zI oM hk];rfl
theorem mj:(bP rs N r k).en=aO (((if GF (xV ((aF rs r).getD k Γ) (fR (aF rs r) k))=ι then(fR (aF rs r) k).y else(fR (aF rs r) k).x:Int)):Rat):=by
 have hm:(k+1)%(aF rs r).length<(aF rs r).length:=aV _ oM;show aO ((Cm (cK rs) (fP (aF rs) N) (bY (aF rs) r+k) (bY (aF rs) r+(k+1)%(aF rs r).length):Int):Rat)=_;unfold Cm;rw[vC _ _ hr hk,zI oM hm];rfl
theorem mm:(bv9 (fP (aF rs) N)).getD (bP rs N r k).side.toNat []=aO (((if GF (xV ((aF rs r).getD k Γ) (fR (aF rs r) k))=ι then((aF rs r).getD k Γ).x else((aF rs r).getD k Γ).y:Int)):Rat):=by
 have h1:=KI hr hk;have h2:=vC (aF rs) N hr hk;unfold bv9;rw[mg.2,Ω,oP,aS (by rw[nG];exact h1)];rw[Ω,aS (by rw[nG];exact h1),bK]at h2;rw[Option.map_some,bK,h2];rfl
theorem zK:bA (fP (aF rs) N) (bv9 (fP (aF rs) N)) (bP rs N r k)=⟨aO ((((aF rs r).getD k Γ).x:Int):Rat),aO ((((aF rs r).getD k Γ).y:Int):Rat)⟩:=by
 unfold bA;rw[vE hl hr hk,mm hl hr hk,mh hl hr hk];unfold Pf;cases GF (xV ((aF rs r).getD k Γ) (fR (aF rs r) k))<;>rfl
end
theorem aI8(s t):GP (Pf s t)=if GF (xV s t)=ι then -Yy (xV s t)else Yy (xV s t):=rfl
theorem bk9(a b:Int)(ha:a.natAbs<10^11)(hb:b.natAbs<10^11):(fQ (aO (a:Rat)) (aO (b:Rat))).1=if a<b then -1 else if b<a then 1 else 0:=by
 rw[(Ia ha).cmp (Ia hb),iI,iI];show mT _ _=_;unfold mT;simp only[YI]
section
variable{rs:List Rg}{N:Nat}(hl:rs.length=N)(hC:∀r,C8 (aF rs r))(xC:∀r,r<N->pE (aF rs r)=ι){r k:Nat}(hr:r<N)(hk:k<(aF rs r).length)
include hl hC xC hr hk
theorem at3:0<uA (fP (aF rs) N) (bP rs N r k):=by
 have h1:=hC r k;have hm:(k+1)%(aF rs r).length<(aF rs r).length:=aV _ oM;have h2:=hC r ((k+1)%(aF rs r).length);have e2:(aF rs r).getD ((k+1)%(aF rs r).length) Γ=fR (aF rs r) k:=rfl;rw[e2]at h2;unfold uA;rw[vE hl hr hk,mh hl hr hk,mj hl hr hk,aI8];rcases zJ (xC r hr) hk with⟨a,b,c,d⟩|⟨a,b,c,d⟩
 .rw[c,ip rfl,ip rfl,ip rfl,d,bk9 _ _ oM oM];(repeat' split)<;>omega
 .rw[c,iN dD,iN dD,iN dD,d,bk9 _ _ oM oM];(repeat' split)<;>omega
theorem at4:GF (xV ((aF rs r).getD k Γ) (fR (aF rs r) k))≠GF (xV ((aF rs r).getD ((k+1)%(aF rs r).length) Γ) (fR (aF rs r) ((k+1)%(aF rs r).length))):=by
 have hm:(k+1)%(aF rs r).length<(aF rs r).length:=aV _ oM;have ht:=((kY (xC r hr)).2 _ hm).2;unfold UB at ht;rw[lp hk]at ht;unfold Dq dY at ht;rcases zJ (xC r hr) hk with⟨a,b,c,-⟩|⟨a,b,c,-⟩<;>rcases zJ (xC r hr) hm with⟨a2,b2,c2,-⟩|⟨a2,b2,c2,-⟩<;>rw[c,c2]<;>first |decide|skip
 .exfalso;rw[a,a2,sL,sL]at ht;exact ht (by simp[sgI])
 .exfalso;rw[a,a2,sL,sL]at ht;exact ht (by simp[sgI])
theorem aI9:AH (fP (aF rs) N) (bv9 (fP (aF rs) N)) (bP rs N r k) (bP rs N r ((k+1)%(aF rs r).length))=ι:=by
 have hm:(k+1)%(aF rs r).length<(aF rs r).length:=aV _ oM;have ha:=at4 hl hC xC hr hk;have e2:(aF rs r).getD ((k+1)%(aF rs r).length) Γ=fR (aF rs r) k:=rfl;unfold AH;rw[vE hl hr hk,vE hl hr hm,mj hl hr hk,mh hl hr hm,mm hl hr hk,mm hl hr hm];have hu:∀s t:Sd,(Pf s t).up=GF (xV s t):=fun _ _=>rfl;rw[hu,hu,ip (by simpa using ha),aI,beq_iff_eq,beq_iff_eq];rw[e2]at ha|-;rcases zJ (xC r hr) hk with⟨a,b,c,-⟩|⟨a,b,c,-⟩
 .rw[c]at ha|-;have c2:GF (xV (fR (aF rs r) k) (fR (aF rs r) ((k+1)%(aF rs r).length)))=ν:=by
   cases h:GF (xV (fR (aF rs r) k) (fR (aF rs r) ((k+1)%(aF rs r).length)))
   .rfl
   .rw[h]at ha;exact absurd rfl ha
  rw[c2,ip rfl,iN dD,iN dD,ip rfl,a];exact⟨rfl,rfl⟩
 .rw[c]at ha|-;have c2:GF (xV (fR (aF rs r) k) (fR (aF rs r) ((k+1)%(aF rs r).length)))=ι:=by
   cases h:GF (xV (fR (aF rs r) k) (fR (aF rs r) ((k+1)%(aF rs r).length)))
   .rw[h]at ha;exact absurd rfl ha
   .rfl
  simp only[c2,if_true,if_false,aK];rw[a];exact⟨trivial,rfl⟩
omit hk
def at5(rs:List Rg)(N r:Nat)(ps:List Pt):Prop:=ps.length=(aF rs r).length/\∃m,∀i,i<(aF rs r).length->ps.getD i Γ=bP rs N r ((i+m)%(aF rs r).length)
theorem yh(h:at5 rs N r ps)(right):oH (fP (aF rs) N) (bv9 (fP (aF rs) N)) ps right =ι:=by
 obtain⟨h1,m,h2⟩:=h;have h4:=(kY (xC r hr)).1;have hm:∀i,i%(aF rs r).length<(aF rs r).length:=fun i=>aV _ oM;unfold oH;rw[h1,aI,aI,decide_eq_true_eq,bX,bX];refine⟨⟨h4,bJ.2 fun i hi=>?_⟩,bJ.2 fun i hi=>?_⟩
 .unfold Za;rw[h2 i hi];have hlt:=KI hr (hm (i+m));have ha:=at3 hl hC xC hr (hm (i+m));have hs:=(mg (rs:=rs) (N:=N) (r:=r) (k:=(i+m)%(aF rs r).length)).1;unfold BN;rw[hs,nG,decide_eq_true oM,decide_eq_true oM,decide_eq_false oM,decide_eq_false oM,Bk];rfl
 .unfold Zb;have e:((i+1)%(aF rs r).length+m)%(aF rs r).length=((i+m)%(aF rs r).length+1)%(aF rs r).length:=by
   rw[eV,eV];congr 1;omega
  rw[h1,h2 i hi,h2 _ (hm (i+1)),e,aI9 hl hC xC hr (hm (i+m))];rfl
end
section
variable{rs:List Rg}{N:Nat}(hl:rs.length=N)(hC:∀r,C8 (aF rs r))(DR:C8 (cK rs))(xC:∀r,r<N->pE (aF rs r)=ι)
def Cv(rs:List Rg)(N:Nat):List (List Pt):=sV (fP (aF rs) N) (bv9 (fP (aF rs) N)) (AS (aF rs) (cK rs) (fP (aF rs) N) N)
include xC
theorem Xy(h:ps∈Cv rs N):∃r,r<N/\at5 rs N r ps:=by
 unfold Cv sV at h;obtain⟨qs,QJ,rfl⟩:=List.mem_map.1 ((uh _ _).1 h);obtain⟨r,hr,rfl⟩:=FE QJ;have h4:=(kY (xC r hr)).1;have hlen:=sX (cK rs) (fP (aF rs) N) (bY (aF rs) r) (aF rs r).length (aF rs r).length;refine⟨r,hr,by rw[vA,hlen],gO (fP (aF rs) N) (bv9 (fP (aF rs) N)) (tL (cK rs) (fP (aF rs) N) (bY (aF rs) r) (aF rs r).length (aF rs r).length) (aF rs r).length,fun i hi=>?_⟩;rw[Dh _ oM i oM,hlen];unfold tL;exact rJ _ (aV _ oM)
include hl hC
theorem at6(h:aZ.map Lp.ps=Cv rs N)(right):oI (fP (aF rs) N) (bv9 (fP (aF rs) N)) aZ right =ι:=by
 unfold oI;rw[bX];refine bJ.2 fun i hi=>?_;have hm:(aZ.getD i Γ).ps∈Cv rs N:=by rw[<-h];exact dC (aN hi Γ)
 obtain⟨r,hr,hR⟩:=Xy xC hm;unfold Zd;rw[yh hl hC xC hr hR right];rfl
include DR
theorem aJ0(h:aZ.map Lp.ps=Cv rs N)(hcn:bY (aF rs) N<=24):Dw aZ:=by
 intro l hlm;obtain⟨r,hr,h1,m,h2⟩:=Xy xC (by rw[<-h];exact dC hlm);have hcr:bY (aF rs) (r+1)<=bY (aF rs) N:=sW hr;rw[bY]at hcr;refine⟨oM,fun p hp=>?_⟩;obtain⟨i,hi,rfl⟩:=List.mem_iff_getElem.1 hp;have e:=h2 i oM;rw[Ω,aS hi,bK]at e;rw[e];refine⟨Ia ?_,Ia ?_⟩
 .have:=ap (fs:=fP (aF rs) N) DR (bY (aF rs) r+(i+m)%(aF rs r).length) (bY (aF rs) r+(i+m)%(aF rs r).length);omega
 .have:=ap (fs:=fP (aF rs) N) DR (bY (aF rs) r+(i+m)%(aF rs r).length) (bY (aF rs) r+((i+m)%(aF rs r).length+1)%(aF rs r).length);omega
end
def KM(rs:List Rg)(N:Nat):List Lp:=(cI N).map fun r=>⟨δ,0,tL (cK rs) (fP (aF rs) N) (bY (aF rs) r) (aF rs r).length (aF rs r).length⟩
theorem R7(f:Nat->List Sd)(ss fs N):AS f ss fs N=(cI N).map fun r=>tL ss fs (bY f r) (f r).length (f r).length:=by
 induction N with
 |zero=>rfl
 |succ N ih=>rw[AS,ih,sB,dV];rfl
theorem bo(rs N):(KM rs N).map Lp.ps=AS (aF rs) (cK rs) (fP (aF rs) N) N:=by
 unfold KM;rw[R7,eH];rfl
theorem MV(rs N):(KM rs N).length=N:=by simp[KM]
theorem FG(rs)(hr:r<N):((KM rs N).getD r Γ).ps=tL (cK rs) (fP (aF rs) N) (bY (aF rs) r) (aF rs r).length (aF rs r).length:=by
 unfold KM;rw[rJ _ hr]
theorem OC(hk:k<(aF rs r).length):(tL (cK rs) (fP (aF rs) N) (bY (aF rs) r) (aF rs r).length (aF rs r).length).getD k Γ=bP rs N r k:=rJ _ hk
theorem Jf{p:Pt}(h:p∈(KM rs N).flatMap Lp.ps):∃r k,r<N/\k<(aF rs r).length/\p=bP rs N r k:=by
 obtain⟨l,hl,hp⟩:=List.mem_flatMap.1 h;unfold KM at hl;obtain⟨r,hr,rfl⟩:=List.mem_map.1 hl;obtain⟨k,hk,rfl⟩:=List.mem_map.1 hp;exact⟨r,k,List.mem_range.1 hr,List.mem_range.1 hk,rfl⟩
theorem at7(hr:r<N)(hk:k<(aF rs r).length):bP rs N r k∈(KM rs N).flatMap Lp.ps:=by
 refine List.mem_flatMap.2 ⟨_,aN (i:=r) (by rw[MV];exact hr) Γ,?_⟩;rw[FG rs hr];exact List.mem_map.2 ⟨k,List.mem_range.2 hk,rfl⟩
theorem yi(fs at' ps):(mU fs at' ps).Perm ps:=by
 unfold mU;refine List.perm_append_comm.trans ?_;rw[yK]
theorem FH(fs:List Fr)(at':List (List UInt8))(L:List (List Pt)):(L.map (mU fs at')).flatten.Perm L.flatten:=by
 induction L with
 |nil=>exact .refl _
 |cons l L ih=>rw[fN,jP,jP];exact(yi fs at' l).append ih
section
variable{rs:List Rg}{N:Nat}(hl:rs.length=N)(LH:0<N)(hC:∀r,C8 (aF rs r))(DR:C8 (cK rs))(xC:∀r,r<N->pE (aF rs r)=ι)(hcr:EO (aF rs) N=ν)(CW:Ba (aF rs) N=ι)
abbrev gX(rs:List Rg)(N:Nat):List (List UInt8):=Cg (fP (aF rs) N) (bv9 (fP (aF rs) N)) (KM rs N)
abbrev gY(rs:List Rg)(N:Nat):List (List UInt8):=Ch (fP (aF rs) N) (bv9 (fP (aF rs) N)) (KM rs N)
def vZ(xs:List (List UInt8))(i:Nat):Int:=(bZ (xs.getD i [])).num
include hl hC DR
theorem Xz{p:Pt}(h:p∈(KM rs N).flatMap Lp.ps):rX (fP (aF rs) N) (bv9 (fP (aF rs) N)) p:=by
 obtain⟨r,k,hr,hk,rfl⟩:=Jf h;exact ao6 DR hC hr hk
theorem bp:nX (gX rs N)/\∀z,z∈gX rs N↔∃r k,r<N/\k<(aF rs r).length/\z=aO ((((aF rs r).getD k Γ).x:Int):Rat):=by
 obtain⟨a,b⟩:=gR (ds:=((KM rs N).flatMap Lp.ps).map fun p=>(bA (fP (aF rs) N) (bv9 (fP (aF rs) N)) p).x) fun s hs=>by
  obtain⟨p,hp,rfl⟩:=List.mem_map.1 hs;exact(Xz hl hC DR hp).x
 refine⟨a,fun z=>(b z).trans ?_⟩;constructor
 .intro h;obtain⟨p,hp,rfl⟩:=List.mem_map.1 h;obtain⟨r,k,hr,hk,rfl⟩:=Jf hp;exact⟨r,k,hr,hk,by rw[zK hl hr hk]⟩
 .rintro⟨r,k,hr,hk,rfl⟩;exact List.mem_map.2 ⟨_,at7 hr hk,by rw[zK hl hr hk]⟩
theorem bq:nX (gY rs N)/\∀z,z∈gY rs N↔∃r k,r<N/\k<(aF rs r).length/\z=aO ((((aF rs r).getD k Γ).y:Int):Rat):=by
 obtain⟨a,b⟩:=gR (ds:=((KM rs N).flatMap Lp.ps).map fun p=>(bA (fP (aF rs) N) (bv9 (fP (aF rs) N)) p).y) fun s hs=>by
  obtain⟨p,hp,rfl⟩:=List.mem_map.1 hs;exact(Xz hl hC DR hp).y
 refine⟨a,fun z=>(b z).trans ?_⟩;constructor
 .intro h;obtain⟨p,hp,rfl⟩:=List.mem_map.1 h;obtain⟨r,k,hr,hk,rfl⟩:=Jf hp;exact⟨r,k,hr,hk,by rw[zK hl hr hk]⟩
 .rintro⟨r,k,hr,hk,rfl⟩;exact List.mem_map.2 ⟨_,at7 hr hk,by rw[zK hl hr hk]⟩
omit hl hC DR
theorem R8{n:Int}(h:aO (n:Rat)∈xs):vZ xs (oK xs (aO (n:Rat)))=n:=by
 unfold vZ;rw[pB h,iI,vK]
theorem mn(ha:nX xs)(hi:∀z∈xs,∃n:Int,z=aO (n:Rat)):∀i,i<xs.length-1->vZ xs i<vZ xs (i+1):=fun i h=>by
 have h1:=(List.pairwise_iff_getElem.1 ha) i (i+1) oM oM oM
 obtain⟨a,ea⟩:=hi _ (fJ (h:=show i<xs.length by omega))
 obtain⟨b,eb⟩:=hi _ (fJ (h:=show i+1<xs.length by omega))
 unfold vZ
 rw[Ω,Ω,aS oM,aS oM,bK,bK]
 rw[ea,eb,iI,iI,YI]at h1
 rw[ea,eb,iI,iI,vK,vK]
 exact h1
include hl hC DR xC
theorem aP6(hr:r<N)(hk:k<(aF rs r).length):pV (fP (aF rs) N) (bv9 (fP (aF rs) N)) (gX rs N) (gY rs N) (bP rs N r k):=by
 have hm:(k+1)%(aF rs r).length<(aF rs r).length:=aV _ oM;have e2:(aF rs r).getD ((k+1)%(aF rs r).length) Γ=fR (aF rs r) k:=rfl;have hx:=(bp hl hC DR).2;have hy:=(bq hl hC DR).2;refine⟨⟨_,rfl,by rw[nG];exact KI hr hk⟩,?_,?_,?_,?_,Int.le_of_lt (at3 hl hC xC hr hk)⟩
 .rw[zK hl hr hk];exact(hx _).2 ⟨r,k,hr,hk,rfl⟩
 .rw[zK hl hr hk];exact(hy _).2 ⟨r,k,hr,hk,rfl⟩
 .rw[vE hl hr hk,mj hl hr hk];show _∈if GF (xV ((aF rs r).getD k Γ) (fR (aF rs r) k))=ι then gY rs N else gX rs N;by_cases c:GF (xV ((aF rs r).getD k Γ) (fR (aF rs r) k))=ι
  .rw[ip c,ip c];exact(hy _).2 ⟨r,_,hr,hm,by rw[e2]⟩
  .rw[iN c,iN c];exact(hx _).2 ⟨r,_,hr,hm,by rw[e2]⟩
 .rw[vE hl hr hk];show Yy _=1\/Yy _= -1;unfold Yy;split
  .exact .inl rfl
  .exact .inr rfl
theorem aY8(hr:r<N):R6 (vZ (gX rs N)) (vZ (gY rs N)) ((gX rs N).length-1) ((gY rs N).length-1) (aF rs r) ((eC (fP (aF rs) N) (bv9 (fP (aF rs) N)) (gX rs N) (gY rs N) (KM rs N)).getD r []):=by
 have hx:=(bp hl hC DR).2;have hy:=(bq hl hC DR).2;have hE:∀j,j<(aF rs r).length->((eC (fP (aF rs) N) (bv9 (fP (aF rs) N)) (gX rs N) (gY rs N) (KM rs N)).getD r []).getD j Γ=eP (fP (aF rs) N) (bv9 (fP (aF rs) N)) (gX rs N) (gY rs N) (bP rs N r j):=fun j hj=>by
  rw[iM,FG rs hr,kX _ _ (by rw[sX];exact hj),OC hj]
 have hlen:((eC (fP (aF rs) N) (bv9 (fP (aF rs) N)) (gX rs N) (gY rs N) (KM rs N)).getD r []).length=(aF rs r).length:=by rw[iM,FG rs hr,υ,sX]
 have hm:∀j,j<(aF rs r).length->(j+1)%(aF rs r).length<(aF rs r).length:=fun j hj=>aV _ oM;have mx:∀j,j<(aF rs r).length->aO ((((aF rs r).getD j Γ).x:Int):Rat)∈gX rs N:=fun j hj=>(hx _).2 ⟨r,j,hr,hj,rfl⟩;have my:∀j,j<(aF rs r).length->aO ((((aF rs r).getD j Γ).y:Int):Rat)∈gY rs N:=fun j hj=>(hy _).2 ⟨r,j,hr,hj,rfl⟩;have nx:∀j,j<(aF rs r).length->aO (((fR (aF rs r) j).x:Int):Rat)∈gX rs N:=fun j hj=>mx _ (hm j hj);have ny:∀j,j<(aF rs r).length->aO (((fR (aF rs r) j).y:Int):Rat)∈gY rs N:=fun j hj=>my _ (hm j hj);have OD:∀j,j<(aF rs r).length->eP (fP (aF rs) N) (bv9 (fP (aF rs) N)) (gX rs N) (gY rs N) (bP rs N r j)=
  if GF (xV ((aF rs r).getD j Γ) (fR (aF rs r) j))=ι then⟨(bP rs N r j).side,ι,oK (gX rs N) (aO ((((aF rs r).getD j Γ).x:Int):Rat)),oK (gY rs N) (aO ((((aF rs r).getD j Γ).y:Int):Rat)),oK (gY rs N) (aO (((fR (aF rs r) j).y:Int):Rat))⟩
  else⟨(bP rs N r j).side,ν,oK (gY rs N) (aO ((((aF rs r).getD j Γ).y:Int):Rat)),oK (gX rs N) (aO ((((aF rs r).getD j Γ).x:Int):Rat)),oK (gX rs N) (aO (((fR (aF rs r) j).x:Int):Rat))⟩:=fun j hj=>by
  unfold eP;rw[vE hl hr hj,mm hl hr hj,mh hl hr hj,mj hl hr hj];show(if GF (xV ((aF rs r).getD j Γ) (fR (aF rs r) j))=ι then _ else _)=_;by_cases c:GF (xV ((aF rs r).getD j Γ) (fR (aF rs r) j))=ι
  .simp only[c,if_true]
  .have c:GF (xV ((aF rs r).getD j Γ) (fR (aF rs r) j))=ν:=by simpa using c
   simp only[c,if_false,aK]
 refine⟨hlen,fun j hj=>?_,fun s hs=>?_,fun j hj hu=>?_,fun j hj hu=>?_⟩
 .rw[hE j hj,OD j hj];rcases zJ (xC r hr) hj with⟨a,b,c,-⟩|⟨a,b,c,-⟩
  .rw[ip c,a];simp
  .rw[iN (by rw[c];decide)];simpa using b
 .obtain⟨j,hj,rfl⟩:=List.mem_iff_getElem.1 hs;rw[hlen]at hj;have e:=hE j hj;rw[Ω,aS (by rw[hlen];exact hj),bK]at e;rw[e,OD j hj];have a1:=vV (mx j hj);have a2:=vV (my j hj);have a3:=vV (nx j hj);have a4:=vV (ny j hj);by_cases c:GF (xV ((aF rs r).getD j Γ) (fR (aF rs r) j))=ι
  .rw[ip c];exact⟨by simp only;omega,by simp only;omega,by simp only;omega,fun _=>⟨by simp only;omega,by simp only;omega,by simp only;omega⟩,fun h=>by cases h⟩
  .rw[iN c];exact⟨by simp only;omega,by simp only;omega,by simp only;omega,(fun h=>by cases h),fun _=>⟨by simp only;omega,by simp only;omega,by simp only;omega⟩⟩
 .rw[hE j hj,OD j hj]at hu|-;by_cases c:GF (xV ((aF rs r).getD j Γ) (fR (aF rs r) j))=ι
  .rw[ip c];simp only[gG];exact⟨R8 (mx j hj),R8 (my j hj),R8 (ny j hj)⟩
  .rw[iN c]at hu;cases hu
 .rw[hE j hj,OD j hj]at hu|-;rcases zJ (xC r hr) hj with⟨a,b,c,-⟩|⟨a,b,c,-⟩
  .rw[ip c]at hu;cases hu
  .rw[iN (by rw[c];decide)];simp only[gG];exact⟨R8 (my j hj),R8 (mx j hj),R8 (nx j hj),a.symm⟩
include LH hcr CW
theorem mr:Dg (eC (fP (aF rs) N) (bv9 (fP (aF rs) N)) (gX rs N) (gY rs N) (KM rs N)) (gX rs N).length (gY rs N).length:=by
 have hx:=bp hl hC DR
 have hy:=bq hl hC DR
 have hlen:(eC (fP (aF rs) N) (bv9 (fP (aF rs) N)) (gX rs N) (gY rs N) (KM rs N)).length=N:=by unfold eC;rw[υ,MV]
 have h4:=(kY (xC 0 LH)).1
 have x0:=vQ ((hx.2 _).2 ⟨0,0,LH,oM,rfl⟩)
 have y0:=vQ ((hy.2 _).2 ⟨0,0,LH,oM,rfl⟩)
 have:=yg (f:=aF rs) (ls:=eC (fP (aF rs) N) (bv9 (fP (aF rs) N)) (gX rs N) (gY rs N) (KM rs N)) (by rw[hlen];exact LH)
  (mn hx.1 fun z hz=>by obtain⟨r,k,-,-,e⟩:=(hx.2 z).1 hz;exact⟨_,e⟩) (mn hy.1 fun z hz=>by obtain⟨r,k,-,-,e⟩:=(hy.2 z).1 hz;exact⟨_,e⟩)
  (fun r hr=>aY8 hl hC DR xC (by rw[<-hlen];exact hr)) (fun r hr=>xC r (by rw[<-hlen];exact hr)) (by rw[hlen];exact hcr) (by rw[hlen];exact CW)
 rwa[show(((gX rs N).length-1:Nat):Int)+1=((gX rs N).length:Int) by omega,show(((gY rs N).length-1:Nat):Int)+1=((gY rs N).length:Int) by omega]at this
theorem bt(h:aZ.map Lp.ps=Cv rs N):sV (fP (aF rs) N) (bv9 (fP (aF rs) N)) (nY (fP (aF rs) N) (bv9 (fP (aF rs) N)) aZ)=Cv rs N:=by
 have AU:(aZ.flatMap Lp.ps).Perm ((KM rs N).flatMap Lp.ps):=by
  rw[fT,fT,h,bo]
  unfold Cv sV
  exact(List.Perm.flatten (mK _)).trans (FH _ _ _)
 rw[Kv AU fun p hp=>by
  have:=Xz hl hC DR (AU.mem_iff.1 hp)
  exact⟨this.x,this.y⟩]
 have hg:∀r k,r<N->k<((KM rs N).getD r Γ).ps.length->((KM rs N).getD r Γ).ps.getD k Γ=bP rs N r k/\k<(aF rs r).length:=fun r k hr hk=>by
  rw[FG rs hr,sX]at hk
  exact⟨by rw[FG rs hr,OC hk],hk⟩
 have:=Xx (fs:=fP (aF rs) N) (at':=bv9 (fP (aF rs) N)) (ls:=KM rs N) (xs:=gX rs N) (ys:=gY rs N)
  (fun p hp=>by obtain⟨r,k,hr,hk,rfl⟩:=Jf hp;exact aP6 hl hC DR xC hr hk) (mr hl LH hC DR xC hcr CW).brd
  (fun l hlm=>by
   unfold KM at hlm
   obtain⟨r,hr,rfl⟩:=List.mem_map.1 hlm
   have h4:=(kY (xC r (List.mem_range.1 hr))).1
   refine⟨by show 0<(tL _ _ _ _ _).length;rw[sX];omega,fun p hp=>Xz hl hC DR (List.mem_flatMap.2 ⟨_,dC hr,hp⟩)⟩)
  (fun r i q k hr hq hi hk hne=>as6 (by
   rw[MV]at hr hq
   obtain⟨e1,i1⟩:=hg r i hr hi
   obtain⟨e2,k1⟩:=hg q k hq hk
   rw[e1,e2]
   show((bY (aF rs) r+i:Nat):Int)≠((bY (aF rs) q+k:Nat):Int)
   intro e
   have e:bY (aF rs) r+i=bY (aF rs) q+k:=oM
   rcases Nat.lt_trichotomy r q with c|c|c
   .have:bY (aF rs) (r+1)<=bY (aF rs) q:=sW c
    rw[bY]at this;omega
   .subst c;rcases hne with h|h
    .exact h rfl
    .omega
   .have:bY (aF rs) (q+1)<=bY (aF rs) r:=sW c
    rw[bY]at this;omega))
 rw[bo]at this
 exact this
end
section
variable{rs:List Rg}{N:Nat}(hl:rs.length=N)(xC:∀r,r<N->pE (aF rs r)=ι)
theorem Jg{f g:α->List β}{L:List α}(h:∀a∈L,(f a).Perm (g a)):(L.flatMap f).Perm (L.flatMap g):=by
 induction L with
 |nil=>exact .refl _
 |cons a L ih=>rw[gS,gS];exact(h a (bO ..)).append (ih fun b hb=>h b (cC _ hb))
def at8(rs:List Rg)(N r:Nat):List Pt:=mU (fP (aF rs) N) (bv9 (fP (aF rs) N)) (tL (cK rs) (fP (aF rs) N) (bY (aF rs) r) (aF rs r).length (aF rs r).length)
theorem R9(rs N):(Cv rs N).Perm ((cI N).map (at8 rs N)):=by
 unfold Cv sV;refine(mK _).trans ?_;rw[R7,eH];exact .refl _
include xC
theorem at9(hr:r<N):at5 rs N r (at8 rs N r):=by
 have h4:=(kY (xC r hr)).1;have hlen:=sX (cK rs) (fP (aF rs) N) (bY (aF rs) r) (aF rs r).length (aF rs r).length;refine⟨by unfold at8;rw[vA,hlen],gO (fP (aF rs) N) (bv9 (fP (aF rs) N)) (tL (cK rs) (fP (aF rs) N) (bY (aF rs) r) (aF rs r).length (aF rs r).length) (aF rs r).length,fun i hi=>?_⟩;unfold at8;rw[Dh _ oM i oM,hlen];unfold tL;exact rJ _ (aV _ oM)
include hl
theorem bu(h:aZ.map Lp.ps=Cv rs N):(aZ.flatMap Lp.ps).length=bY (aF rs) N/\aZ.length=N:=by
 constructor
 .rw[fT,h,((R9 rs N).flatten).length_eq,<-fT];have:∀n,n<=N->((cI n).flatMap (at8 rs N)).length=bY (aF rs) n:=by
   intro n;induction n with
   |zero=>intro _;rfl
   |succ n ih=>
    intro hn;rw[sB,List.flatMap_append,aJ,ih oM,bY];simp only[gS,List.flatMap_nil,kQ];rw[(at9 xC (show n<N by omega)).1]
  exact this N (θ _)
 .have:=congrArg Jr h;rw[υ,(R9 rs N).length_eq,υ,jQ]at this;exact this
theorem au0(hC:∀r,C8 (aF rs r))(z){Ab:List (List Pt)}(h:∀ps∈Ab,∃r,r<N/\at5 rs N r ps):FY (fP (aF rs) N) z Ab=ν:=by
 unfold FY;refine bJ.2 fun i hi=>?_;obtain⟨r,hr,h1,m,h2⟩:=h _ (aN hi []);unfold TI;refine bJ.2 fun k hk=>?_;have h4:=(kY (xC r hr)).1;have hm:∀i,i%(aF rs r).length<(aF rs r).length:=fun i=>aV _ oM;have ha:=at4 hl hC xC hr (hm (k+m));unfold EF;rw[h1]at hk|-;have e:((k+1)%(aF rs r).length+m)%(aF rs r).length=((k+m)%(aF rs r).length+1)%(aF rs r).length:=by
  rw[eV,eV];congr 1;omega
 rw[h2 k hk,h2 _ (hm (k+1)),e,vE hl hr (hm _),vE hl hr (hm _)];rw[show((Pf ((aF rs r).getD ((k+m)%(aF rs r).length) Γ) (fR (aF rs r) ((k+m)%(aF rs r).length))).up==(Pf ((aF rs r).getD (((k+m)%(aF rs r).length+1)%(aF rs r).length) Γ) (fR (aF rs r) (((k+m)%(aF rs r).length+1)%(aF rs r).length))).up)=ν from beq_false_of_ne ha,wT]
end
end
end Go.Proofs.YtncclggcfgnhpaaGreatDoor
