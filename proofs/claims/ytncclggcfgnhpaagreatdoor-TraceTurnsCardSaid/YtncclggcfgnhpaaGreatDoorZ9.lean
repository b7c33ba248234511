import Derived.Test.YtncclggcfgnhpaaGreatDoorZ8
namespace Go.Proofs.YtncclggcfgnhpaaGreatDoor
set_option maxRecDepth 100000
set_option maxHeartbeats 8000000
set_option linter.all false
open Go.Proofs.Tryz
open _root_.Array renaming replicate_succ->bG,replicate_zero->bH
open _root_.Bool renaming true->ι,false->ν,and_eq_true->aI,false_eq_true->aK,not_eq_false'->vS
open _root_.Classical renaming byContradiction->aG
open _root_.Go renaming World->η,Value->χ,undef->ψ,Calls->aE,Addr->bW,TypeId->cS,heap_setCell_other->dG,results->gP,run_takeDeferred->iD,results_tmp->iH,wpAnyIn_done->mL,grownBy_putObj'->pX,ownFrom_below->qO,Ending->Fg
open Go.AllReadyIn renaming nil->dW,cons->Sv
open Go.Ending renaming returned->σ
open Go.IntKind renaming i64->Ξ
open Go.IntWalk renaming i64_in->aM
open Go.KeepsOthers renaming setCell->dA,of_grownBy->FN
open Go.Obj renaming cells->π
open Go.Oper renaming semAt_some->eQ
open Go.Proofs renaming enters_of->iC
open Go.Proofs.Tryz renaming prog->γ,isAgg37->vT,isAgg68->Mq,results51->Ql,isAgg27->Yh
open Go.RowKit renaming intOf->ξ,Hid->aQ
open Go.RowKit.Below renaming refl->μ
open Go.Value renaming string->Δ,slice->Θ,int->Υ,bool->ω,pointer->aB,agg->bQ,tuple->bT,ownBlock->iQ
open Go.World renaming block_lt_of_cell?->aD,size_alloc->aL,size_setCell->pM,cell?_of_block->Gc
open _root_.Inhabited renaming default->Γ
open _root_.Int renaming toNat_of_nonneg->fE,mul_nonneg->qI
open _root_.List renaming getD_eq_getElem?_getD->Ω,length_map->υ,length_cons->aC,length_append->aJ,getElem?_eq_getElem->aS,getElem?_cons_zero->aU,length_nil->bB,getElem?_toArray->bC,size_toArray->bI,take_succ_eq_append_getElem->bM,cons_append->bV,append_toArray->bN,push_toArray->cE,nil_append->cM,getElem?_cons_succ->cO,length_drop->dJ,mem_singleton->dE,mem_map_of_mem->dC,take_of_length_le->eA,map_append->dV,getElem_of_mem->fC,getElem_mem->fJ,mem_append_left->gU,mem_append->iV,flatten_cons->jP,length_range->jQ,getD_cons_succ->jS,append_nil->kQ,getElem?_eq_none->nW,mem_append_right->rM,length_pos_of_mem->vQ,getElem_drop->Lb,getD_cons_zero->oe,ext_getElem->OV
open _root_.Nat renaming le_refl->θ,le_trans->aA,mod_eq_of_lt->aT,zero_le->aP,mod_lt->aV,zero_add->bD,reduceAdd->cL,lt_of_lt_of_le->cN,reduceSub->dF,lt_or_ge->fO,add_zero->jN,mod_self->mY,le_of_eq->qU,add_comm->Ao,not_lt_zero->vJ
open _root_.Option renaming none->δ,some->ζ,getD_some->bK
variable{P:Program}{fn:Func}{w W W':η}{a:Option bW}{ca i g off e cap t B j k N r r2 j2 t2:Nat}{X Y:ByteArray}{p:bW}{row:Option Nat}{fs:List Fr}{xs:List (List UInt8)}{ps:List Pt}{s:Sg}{α β:Type}{T:cS}{c cs:Array χ}{L:List (Nat×Nat)}{v':χ}{ss:List Sd}{aZ:List Lp}{rs:List Rg}
section
open Go Go.RowKit Go.Lib
theorem PW{n:Int}{d:Nat}(hd:d≠0):mkRat n d*((d:Int):Rat)=(n:Rat):=by
 rw[Rat.mkRat_eq_div];have:((d:Int):Rat)≠0:=by
  intro h;have:=(Rat.intCast_eq_zero_iff).1 h;omega
 exact Rat.div_mul_cancel this
theorem ar1{s t:Sd}(h:yT s=ι)(hc:0<=s.x/\s.x<=65536/\0<=s.y/\s.y<=65536):(Pf s t).Ok/\(Pf s t).q.t=(s.plate:Rat)/\0<=s.plate/\s.plate<=65536:=by
 obtain⟨p1,p2,p3⟩:=ao2 (x:=s.x) (y:=s.y) (rise:=s.rise) (run:=s.run) (gable:=s.gable) (plate:=s.plate) (over:=s.over) h;have hco:=ao5 (t:=t) hc;have et:(mkRat s.plate 1)=((s.plate:Int):Rat):=Rat.mkRat_one _;have e:Pf s t=FQ.fr ⟨GF (xV s t),if GF (xV s t)=ι then s.x else s.y,Yy (xV s t),if s.gable=ι then 0 else mkRat s.run s.rise.toNat,((s.plate:Int):Rat)⟩:=by
  unfold Pf FQ.fr;rw[et];congr 1;cases s.gable
  .rfl
  .exact zB.symm
 have hg:FQ.Good ⟨GF (xV s t),if GF (xV s t)=ι then s.x else s.y,Yy (xV s t),if s.gable=ι then 0 else mkRat s.run s.rise.toNat,((s.plate:Int):Rat)⟩:=by
  refine⟨hco.1,hco.2,?_,?_,⟨s.plate.toNat,oM,by show((s.plate:Int):Rat)=_;rw[fE p1]⟩⟩
  .show Yy (xV s t)=1\/Yy (xV s t)= -1;unfold Yy;split
   .exact .inl rfl
   .exact .inr rfl
  .cases hgb:s.gable
   .obtain⟨a1,a2,a3,a4⟩:=p3 hgb;refine⟨s.run.toNat,s.rise.toNat,oM,oM,oM,?_⟩;show(if ν=ι then(0:Rat)else mkRat s.run s.rise.toNat)*_=_;rw[iN dD,fE (show 0<=s.run by omega)];exact PW oM
   .exact⟨0,1,oM,oM,oM,by show(if ι=ι then(0:Rat)else mkRat s.run s.rise.toNat)*_=_;rw[ip rfl,Rat.zero_mul];rfl⟩
 refine⟨?_,?_,p1,p2⟩
 .rw[e];exact hg.ok
 .rw[e,FQ.fr_q]
end
section
open Go Go.RowKit Go.Shelf Go.Lib
section
attribute[local go_sem] eQ
theorem aG9{x y:List UInt8}(hx:Sm x)(hy:Sm y):0<(fQ x y).1↔bZ y<bZ x:=by
 rw[hx.cmp hy];show 0<mT _ _↔_;rcases CV (bZ x) (bZ y)with⟨h,e⟩|⟨h,e⟩|⟨h,e⟩<;>rw[e]<;>constructor <;>intro k<;>first |(exfalso;revert k;decide)|grind |decide
theorem aX7(z P c0 c1 c2 c3 c5 c6 g W)(h:bE W P #[c0,c1,c2,c3,ω g,c5,c6] 84):aE γ 105 #[Δ z,aB (ζ ⟨P,0,δ⟩)] W fun e w'=>e=σ (ω (!g))/\Bw W w':=by
 have k:=h.ce 4;have l:=h.lt;clear h;go_enter func105,ntmps105;go_wp2;go_ret;exact⟨rfl,μ _ _⟩
theorem aX8(z b P W)(hE:mV W)(hz:Sm z)(hb:Sm b)(h:bE W P #[Δ (bs b)] 29):aE γ 107 #[Δ (bs z),aB (ζ ⟨P,0,δ⟩)] W fun e w'=>e=σ (ω (decide (bZ b<bZ z)))/\Bw W w':=by
 have k:=h.ce 0;have l:=h.lt;have HC:=zq (JZ z b W hE hz hb);have R:aQ (decide (bZ b<bZ z)=decide (0<(fQ z b).1)):=by show _=_;rw[decide_eq_decide];exact(aG9 hz hb).symm
 clear h hE hz hb;generalize decide (bZ b<bZ z)=D at *;generalize(fQ z b).1=c at *;generalize bs b=B,bs z=Z at *;go_enter func107,ntmps107;go_wp2_with fail
 refine ka HC.o fun W1 hb1=>?_;go_wp2;go_ret;exact⟨by rw[R.o]<;>rfl,hb1⟩
theorem ar2(a n c w):aE γ 106 #[Θ a n c] w fun e w'=>e=σ (.func (.func 157) #[] #[aB (ζ ⟨w.heap.size,0,δ⟩)])/\w'=w.alloc (π #[Θ a n c] 27):=by
 go_enter func106,ntmps106;go_wp2;go_ret;exact⟨rfl,rfl⟩
def oL(ss:List Sd)(fs:List Fr)(n:Nat)(z:List UInt8):Prop:=∃i,i<n/\(ss.getD i Γ).gable=ν/\z=(fs.getD i Γ).st
def aP5(fs:List Fr)(b:List UInt8)(x:Nat×Nat)(z:List UInt8):Prop:=∃q,kK (fs.getD x.1 Γ).q (fs.getD x.2 Γ).q q/\z=aO q/\bZ b<q
def KL(ss:List Sd)(fs:List Fr)(n:Nat)(b:List UInt8)(L:List (Nat×Nat))(z:List UInt8):Prop:=oL ss fs n z\/∃x∈L,aP5 fs b x z
def PIn(fs:List Fr)(n:Nat)(L:List (Nat×Nat)):Prop:=(∀x∈L,KK fs n x)/\L.length<=576
theorem Cs{s n b:Nat}{v:χ}{xs:List χ}(h:W.ownsRow B e s v n xs)(hb:bE W b cs T)(hne:T≠e)(j u):(W.setCell ⟨b,j,δ⟩ u).ownsRow B e s v n xs:=by
 refine⟨h.1,h.2.imp id ?_⟩;rintro⟨g,cap,pZ,e1,e2,e3,e4⟩;refine⟨g,cap,pZ,e1,e2,(dG W ⟨b,j,δ⟩ g u fun e'=>?_).trans e3,e4⟩;have e':g=b:=e';subst e';have Ju:W.heap[g]? =ζ (π cs T (0,0)):=hb;rw[Ju]at e3;cases e3;exact hne rfl
structure LL(w3:η)(P8:Nat)(ex:Nat->Prop)(ok:List UInt8->Prop)(c:Nat)(W:η):Prop where
 bl:Bw w3 W
 h8:w3.heap.size<=P8
 o:∃v xs,bE W P8 #[v] 68/\W.ownsRow w3.heap.size 29 1 v xs.length (dQ xs)/\Ls xs ok c/\∀k,ex k->k<W.heap.size/\v.ownBlock≠ζ k
section
variable{w3:η}{P8:Nat}{ex:Nat->Prop}{ok:List UInt8->Prop}{c:Nat}{W W':η}
theorem LL.below(h:LL w3 P8 ex ok c W)(hb:Bw W W'):LL w3 P8 ex ok c W':=by
 obtain⟨v,xs,h1,h2,h3,h4⟩:=h.o;exact⟨aW h.bl hb,h.h8,v,xs,h1.below hb h1.lt,aR h2 hb,h3,fun k hk=>⟨cN (h4 k hk).1 hb.size,(h4 k hk).2⟩⟩
theorem LL.own(h:LL w3 P8 ex ok c W)(hg:W.grownBy W' row)(hr:∀r,row=ζ r->∃o:Obj,W.heap[r]? =ζ o/\o.isCells=ν)(hb:Bw w3 W'):LL w3 P8 ex ok c W':=by
 obtain⟨v,xs,h1,h2,h3,h4⟩:=h.o;exact⟨hb,h.h8,v,xs,h1.own hg hr,mE h2 hg hr,h3,fun k hk=>⟨cN (h4 k hk).1 hg.size,(h4 k hk).2⟩⟩
theorem LL.iff{ok':List UInt8->Prop}{c':Nat}(h:LL w3 P8 ex ok c W)(hk:∀z,ok z↔ok' z)(hc:c<=c'):LL w3 P8 ex ok' c' W:=by
 obtain⟨v,xs,h1,h2,h3,h4⟩:=h.o;exact⟨h.bl,h.h8,v,xs,h1,h2,⟨h3.sm,h3.asc,aA h3.len hc,fun z=>(h3.mem z).trans (hk z)⟩,h4⟩
theorem LL.put(h:LL w3 P8 ex ok c W){v:χ}(h1:bE W P8 #[v] 68)(h2:W.ownsRow w3.heap.size 29 1 v xs.length (dQ xs))(hk:∀k,ex k->k<W.heap.size/\v.ownBlock≠ζ k){t:List UInt8}{b:Bool}{ok':List UInt8->Prop}(h3:Ls (Cq b xs t) ok' (c+1))(ho:W'.ownsRow w3.heap.size 29 1 v' (Cq b xs t).length (dQ (Cq b xs t)))(hn:v'.ownBlock=v.ownBlock\/∀g,v'.ownBlock=ζ g->W.heap.size<=g)(hg:W.grownBy W' v.ownBlock):
 LL w3 P8 ex ok' (c+1) (W'.setCell ⟨P8,0,δ⟩ v')/\kN W (W'.setCell ⟨P8,0,δ⟩ v'):=by
 have rj:Bw w3 W':=dT (v:=v) h.bl hg h2 (θ _) h.bl.size;have k8:=kT h1 hg (iL h1 h2 dD);refine⟨⟨rj.setCell (p:=⟨P8,0,δ⟩) h.h8 v',h.h8,v',_,k8.set 0 v',?_,h3,fun k hx=>?_⟩,(kN.grown h2 hg).trans (kN.set k8 (.inr rfl) 0 v')⟩
 .refine⟨ho.1,ho.2.imp id ?_⟩;rintro⟨g,cap,pZ,e1,e2,e3,e4⟩;refine⟨g,cap,pZ,e1,e2,?_,e4⟩;refine(dG W' ⟨P8,0,δ⟩ g v' ?_).trans e3;intro e;have e:g=P8:=e;subst e;have:W'.heap[g]? =ζ (π #[v] 68 (0,0)):=k8;rw[this]at e3;cases e3
 .obtain⟨a1,a2⟩:=hk k hx;refine⟨by rw[pM];exact cN a1 hg.size,?_⟩;rcases hn with e|e
  .rw[e];exact a2
  .intro e';have:=e k e';omega
theorem LL.more(h:LL w3 P8 ex ok c W)(hb:Bw W W'){ex':Nat->Prop}(hx:∀k,ex' k->ex k\/(W.heap.size<=k/\k<W'.heap.size)):LL w3 P8 ex' ok c W':=by
 obtain⟨v,xs,h1,h2,h3,h4⟩:=h.o;refine⟨aW h.bl hb,h.h8,v,xs,h1.below hb h1.lt,aR h2 hb,h3,fun k hk=>?_⟩;rcases hx k hk with h|h
 .exact⟨cN (h4 k h).1 hb.size,(h4 k h).2⟩
 .exact⟨h.2,fun e=>by have:=(h2.lt k e).2;omega⟩
theorem LL.less(h:LL w3 P8 ex ok c W){ex':Nat->Prop}(hx:∀k,ex' k->ex k):LL w3 P8 ex' ok c W:=by
 obtain⟨v,xs,h1,h2,h3,h4⟩:=h.o;exact⟨h.bl,h.h8,v,xs,h1,h2,h3,fun k hk=>h4 k (hx k hk)⟩
theorem LL.far{v:χ}(hk:∀k,ex k->k<W.heap.size/\v.ownBlock≠ζ k)(hg:W.grownBy W' v.ownBlock)(hx:ex k)(h8:k≠P8):(W'.setCell ⟨P8,0,δ⟩ v').heap[k]? =W.heap[k]? :=
 (dG W' ⟨P8,0,δ⟩ k v' h8).trans (hg.block k (hk k hx).1 (fun e=>(hk k hx).2 e.symm))
theorem Xk{v:χ}{s n:Nat}{xs:List χ}(h2:W.ownsRow B 29 s v n xs)(hg:W.grownBy W' v.ownBlock):KeepsOthers W (W'.setCell ⟨P8,0,δ⟩ v'):=
 (FN hg (fun j o e ho=>by
  rcases h2.2 with⟨h,_⟩|⟨g,cap,pZ,h,_,k,_⟩
  .rw[h]at e;cases e
  .rw[h]at e
   have e:g=j:=by simpa[iQ]using e
   subst e
   rw[ho]at k;cases k;rfl)).trans (dA _ _ _)
end
theorem aX9{f:Fr}(h:f.Ok):Sm f.st:=by
 have e:f.st=aO f.q.t:=by
  have:=congrArg Fr.st h.good.2;rw[<-this];rfl
 rw[e];exact Sm.of (h.good.1.ht.mono dD dD)
theorem Xl(z):(oL ss fs k z\/((!(ss.getD k Γ).gable)=ι/\z=(fs.getD k Γ).st))↔oL ss fs (k+1) z:=by
 constructor
 .rintro(⟨i,h1,h2⟩|⟨h1,h2⟩)
  .exact⟨i,oM,h2⟩
  .exact⟨k,oM,by simpa using h1,h2⟩
 .rintro⟨i,h1,h2,h3⟩;by_cases h:i=k
  .subst h;exact .inr ⟨by rw[h2];rfl,h3⟩
  .exact .inl ⟨i,oM,h2,h3⟩
theorem ar3{b o:Nat}{v0 v1 v2 v3 v4:χ}(c0:W.cell? ⟨b,o,δ⟩=ζ v0)(c1:W.cell? ⟨b,o+1,δ⟩=ζ v1)(c2:W.cell? ⟨b,o+2,δ⟩=ζ v2)(c3:W.cell? ⟨b,o+3,δ⟩=ζ v3)(c4:W.cell? ⟨b,o+4,δ⟩=ζ v4):W.rangeAt b o [v0,v1,v2,v3,v4]:=fun t u hu=>by
 match t,hu with
 |0,hu=>cases hu;exact c0
 |1,hu=>cases hu;exact c1
 |2,hu=>cases hu;exact c2
 |3,hu=>cases hu;exact c3
 |4,hu=>cases hu;exact c4
 |t+5,hu=>simp at hu
theorem Ah{p q r:Tmp}{ty tz tt:cS}(h:fn.results= #[.cell p ty,.cell q tz,.cell r tt])(tmps w g1 g2 g3 v1 v2 v3)(hp:tmps.getD p ψ=aB (ζ ⟨g1,0,δ⟩))(hq:tmps.getD q ψ=aB (ζ ⟨g2,0,δ⟩))(hr:tmps.getD r ψ=aB (ζ ⟨g3,0,δ⟩))(h1:w.cell? ⟨g1,0,δ⟩=ζ v1)(h2:w.cell? ⟨g2,0,δ⟩=ζ v2)(h3:w.cell? ⟨g3,0,δ⟩=ζ v3)(ha:∀w,(isAgg ty).run P w=.ok ν w)(hb:∀w,(isAgg tz).run P w=.ok ν w)(hc:∀w,(isAgg tt).run P w=.ok ν w):
 (gP fn tmps).run P w=.ok (bT #[v1,v2,v3]) w:=by
 have S7:tmps[p]?.getD ψ=aB (ζ ⟨g1,0,δ⟩):=by simpa using hp
 have hq':tmps[q]?.getD ψ=aB (ζ ⟨g2,0,δ⟩):=by simpa using hq
 have Pn:tmps[r]?.getD ψ=aB (ζ ⟨g3,0,δ⟩):=by simpa using hr
 simp[gP,h,go_sem,S7,hq',Pn,h1,h2,h3,ha,hb,hc]
theorem aY0(c0 w):∃W,(((w.alloc (π #[c0] 24)).alloc (π #[Θ δ 0 0] 27)).alloc (π #[Θ δ 0 0] 68)).alloc (π #[Υ Ξ 0] 37)=W/\
 bE W w.heap.size #[c0] 24/\bE W (w.heap.size+1) #[Θ δ 0 0] 27/\bE W (w.heap.size+1+1) #[Θ δ 0 0] 68/\bE W (w.heap.size+1+1+1) #[Υ Ξ 0] 37/\Bw w W:=by
 refine⟨_,rfl,(((bE.new w _ _).alloc _).alloc _).alloc _,?_,?_,?_,(((nA w _).alloc sP _).alloc (by simp;omega) _).alloc (by simp;omega) _⟩
 .have:=((bE.new (w.alloc (π #[c0] 24)) #[Θ δ 0 0] 27).alloc (π #[Θ δ 0 0] 68)).alloc (π #[Υ Ξ 0] 37);simpa[aL]using this
 .have:=(bE.new ((w.alloc (π #[c0] 24)).alloc (π #[Θ δ 0 0] 27)) #[Θ δ 0 0] 68).alloc (π #[Υ Ξ 0] 37);simpa[aL]using this
 .have:=bE.new (((w.alloc (π #[c0] 24)).alloc (π #[Θ δ 0 0] 27)).alloc (π #[Θ δ 0 0] 68)) #[Υ Ξ 0] 37;simpa[aL]using this
theorem RU(a N cap rs w)(hl:rs.length=N)(hN:N<=1000)(hn:∀ r,(aF rs r).length<=1000)(rr:GB w a rs)(h0:oX (aF rs) N=0)(hE:mV w)(hD:KH w)(hng:∃ i,i < (cK rs).length/\((cK rs).getD i Γ).gable=ν):
 aE γ 51 #[bQ #[Θ a N cap]] w fun e w'=>(∃ fv v xs b,e=σ (bT #[fv,v,Υ Ξ 0])/\w'.ownsRow w.heap.size 46 5 fv (bY (aF rs) N) (jM (fP (aF rs) N))/\w'.ownsRow w.heap.size 29 1 v xs.length (dQ xs)/\
  oL (cK rs) (fP (aF rs) N) (bY (aF rs) N) b/\(∀ z,oL (cK rs) (fP (aF rs) N) (bY (aF rs) N) z->bZ b<=bZ z)/\∃ L,aG8 (fP (aF rs) N) (bY (aF rs) N) L/\PIn (fP (aF rs) N) (bY (aF rs) N) L/\Ls xs (KL (cK rs) (fP (aF rs) N) (bY (aF rs) N) b L) 3000)/\Bw w w':=by
 obtain⟨c0,c1,c2,c3,c4,-⟩:=wP h0
 have hC:∀ r,C8 (aF rs r):=Ja (fun r hr=>Fz oM) c3
 have hp:∀ r,r < N->4<=(aF rs r).length:=fun r hr=>by
  have:=bJ.1 c4 r hr
  unfold FZ at this
  simp only [vS] at this
  unfold pE at this
  simp only [aI,decide_eq_true_eq] at this
  exact this.2
 have mG:∀ r∈rs,r.ss.length<=1000/\0 < r.ss.length:=fun r hr=>by
  obtain⟨i,hi,rfl⟩:=fC hr
  have e:aF rs i=rs[i].ss:=by unfold aF;simp [Ω,hi]
  rw [<- e]
  exact⟨hn i,by have:=hp i oM;omega⟩
 have wu:∀ W,Bw w W->aE γ 46 #[bQ #[Θ a N cap]] W fun e w'=>e=σ (Υ Ξ 0)/\Bw W w':=fun W hW=>FD a N cap rs W hl hN hn (rr.below hW) h0
 have HFA:=zq (fun W (hW:Bw w W)=>an a N cap rs W hl hN hn (rr.below hW) h0 (hE.below hW) (hD.below hW) fun V hV=>wu V (aW hW hV))
 have ko:=zq (fun W (hW:Bw w W)=>WV a N cap rs W hl hN oM mG (rr.below hW) fun V hV=>wu V (aW hW hV))
 have CD:bY (aF rs) N=(cK rs).length:=by rw [<- hl];exact zH
 rw [<- CD] at ko hng
 have CF:=nG (aF rs) N
 have yX:∀ i,i < bY (aF rs) N->((fP (aF rs) N).getD i Γ).Ok:=fun i hi=>by
  obtain⟨r,k,h1,h2,rfl⟩:=Hw (aF rs) N i hi
  rw [vC _ _ h1 h2]
  refine(ar1 ?_ (hC r k)).1
  have h3:=bJ.1 (bJ.1 c3 r h1) k h2
  unfold KD at h3
  simpa using h3
 have Vy:=zq (fun (W:η) (h:Bw w W)=>hE.below h)
 have Ov:=zq CF
 have HOk:=zq yX
 have HSl:aQ ((cK rs).length=bY (aF rs) N):=CD.symm
 have HNg:=zq hng
 clear hl rr h0 hE hD c0 c1 c3 c4 hC hp mG wu CD CF yX hng hn
 generalize fP (aF rs) N=FS at *
 generalize cK rs=SS at *
 generalize bY (aF rs) N=M at *
 obtain⟨W0,fI,q1,q2,q3,q4,fL⟩:=aY0 (Θ a N cap) w
 have gH:=zq fL
 have Fv:=zq q1
 have GX:=zq q2
 have Q7:=zq q3
 have HQ4:=zq q4
 have b0:=q1.ce 0
 have HW:=zq fI
 have H1:=zq (HFA.o _ fL)
 clear fL q1 q2 q3 q4 fI HFA
 refine eE func51 rfl ?_
 simp only [ntmps51,bI,aC,bB,cL,dF,bG,bH,cE,bN,cM,bV]
 go_upto_region 1 with (fail)
 rw [HW.o]
 clear HW
 go_wp2_with fail
 refine H1.o.mono ?_
 rintro e W1 ⟨⟨v1,rfl,PZ⟩,hb⟩
 obtain⟨fa,fc,rfl⟩:=E5 PZ
 obtain⟨i0,hi0,-⟩:=HNg.o
 obtain⟨fb,fo,rfl,-⟩:=(yA.own PZ).at (i:=i0) (by rw [Ov.o];exact hi0) rfl
 have aH0:=gH.bS hb
 have Fv:=Fv.bb hb
 have GX:=GX.bb hb
 have Q7:=Q7.bb hb
 have HQ4:=HQ4.bb hb
 have HF1:=zq (jU PZ gH.o.size)
 have hP5:=HQ4.o.lt
 have b0:=aY hb b0
 clear hb PZ H1 gH hi0
 obtain⟨W2,TH⟩:=nm (W1.alloc (π #[Θ (ζ ⟨fb,fo,δ⟩) M fc] 27))
 have hb2:=nA W1 (π #[Θ (ζ ⟨fb,fo,δ⟩) M fc] 27)
 have O8:=bE.new W1 #[Θ (ζ ⟨fb,fo,δ⟩) M fc] 27
 rw [TH] at hb2 O8
 have eU:=aH0.bS hb2
 have Pb:=zq (aR HF1.o hb2)
 have Fv:=Fv.bb hb2
 have GX:=GX.bb hb2
 have Q7:=Q7.bb hb2
 have HQ4:=HQ4.bb hb2
 have DP:=zq O8
 have HW2:=zq TH
 have H1:=zq (ko.o _ eU.o)
 clear hb2 O8 TH ko b0 HF1 aH0
 go_upto_region 2 with (fail)
 rw [HW2.o]
 clear HW2
 generalize W1.heap.size=P5 at *
 have b0:=Fv.o.ce 0
 go_wp2_with fail
 refine H1.o.mono ?_
 rintro e W3 ⟨⟨sg,sc,rfl,hs3⟩,hb⟩
 have HB3:=eU.bS hb
 have PN:=zq (aR Pb.o hb)
 have HS3:=zq hs3
 have GX:=GX.bb hb
 have Q7:=Q7.bb hb
 have HQ4:=HQ4.bb hb
 have DP:=DP.bb hb
 clear hb hs3 eU Pb H1 b0 Fv
 obtain⟨W4,hW4⟩:=nm (W3.alloc (π #[Θ δ 0 0] 68))
 have HI0:aQ (LL W3 W3.heap.size (fun _=>False) (oL SS FS 0) 0 W4):=by
  rw [<- hW4]
  refine⟨nA _ _,θ _,Θ δ 0 0,[],bE.new _ _ _,⟨rfl,.inl ⟨rfl,rfl⟩⟩,Ls.nil.iff fun z=>⟨fun h=>h.elim,fun ⟨i,hi,_⟩=>absurd hi (vJ _)⟩,fun k h=>h.elim⟩
 have HW4:=zq hW4
 clear hW4
 go_upto_region 8 with (fail)
 rw [HW4.o]
 clear HW4
 obtain⟨P8,hP8⟩:=nm W3.heap.size
 rw [hP8] at HI0 |-
 have HP8:=zq hP8
 clear hP8
 go_wp2
 go_loopw [34] (fun i wr=>∃ k:Nat,i=Υ Ξ (k:Int)/\k<=M/\aQ (LL W3 P8 (fun _=>False) (oL SS FS k) k wr)) (fun i _=>M - (ξ i).toNat)
 case atStart=>exact⟨0,rfl,aP _,HI0.o⟩
 case round=>
  clear HI0
  obtain⟨k,rfl,hk,HI⟩:=hrel
  rename η=>wi
  by_cases hlt:k < M
  .obtain⟨v,xs,h8,cT,MS,hex⟩:=HI.o.o
   obtain⟨sb,so,e0,f0,f1,f2,f3,f4,f5,f6⟩:=(HS3.o.below HI.o.bl).at (i:=k) (by rw [HSl.o];exact hlt) rfl
   injection e0 with e0;injection e0 with e1 e2;subst e1 e2
   simp only [bD] at f0 f1 f2 f3 f4 f5 f6
   have hO:=HOk.o k hlt
   have AF:=aX9 hO
   have hLp:=MS.put AF (!(SS.getD k Γ).gable)
   have hZ:=fun z=>Xl (ss:=SS) (fs:=FS) (k:=k) z
   have aH1:=bE.new wi (SS.getD k Γ).cells 84
   have hA:=nA wi (π (SS.getD k Γ).cells 84)
   obtain⟨b',o',e1,c0,c1,qj,c3,c4⟩:=(yA.own (aR PN.o ((HI.o.bl.mono (θ _))))).at (i:=k) (by rw [Ov.o];exact hlt) rfl
   injection e1 with e1;injection e1 with e1 e2;subst e1 e2
   unfold Sd.cells at aH1 hA
   generalize SS.getD k Γ=s at *
   obtain⟨x,y,rise,run,gable,plate,over⟩:=s
   simp only [] at *
   have hki:(k:Int) < M:=oM
   go_upto_region 11 with (fail)
   obtain⟨wb,Zs⟩:=nm (wi.alloc (π #[Υ Ξ x,Υ Ξ y,Υ Ξ rise,Υ Ξ run,ω gable,Υ Ξ plate,Υ Ξ over] 84))
   rw [Zs] at aH1 hA |-
   clear Zs f0 f1 f2 f3 f4 f5 f6
   have HIb:=zq (HI.o.below hA)
   have k8:=h8.below hA h8.lt
   have k5:=(DP.o.below HI.o.bl DP.o.lt).below hA (by have:=HI.o.bl.size;have:=DP.o.lt;omega)
   have HOb:=zq (aR cT hA)
   have j8:=k8.ce 0
   have j5:=k5.ce 0
   have jst:=aY hA c4
   have lst:=aD wb _ jst
   have Tz:=zq MS
   have HLp:=zq hLp
   have Hst:=zq AF
   have HZ:=zq hZ
   have Hex:=zq hex
   have aY1:=zq aH1
   have H8:=zq k8
   have l8:=k8.lt
   have l5:=k5.lt
   have HEb:=zq (fun V (h:Bw wb V)=>(aW (aW (aW HB3.o HI.o.bl) hA) h))
   have HSz:aQ (W3.heap.size<=wb.heap.size):=HIb.o.bl.size
   clear h8 cT MS hLp AF hZ hex aH1 k8 k5 hA hO c0 c1 qj c3 c4 HI
   generalize wi.heap.size=P10 at *
   simp only [] at *
   generalize (FS.getD k Γ).st=st at *
   refine tJ 7 (fun _=>.quiet) (fun V=>V.cell? ⟨P8,0,δ⟩=ζ v/\V.cell? ⟨P5,0,δ⟩=ζ (Θ (ζ ⟨fb,fo,δ⟩) M fc)/\V.cell? ⟨fb,fo+k * 5+4,δ⟩=ζ (Δ (bs st))) ⟨j8,j5,jst⟩ ?_ (st:=fun w1 w2 h hb=>⟨bw5 hb l8 h.1,bw5 hb l5 h.2.1,bw5 hb lst h.2.2⟩)
   refine qS 0 rfl (pu ?_)
   refine qS 1 rfl (pu ?_)
   refine qS 2 rfl (pu ?_)
   refine qS 3 rfl (pu ?_)
   refine qS 4 rfl (pu ?_)
   refine qS 5 rfl (pu ?_)
   refine qS 6 rfl (pu ?_)
   refine qT fun V hV _=>?_
   have uB:=hV.b
   clear hV
   refine eI 7 [] rfl (fun K hK=>?_) dW
   rw [ip kF]
   go_simp
   refine⟨trivial,(callsIn_wide.2 (Xj 105 #[aB (ζ ⟨P10,0,δ⟩)] (iC func105 kF rfl) W3.heap.size xs.length v xs st (!gable) V V (Vy.o V (HEb.o V uB)) (μ _ _) (aA HSz.o uB.size) rfl (by have:=Tz.o.len;omega) Tz.o.sm Tz.o.asc Hst.o (aR HOb.o uB)
    (fun V2 h2=>aX7 (bs st) P10 _ _ _ _ _ _ gable V2 (aY1.o.below (aW uB h2) aY1.o.lt)))).mono ?_⟩
   rintro e V1 ⟨⟨v1,rfl,PZ,LB⟩,hg1⟩
   obtain⟨a1,cc1,rfl⟩:=kU PZ
   have hIV:=HIb.o.below uB
   have h8V:=H8.o.below uB H8.o.lt
   have hP:=hIV.put h8V (aR HOb.o uB) (fun k hk=>hk.elim) (HLp.o.iff HZ.o) PZ LB hg1
   have k81:=kT h8V hg1 (iL h8V (aR HOb.o uB) dD)
   have y8:=k81.ce 0
   have z8:=k81.fz 0
   show K _ _
   refine hK _ _ (pu ?_)
   clear hK
   refine eI 8 [] rfl (fun K2 hK2=>?_) dW
   rw [ip kF]
   go_simp
   refine hK2 _ _ (pu ?_)
   refine mL kF ?_ _
   refine jH.normal ?_
   have HP:=zq hP.1
   clear hK2 hP hIV h8V k81 y8 z8 PZ LB hg1 uB HIb HOb H8 Tz HLp HZ Hst Hex aY1 HEb HSz j8 j5 jst l8 l5 lst
   go_wp2
   go_roundw
   case rel=>exact⟨k+1,by go_num,oM,HP.o⟩
   case measure=>simp only [ξ];omega
  .obtain rfl:M=k:=oM
   obtain⟨v,xs,h8,cT,MS,-⟩:=HI.o.o
   have hx0:0 < xs.length:=by
    obtain⟨i,hi,hg⟩:=HNg.o
    have:=(MS.mem (FS.getD i Γ).st).2 ⟨i,hi,hg,rfl⟩
    exact vQ this
   obtain⟨b,hb⟩:=nm (xs.getD 0 [])
   have hbm:b∈xs:=by rw [<- hb];exact aN hx0 []
   have hbl:∀ z,oL SS FS M z->bZ b<=bZ z:=fun z hz=>by
    obtain⟨j,hj,rfl⟩:=fC ((MS.mem z).2 hz)
    rw [<- hb,Ω,aS hx0,bK]
    by_cases h:j=0
    .subst h;exact Rat.le_refl
    .have:=(List.pairwise_iff_getElem.1 MS.asc) 0 j hx0 hj oM
     grind
   obtain⟨ga,gc,hv⟩:=kU cT
   subst hv
   obtain⟨g0,go0,hga,qp⟩:=(MQ rfl cT) 0 hx0
   rw [hb,jN] at qp
   subst hga
   have j8:=h8.ce 0
   have bj9:(0:Int) < xs.length:=oM
   go_upto_region 14 with (fail)
   obtain⟨W5,hW5⟩:=nm (wi.alloc (π #[Δ (bs b)] 29))
   have hA5:=nA wi (π #[Δ (bs b)] 29)
   have q11:=bE.new wi #[Δ (bs b)] 29
   rw [hW5] at hA5 q11 |-
   have HI5:=zq (HI.o.more hA5 (ex':=fun j=>j=wi.heap.size) (fun j e=>.inr ⟨qU e.symm,by rw [e];exact q11.lt⟩))
   have k5:=(DP.o.below HI5.o.bl DP.o.lt).cell 0
   simp only [bC,aU] at k5
   have hbS:=MS.sm b hbm
   have hbZ:=(MS.mem b).1 hbm
   clear hW5 hA5 h8 cT MS qp j8 HI hk hlt hb bj9 hx0
   generalize wi.heap.size=P11 at *
   go_wp2_with fail
   refine ka (ar2 (ζ ⟨fb,fo,δ⟩) M fc W5) fun W6 hW6=>?_
   have hA6:Bw W5 W6:=by rw [hW6];exact nA _ _
   have qBf:bE W6 W5.heap.size #[Θ (ζ ⟨fb,fo,δ⟩) M fc] 27:=by rw [hW6];exact bE.new _ _ _
   have HI6:=zq (HI5.o.below hA6)
   have q11:=zq (q11.below hA6 q11.lt)
   have QBf:=zq qBf
   have HbS:=zq hbS
   have HbZ:=zq hbZ
   have Hbl:=zq hbl
   clear hW6 hA6 qBf HI5 k5 hbS hbZ hbl hbm
   generalize W5.heap.size=Bf at *
   have xU:=zq (aW HB3.o HI6.o.bl)
   have HF6:=zq (aR PN.o HI6.o.bl)
   go_wp2_with fail
   refine Nx (gf:=157) (lb:=#[aB (ζ ⟨Bf,0,δ⟩)]) rfl (iC func157 kF rfl) (ar0 8 Bf w.heap.size (Θ (ζ ⟨fb,fo,δ⟩) M fc) M FS Ov.o c2 W6 HF6.o QBf.o) kN.trans (fun W l o o' _ h1 h2 _=>kN.putObj W l o o' h1 h2) (fun _=>rfl)
    (fun k W=>(LL W3 P8 (fun j=>j=P11) (KL SS FS M b k) (24+5 * k.length) W/\bE W P11 #[Δ (bs b)] 29)/\aQ (PIn FS M k))
    (fun _ _ _=>False)
    (fun s A B row hs hg hr=>⟨⟨hs.1.1.own hg (fun r e=>(hr r e).2) ((qO (β:=Unit) (θ _) HI6.o.bl.size) () A B row hs.1.1.bl hg hr),hs.1.2.own hg (fun r e=>(hr r e).2)⟩,hs.2⟩)
    (fun c s A B row hs hg hr=>hs)
    ⟨⟨HI6.o.iff (fun z=>⟨fun h=>.inl h,fun h=>h.elim id fun ⟨x,hx,_⟩=>absurd hx sP⟩) (by simp;omega),q11.o⟩,⟨fun x hx=>absurd hx sP,aP _⟩⟩
    ?frm ?assign ?body ?done ?stop
   case assign=>
    intro l z W K hK
    gi_wp2
    exact hK
   case stop=>
    rintro D c k W hD h
    exact h.elim
   case body=>
    rintro l L x W ⟨hx,hxl⟩ ⟨⟨hI,bk0⟩,hall⟩
    obtain⟨i,j⟩:=x
    obtain⟨Le,hjM,hup⟩:=hx
    simp only [] at Le hjM hup
    have hiM:i < M:=oM
    obtain⟨g1,e1⟩:=(HOk.o i hiM).good
    obtain⟨g2,e2⟩:=(HOk.o j hjM).good
    have HB:=zq (aW HB3.o hI.bl)
    have HEq:=zq (fun V (h:Bw W V)=>Lr _ _ g1 g2 hup V (Vy.o V (aW HB.o h)))
    rw [e1,e2] at HEq
    have HR:=zq (fun V (h:Bw W V)=>yA.own (aR (aR PN.o hI.bl) h))
    obtain⟨a0,b0',r1,c0,c1,qj,c3,c4⟩:=(HR.o W (μ _ _)).at (i:=i) (by rw [Ov.o];exact hiM) rfl
    injection r1 with r1;injection r1 with r1 r2;subst r1 r2
    obtain⟨a0,b0',r1,d0,d1,d2,d3,d4⟩:=(HR.o W (μ _ _)).at (i:=j) (by rw [Ov.o];exact hjM) rfl
    injection r1 with r1;injection r1 with r1 r2;subst r1 r2
    have k5:=(DP.o.below hI.bl DP.o.lt).cell 0
    simp only [bC,aU] at k5
    have HI:=zq hI
    have H11:=zq bk0
    have bk1:aQ (PIn FS M (L ++ [(i,j)])):=⟨fun y hy=>by
     rcases List.mem_append.1 hy with h | h
     .exact hall.o.1 y h
     .rw [List.mem_singleton.1 h];exact⟨Le,hjM,hup⟩,by rw [aJ];simp only [aC,bB];omega⟩
    have hZ:aQ (∀ (Lq:List Rat) (z:List UInt8),(∀ q,q∈Lq↔kK (FS.getD i Γ).q (FS.getD j Γ).q q)->((KL SS FS M b L z\/∃ q∈Lq,z=aO q/\bZ b < q)↔KL SS FS M b (L ++ [(i,j)]) z)):=fun Lq z hq=>by
     unfold KL aP5
     constructor
     .rintro((h | ⟨x,h1,h2⟩) | ⟨q,h1,h2,h3⟩)
      .exact .inl h
      .exact .inr ⟨x,gU _ h1,h2⟩
      .exact .inr ⟨(i,j),rM _ (List.mem_singleton.2 rfl),q,(hq q).1 h1,h2,h3⟩
     .rintro(h | ⟨x,h1,h2⟩)
      .exact .inl (.inl h)
      .rcases List.mem_append.1 h1 with h1 | h1
       .exact .inl (.inr ⟨x,h1,h2⟩)
       .rw [List.mem_singleton.1 h1] at h2
        obtain⟨q,h3,h4,h5⟩:=h2
        exact .inr ⟨q,(hq q).2 h3,h4,h5⟩
    have hiI:(i:Int) < M:=oM
    have hjI:(j:Int) < M:=oM
    have hi0:(0:Int)<=(i:Int):=oM
    have hj0:(0:Int)<=(j:Int):=oM
    have l5:=aD W _ k5
    have lf:=aD W _ c0
    unfold Fr.v Fr.cells at HEq
    generalize hfq:(FS.getD i Γ).q=fq at *
    generalize hgq:(FS.getD j Γ).q=gq at *
    have HRi:=zq (fun V (h:yA V (ζ ⟨fb,fo,δ⟩) FS)=>h.at (i:=i) (by rw [Ov.o];exact hiM) rfl)
    have HRj:=zq (fun V (h:yA V (ζ ⟨fb,fo,δ⟩) FS)=>h.at (i:=j) (by rw [Ov.o];exact hjM) rfl)
    generalize FS.getD i Γ=f at *
    generalize FS.getD j Γ=g at *
    obtain⟨fup,fco,fdir,Ll,fst⟩:=f
    obtain⟨O7,re,IL,gsp,gst⟩:=g
    simp only [] at *
    clear hI bk0 hall hup Le g1 g2 e1 e2 HRi HRj
    gi_wp2_with fail
    refine wO 8 (fun _=>.quiet) (fun V=>V.cell? ⟨P5,0,δ⟩=ζ (Θ (ζ ⟨fb,fo,δ⟩) M fc)/\V.rangeAt fb (fo+i * 5) [ω fup,Υ Ξ fco,Υ Ξ fdir,Δ (bs Ll),Δ (bs fst)]/\V.rangeAt fb (fo+j * 5) [ω O7,Υ Ξ re,Υ Ξ IL,Δ (bs gsp),Δ (bs gst)]) ⟨k5,ar3 c0 c1 qj c3 c4,ar3 d0 d1 d2 d3 d4⟩ ?_ (st:=fun w1 w2 h hb=>⟨bw5 hb l5 h.1,fun t u hu=>bw5 hb lf (h.2.1 t u hu),fun t u hu=>bw5 hb lf (h.2.2 t u hu)⟩)
    refine qS 0 rfl (pu ?_)
    refine qS 1 rfl (pu ?_)
    refine qS 2 rfl (pu ?_)
    refine qR 3 fb (fo+i * 5) #[ω fup,Υ Ξ fco,Υ Ξ fdir,Δ (bs Ll),Δ (bs fst)] (fun V h=>h.1.2.1) rfl (pu ?_)
    refine qS 4 rfl (pu ?_)
    refine qS 5 rfl (pu ?_)
    refine qS 6 rfl (pu ?_)
    refine qR 7 fb (fo+j * 5) #[ω O7,Υ Ξ re,Υ Ξ IL,Δ (bs gsp),Δ (bs gst)] (fun V h=>h.1.2.2) rfl (pu ?_)
    refine qT fun V hV _=>?_
    have uB:=hV.b
    clear hV
    refine eI 8 [] rfl (fun K hK=>?_) dW
    rw [ip kF]
    go_simp
    refine⟨trivial,(callsIn_wide.2 (HEq.o V uB)).mono ?_⟩
    rintro e V1 ⟨⟨a',n',cp,Lq,rfl,TA,hn',hr,hm,hq,bk2⟩,hb1⟩
    have hbW:Bw W V1:=aW uB hb1
    have Uw:=zq hbW
    have Hl:=zq TA
    have Hr:=zq hr
    have Hm:=zq (fun z=>hZ.o Lq z hm)
    have Hq:=zq hq
    have Hnw:aQ (∀ p,a' =ζ p->W.heap.size<=p.block):=fun p e=>aA uB.size (bk2 p e)
    clear hZ hm hq hr bk2 hb1 HEq hfq hgq c0 c1 qj c3 c4 d0 d1 d2 d3 d4 k5 l5 lf TA
    show K _ _
    refine hK _ _ (pu ?_)
    clear hK uB
    refine tI 9 rfl (pu ?_)
    refine tI 10 rfl (pu ?_)
    refine tI 11 rfl (pu ?_)
    refine tI 12 rfl (pu ?_)
    refine tI 13 rfl (pu ?_)
    refine mL kF ?_ _
    refine jH.normal ?_
    obtain⟨exq,aH2⟩:∃ ex:Nat->Prop,ex=fun k=>k=P11\/(0 < n' /\∃ p,a' =ζ p/\k=p.block):=⟨_,rfl⟩
    have HIq:aQ (LL W3 P8 exq (KL SS FS M b L) (24+5 * L.length) V1):=HI.o.more hbW (fun k hk=>by
     rw [aH2] at hk
     rcases hk with h | ⟨h0,p,h1,h2⟩
     .exact .inl h
     .refine .inr ⟨by rw [h2];exact Hnw.o p h1,?_⟩
      obtain⟨rb,ro,e1,x0⟩:=Hr.o 0 (by rw [uQ,υ,Hl.o];exact h0)
      rw [h1] at e1
      injection e1 with e1
      rw [h2,e1]
      exact aD V1 _ x0)
    have aH3:=zq aH2
    have bk3:=H11.bb hbW
    have HKW:aQ (kN W V1):=kN.call hbW
    have HKo:aQ (KeepsOthers W V1):=gC hbW
    have bk4:aQ (LL W3 P8 exq (fun z=>KL SS FS M b L z\/∃ q∈Lq.take 0,z=aO q/\bZ b < q) (24+5 * L.length+0) V1):=HIq.o.iff (fun z=>⟨.inl,fun h=>h.elim id fun ⟨q,h1,_⟩=>absurd h1 sP⟩) (θ _)
    have HNe:aQ (∀ k,exq k->k≠P8):=fun k hk=>by
     obtain⟨v0,xs0,h80,-⟩:=HI.o.o
     rw [aH2] at hk
     rcases hk with h | ⟨h0,p,h1,h2⟩
     .rw [h];exact Ad H11.o h80 dD
     .have:=Hnw.o p h1
      have:=h80.lt
      omega
    clear aH2 hbW HIq Uw
    gi_wp2
    gi_loopw [72] (fun i wr=>∃ m:Nat,i=Υ Ξ (m:Int)/\m<=n' /\aQ (LL W3 P8 exq (fun z=>KL SS FS M b L z\/∃ q∈Lq.take m,z=aO q/\bZ b < q) (24+5 * L.length+m) wr)/\aQ (∀ k,exq k->wr.heap[k]? =V1.heap[k]?)/\aQ (kN W wr)/\aQ (KeepsOthers W wr)) (fun i _=>n' - (ξ i).toNat)
    case atStart=>exact⟨0,rfl,aP _,bk4.o,fun _ _=>rfl,HKW.o,HKo.o⟩
    case round=>
     clear bk4 HKW HKo
     obtain⟨m,rfl,hm,sq,HSm,HKm,HOm⟩:=hrel
     rename η=>wr
     by_cases hmn:m < n'
     .obtain⟨v,xs,h8,cT,MS,hex⟩:=sq.o.o
      obtain⟨ab,ao,hae,x0⟩:=Hr.o m (by rw [uQ,υ,Hl.o];exact hmn)
      have hxb:exq ab:=by rw [aH3.o];exact .inr ⟨oM,_,hae,rfl⟩
      have L7:m < Lq.length:=by rw [Hl.o];exact hmn
      have hxz:(dQ (Lq.map aO)).getD m ψ=Δ (bs (aO (Lq.getD m 0))):=by simp [dQ,Ω,L7]
      rw [hxz] at x0
      have x1:wr.cell? ⟨ab,ao+m,δ⟩=ζ (Δ (bs (aO (Lq.getD m 0)))):=(Gc (HSm.o ab hxb)).trans x0
      have hzl:=Hq.o _ (aN L7 0)
      have hzS:=(Lz.of hzl).sm
      have hZ2:∀ z,((KL SS FS M b L z\/∃ q∈Lq.take m,z=aO q/\bZ b < q)\/(decide (bZ b < bZ (aO (Lq.getD m 0)))=ι/\z=aO (Lq.getD m 0)))↔(KL SS FS M b L z\/∃ q∈Lq.take (m+1),z=aO q/\bZ b < q):=fun z=>by
       have e:Lq.take (m+1)=Lq.take m ++ [Lq.getD m 0]:=by
        rw [bM L7];simp [Ω,L7]
       rw [e,iI,decide_eq_true_iff]
       simp only [iV,dE]
       constructor
       .rintro((h | ⟨q,h1,h2⟩) | ⟨h1,h2⟩)
        .exact .inl h
        .exact .inr ⟨q,.inl h1,h2⟩
        .exact .inr ⟨_,.inr rfl,h2,h1⟩
       .rintro(h | ⟨q,h1 | h1,h2⟩)
        .exact .inl (.inl h)
        .exact .inl (.inr ⟨q,h1,h2⟩)
        .subst h1;exact .inr ⟨h2.2,h2.1⟩
      have HLp:=zq ((MS.put hzS (decide (bZ b < bZ (aO (Lq.getD m 0))))).iff hZ2)
      subst hae
      have j8:=h8.ce 0
      have H8:=zq h8
      have PJ:=zq cT
      have Tz:=zq MS
      have Hex:=zq hex
      have HzS:=zq hzS
      have hmI:(m:Int) < n':=oM
      have aH4:aQ (bE wr P11 #[Δ (bs b)] 29):=(HSm.o P11 (by rw [aH3.o];exact .inl rfl)).trans bk3.o
      have HBm:=zq (aW HB3.o sq.o.bl)
      clear x0 hxz L7 hzl hZ2 h8 cT MS hex hzS
      generalize aO (Lq.getD m 0)=zt at *
      gi_wp2_with fail
      refine⟨trivial,(Calls.round (Xj 107 #[aB (ζ ⟨P11,0,δ⟩)] (iC func107 kF rfl) W3.heap.size xs.length v xs zt (decide (bZ b < bZ zt)) wr wr (Vy.o wr HBm.o) (μ _ _) sq.o.bl.size rfl (by have:=Tz.o.len;omega) Tz.o.sm Tz.o.asc HzS.o PJ.o
       (fun V2 h2=>aX8 zt b P11 V2 (Vy.o V2 (aW HBm.o h2)) HzS.o HbS.o (aH4.o.below h2 aH4.o.lt))) _ _).mono ?_⟩
      rintro e V2 ⟨⟨v1,rfl,PZ,LB⟩,hg1⟩
      obtain⟨a1,cc1,rfl⟩:=kU PZ
      have hP:=sq.o.put H8.o PJ.o Hex.o HLp.o PZ LB hg1
      have hF:=fun k hk=>(LL.far (P8:=P8) (v':=Θ a1 (Cq (decide (bZ b < bZ zt)) xs zt).length cc1) Hex.o hg1 hk (HNe.o k hk)).trans (HSm.o k hk)
      have hKo:=HOm.o.trans (Xk (P8:=P8) (v':=Θ a1 (Cq (decide (bZ b < bZ zt)) xs zt).length cc1) PJ.o hg1)
      have k81:=kT H8.o hg1 (iL H8.o PJ.o dD)
      have y8:=k81.ce 0
      have z8:=k81.fz 0
      have HP:=zq hP.1
      have HF:=zq hF
      have HKo:=zq hKo
      have Ma:=zq (HKm.o.trans hP.2)
      clear hP hF hKo k81 hg1 LB PZ j8 H8 PJ Tz Hex HLp
      gi_wp2
      go_roundw
      case rel=>exact⟨m+1,by go_num,oM,HP.o,HF.o,Ma.o,HKo.o⟩
      case measure=>simp only [ξ];omega
     .obtain rfl:n' =m:=oM
      have hT:Lq.take n' =Lq:=eA (by rw [Hl.o];exact θ _)
      have hI2:=sq.o
      rw [hT] at hI2
      have hI3:=(hI2.iff (c':=24+5 * (L ++ [(i,j)]).length) Hm.o (by rw [aJ];simp only [aC,bB];omega)).less (ex':=fun k=>k=P11) (fun k e=>by rw [aH3.o];exact .inl e)
      have aH4:bE wr P11 #[Δ (bs b)] 29:=(HSm.o P11 (by rw [aH3.o];exact .inl rfl)).trans bk3.o
      have hmI:¬ ((n':Int) < n'):=oM
      have HI3:=zq hI3
      clear hI2 hI3 hT
      gi_wp2
      refine⟨HOm.o.from _,HKm.o,⟨HI3.o,aH4⟩,?_⟩
      exact bk1.o
   case done=>
    rintro D W hD ⟨L,hF,⟨hI,h11⟩,hall⟩ hK
    obtain⟨v,xs2,h8,cT,MS,-⟩:=hI.o
    obtain⟨a2,cc2,rfl⟩:=kU cT
    have k5:=(DP.o.below hI.bl DP.o.lt)
    have k2:=(GX.o.below hI.bl GX.o.lt)
    have k3:=(Q7.o.below hI.bl Q7.o.lt)
    have k4:=(HQ4.o.below hI.bl HQ4.o.lt)
    have hFo:=aR PN.o hI.bl
    have hBW:=aW HB3.o hI.bl
    have n8:w.heap.size+1+1+1 < P8:=by rw [<- HP8.o];exact HQ4.o.lt
    obtain⟨XL,hXL⟩:=nm xs2.length
    rw [hXL] at h8
    have HXL:=zq hXL
    have HK5:=zq k5
    have Ma:=zq k2
    have HK3:=zq k3
    have HK4:=zq k4
    have HK8:=zq h8
    have HFo:=zq hFo
    have PJ:=zq cT
    have Tz:=zq MS
    have HFn:=zq hF
    have HAl:=zq hall.o
    have HBW:=zq hBW
    have HKd:=zq hK
    have HDs:=zq (aA HI6.o.bl.size hD)
    clear k5 k2 k3 k4 h8 hFo cT MS hF hall hBW hI h11 hK hD hXL
    go_upto_region 25 with (fail)
    refine tJ 0 (fun _=>.quiet) (fun _=>True) trivial ?_ (st:=fun _ _ _ _=>trivial)
    refine qT fun V hV _=>?_
    have uB:=hV.b
    clear hV
    have k5:=HK5.o.below uB HK5.o.lt
    have k2:=Ma.o.below uB Ma.o.lt
    have k3:=HK3.o.below uB HK3.o.lt
    have k4:=HK4.o.below uB HK4.o.lt
    have k8:=HK8.o.below uB HK8.o.lt
    have y5:=k5.ce 0
    have y8:=k8.ce 0
    have vm:=zq uB
    have n1:w.heap.size+1≠P8:=oM
    have m3:=k3.other (a:=⟨w.heap.size+1,0,δ⟩) (Θ (ζ ⟨fb,fo,δ⟩) M fc) (by show w.heap.size+1+1≠w.heap.size+1;omega)
    have m4:=(k4.other (a:=⟨w.heap.size+1,0,δ⟩) (Θ (ζ ⟨fb,fo,δ⟩) M fc) (by show w.heap.size+1+1+1≠w.heap.size+1;omega)).other (a:=⟨w.heap.size+1+1,0,δ⟩) (Θ a2 XL cc2) (by show w.heap.size+1+1+1≠w.heap.size+1+1;omega)
    have m8:=k8.other (a:=⟨w.heap.size+1,0,δ⟩) (Θ (ζ ⟨fb,fo,δ⟩) M fc) (by show P8≠w.heap.size+1;omega)
    have a2':=k2.cell 0
    have a3:=m3.cell 0
    have a4:=m4.cell 0
    have a8:=m8.cell 0
    have z2:=k2.fz 0
    have z3:=m3.fz 0
    have z4:=m4.fz 0
    have f2:=((k2.set 0 (Θ (ζ ⟨fb,fo,δ⟩) M fc)).other (a:=⟨w.heap.size+1+1,0,δ⟩) (Θ a2 XL cc2) (by show w.heap.size+1≠w.heap.size+1+1;omega)).other (a:=⟨w.heap.size+1+1+1,0,δ⟩) (Υ Ξ 0) (by show w.heap.size+1≠w.heap.size+1+1+1;omega)
    have f3:=(m3.set 0 (Θ a2 XL cc2)).other (a:=⟨w.heap.size+1+1+1,0,δ⟩) (Υ Ξ 0) (by show w.heap.size+1+1≠w.heap.size+1+1+1;omega)
    have f4:=m4.set 0 (Υ Ξ 0)
    have fK:((((V.setCell ⟨w.heap.size+1,0,δ⟩ (Θ (ζ ⟨fb,fo,δ⟩) M fc)).setCell ⟨w.heap.size+1+1,0,δ⟩ (Θ a2 XL cc2)).setCell ⟨w.heap.size+1+1+1,0,δ⟩ (Υ Ξ 0))).heap[D]? =ζ (.deferred (ζ [])):=
     (((dA _ _ _).trans (dA _ _ _)).trans (dA _ _ _)).same D _ ((uB.block D (Array.getElem?_eq_some_iff.1 HKd.o).1).trans HKd.o) rfl
    simp only [bC,aU] at a2' a3 a4 a8
    have F2:=zq f2
    have F3:=zq f3
    have F4:=zq f4
    have FK:=zq fK
    have aY2:=jU (aR PJ.o uB) HB3.o.size
    rw [HXL.o] at aY2
    have RF:aQ (∀ o',(∃ fv v xs b,(σ (bT #[Θ (ζ ⟨fb,fo,δ⟩) M fc,Θ a2 XL cc2,Υ Ξ 0]):Fg)=σ (bT #[fv,v,Υ Ξ 0])/\((((V.setCell ⟨w.heap.size+1,0,δ⟩ (Θ (ζ ⟨fb,fo,δ⟩) M fc)).setCell ⟨w.heap.size+1+1,0,δ⟩ (Θ a2 XL cc2)).setCell ⟨w.heap.size+1+1+1,0,δ⟩ (Υ Ξ 0)).putObj D o').ownsRow w.heap.size 46 5 fv M (jM FS)/\((((V.setCell ⟨w.heap.size+1,0,δ⟩ (Θ (ζ ⟨fb,fo,δ⟩) M fc)).setCell ⟨w.heap.size+1+1,0,δ⟩ (Θ a2 XL cc2)).setCell ⟨w.heap.size+1+1+1,0,δ⟩ (Υ Ξ 0)).putObj D o').ownsRow w.heap.size 29 1 v xs.length (dQ xs)/\oL SS FS M b/\(∀ z,oL SS FS M z->bZ b<=bZ z)/\∃ L,aG8 FS M L/\PIn FS M L/\Ls xs (KL SS FS M b L) 3000)/\
     Bw w ((((V.setCell ⟨w.heap.size+1,0,δ⟩ (Θ (ζ ⟨fb,fo,δ⟩) M fc)).setCell ⟨w.heap.size+1+1,0,δ⟩ (Θ a2 XL cc2)).setCell ⟨w.heap.size+1+1+1,0,δ⟩ (Υ Ξ 0)).putObj D o')):=fun o'=>by
     refine⟨⟨_,_,xs2,b,rfl,?_,?_,HbZ.o,Hbl.o,L,HFn.o,HAl.o,Tz.o.sm,Tz.o.asc,by have:=Tz.o.len;have:=HAl.o.2;omega,Tz.o.mem⟩,?_⟩
     .exact mE (Cs (Cs (Cs (aR HFo.o uB) k2 dD 0 _) m3 dD 0 _) m4 dD 0 _) (pX _ D o') (fun r e=>by cases e;exact⟨_,fK,rfl⟩)
     .rw [HXL.o]
      exact mE (Cs (Cs (Cs aY2 k2 dD 0 _) m3 dD 0 _) m4 dD 0 _) (pX _ D o') (fun r e=>by cases e;exact⟨_,fK,rfl⟩)
     .refine Below.trans (((((aW HBW.o uB).setCell (p:=⟨w.heap.size+1,0,δ⟩) (by show w.heap.size<=w.heap.size+1;omega) _).setCell (p:=⟨w.heap.size+1+1,0,δ⟩) (by show w.heap.size<=w.heap.size+1+1;omega) _).setCell (p:=⟨w.heap.size+1+1+1,0,δ⟩) (by show w.heap.size<=w.heap.size+1+1+1;omega) _)) (lQ (aA HB3.o.size HDs.o) fK)
    clear aY2 k2 k3 k4 k5 k8 m3 m4 m8 f2 f3 f4 fK uB
    refine eI 0 [1] rfl (fun K hK=>?_) (Sv rfl (fun K hK=>?_) dW)
    .rw [ip kF]
     go_simp
     refine hK _ _ (pu ?_)
     clear hK
     refine eI 1 [2] rfl (fun K hK=>?_) (Sv rfl (fun K hK=>?_) dW)
     .rw [ip kF]
      go_simp
      refine hK _ _ (pu ?_)
      clear hK
      refine eI 2 [] rfl (fun K hK=>?_) dW
      rw [ip kF]
      go_simp
      refine hK _ _ (pu ?_)
      clear hK
      refine eI 3 [] rfl (fun K hK=>?_) dW
      rw [ip kF]
      go_simp
      refine hK _ _ (pu ?_)
      clear hK
      refine eI 4 [] rfl (fun K hK=>?_) dW
      rw [ip kF]
      go_simp
      refine hK _ _ (pu ?_)
      clear hK
      refine mL kF ?_ _
      refine jH.normal ?_
      go_wp2
      refine⟨sP,.inl ⟨_,_,rfl,iD FK.o,?_⟩⟩
      exact⟨_,Ah Ql _ _ (w.heap.size+1) (w.heap.size+1+1) (w.heap.size+1+1+1) _ _ _ rfl rfl rfl ((F2.o.putObj _ FK.o rfl).cell 0) ((F3.o.putObj _ FK.o rfl).cell 0) ((F4.o.putObj _ FK.o rfl).cell 0) Yh Mq vT,RF.o _⟩
     .rw [ip kF]
      go_simp
      refine hK _ _ (pu ?_)
      clear hK
      refine eI 1 [] rfl (fun K hK=>?_) dW
      rw [ip kF]
      go_simp
      refine hK _ _ (pu ?_)
      clear hK
      refine eI 3 [] rfl (fun K hK=>?_) dW
      rw [ip kF]
      go_simp
      refine hK _ _ (pu ?_)
      clear hK
      refine eI 4 [] rfl (fun K hK=>?_) dW
      rw [ip kF]
      go_simp
      refine hK _ _ (pu ?_)
      clear hK
      refine mL kF ?_ _
      refine jH.normal ?_
      go_wp2
      refine⟨sP,.inl ⟨_,_,rfl,iD FK.o,?_⟩⟩
      exact⟨_,Ah Ql _ _ (w.heap.size+1) (w.heap.size+1+1) (w.heap.size+1+1+1) _ _ _ rfl rfl rfl ((F2.o.putObj _ FK.o rfl).cell 0) ((F3.o.putObj _ FK.o rfl).cell 0) ((F4.o.putObj _ FK.o rfl).cell 0) Yh Mq vT,RF.o _⟩
    .rw [ip kF]
     go_simp
     refine hK _ _ (pu ?_)
     clear hK
     refine eI 0 [] rfl (fun K hK=>?_) dW
     rw [ip kF]
     go_simp
     refine hK _ _ (pu ?_)
     clear hK
     refine eI 2 [] rfl (fun K hK=>?_) dW
     rw [ip kF]
     go_simp
     refine hK _ _ (pu ?_)
     clear hK
     refine eI 3 [] rfl (fun K hK=>?_) dW
     rw [ip kF]
     go_simp
     refine hK _ _ (pu ?_)
     clear hK
     refine eI 4 [] rfl (fun K hK=>?_) dW
     rw [ip kF]
     go_simp
     refine hK _ _ (pu ?_)
     clear hK
     refine mL kF ?_ _
     refine jH.normal ?_
     go_wp2
     refine⟨sP,.inl ⟨_,_,rfl,iD FK.o,?_⟩⟩
     exact⟨_,Ah Ql _ _ (w.heap.size+1) (w.heap.size+1+1) (w.heap.size+1+1+1) _ _ _ rfl rfl rfl ((F2.o.putObj _ FK.o rfl).cell 0) ((F3.o.putObj _ FK.o rfl).cell 0) ((F4.o.putObj _ FK.o rfl).cell 0) Yh Mq vT,RF.o _⟩
end
end
section
open Go Go.RowKit Go.Lib
theorem be{B':Nat}{v:χ}(h:gM B W v aZ)(hb:B'<=B):gM B' W v aZ:=⟨jU h.1 hb,fun l hl=>jU (h.2 l hl) hb⟩
theorem ar4(a N cap rs w)(hl:rs.length=N)(hN:N<=1000)(hn:∀ r,(aF rs r).length<=1000)(rr:GB w a rs)(h0:oX (aF rs) N=0)(hE:mV w)(hD:KH w):
 aE γ 21 #[bQ #[Θ a N cap]] w fun e w'=>(∃ v aZ,e=σ (bT #[v,Υ Ξ 0])/\gM w.heap.size w' v aZ/\aZ.map Lp.ps=sV (fP (aF rs) N) (bv9 (fP (aF rs) N)) (AS (aF rs) (cK rs) (fP (aF rs) N) N))/\Bw w w':=by
 obtain⟨c0,c1,c2,c3,c4,-⟩:=wP h0;have hC:∀ r,C8 (aF rs r):=Ja (fun r hr=>Fz oM) c3;have hp:∀ r,r < N->4<=(aF rs r).length:=fun r hr=>by
  have:=bJ.1 c4 r hr;unfold FZ at this;simp only [vS] at this;unfold pE at this;simp only [aI,decide_eq_true_eq] at this;exact this.2
 have hNk:∀ k,k<=N->4 * k<=bY (aF rs) k:=by
  intro k;induction k with
  | zero=>intro _;simp [bY]
  | succ k ih=>intro hk;rw [bY];have:=ih oM;have:=hp k oM;omega
 have hN6:=hNk N (θ _);have mG:∀ r∈rs,r.ss.length<=1000/\0 < r.ss.length:=fun r hr=>by
  obtain⟨i,hi,rfl⟩:=fC hr;have e:aF rs i=rs[i].ss:=by unfold aF;simp [Ω,hi]
  rw [<- e];exact⟨hn i,by have:=hp i oM;omega⟩
 have wu:∀ W,Bw w W->aE γ 46 #[bQ #[Θ a N cap]] W (Rt (Υ Ξ 0) W):=fun W hW=>FD a N cap rs W hl hN hn (rr.below hW) h0;have HFA:=zq (fun W (hW:Bw w W)=>an a N cap rs W hl hN hn (rr.below hW) h0 (hE.below hW) (hD.below hW) fun V hV=>wu V (aW hW hV));have ko:=zq (fun W (hW:Bw w W)=>WV a N cap rs W hl hN oM mG (rr.below hW) fun V hV=>wu V (aW hW hV));have CD:bY (aF rs) N=(cK rs).length:=by rw [<- hl];exact zH
 rw [<- CD] at ko;have DR:C8 (cK rs):=fun i=>by
  rcases fO i (cK rs).length with h | h
  .obtain⟨r,k,h1,h2,rfl⟩:=Hw (aF rs) N i oM;rw [zI oM h2];exact hC r k
  .rw [Ω,nW h];exact⟨dD,dD,dD,dD⟩
 have hco:∀ i,i < bY (aF rs) N->0<=((fP (aF rs) N).getD i Γ).co/\((fP (aF rs) N).getD i Γ).co<=65536:=fun i hi=>by
  obtain⟨r,k,h1,h2,rfl⟩:=Hw (aF rs) N i hi;rw [vC _ _ h1 h2];exact ao5 (hC r k)
 have CF:=nG (aF rs) N;have HOf:=zq (fun i (hi:i < bY (aF rs) N) W (hW:Bw w W)=>IF ((fP (aF rs) N).getD i Γ).co W (hE.below hW) (by have:=hco i hi;omega));have eG:=zq (fun i j (hi:i < bY (aF rs) N) (hj:j < bY (aF rs) N) (SB FB:Nat) (sa fa:Option bW) (ca cb:Nat) W (hW:Bw w W) cs cf r1 r2=>wv SB FB sa fa (bY (aF rs) N) (bY (aF rs) N) ca cb i j (cK rs) (fP (aF rs) N) W (hE.below hW) CD.symm CF hi hj oM oM cs cf r1 r2 DR);have HAr:=zq (fun (a2 b2 la:Option bW) (ca c2 cl:Nat) (aZ:List Lp) W (hW:Bw w W) (hll:aZ.length=N) (lI:aZ.map Lp.ps=AS (aF rs) (cK rs) (fP (aF rs) N) N) (Kf:∀ l∈aZ,l.ps.length<=l.cap) (rl:CE W la aZ) (rf:yA W a2 (fP (aF rs) N)) (ra:Al W b2 (bv9 (fP (aF rs) N)))=>
  LI a2 b2 la (bY (aF rs) N) ca c2 N cl (fP (aF rs) N) (bv9 (fP (aF rs) N)) aZ W oM hll (fun l hl=>by
   have hm:l.ps∈AS (aF rs) (cK rs) (fP (aF rs) N) N:=by rw [<- lI];exact dC hl
   obtain⟨r,hr,e⟩:=FE hm;have:=hp r hr;have:=hn r;have hc:=Kf l hl;rw [e,sX] at hc |-;exact⟨oM,oM,hc⟩) (fun l hl p hpm=>by
   have hm:l.ps∈AS (aF rs) (cK rs) (fP (aF rs) N) N:=by rw [<- lI];exact dC hl
   obtain⟨r,hr,e⟩:=FE hm;rw [e] at hpm;obtain⟨k,hk,rfl⟩:=List.mem_map.1 hpm;exact ao6 DR hC hr (List.mem_range.1 hk)) rl (fun p q hpo hqo V hV=>by
   obtain⟨⟨s,hs,Ki⟩,px,py,pe⟩:=hpo;obtain⟨⟨t,ht,xt⟩,qx,qy,qe⟩:=hqo;rw [CF] at Ki xt;exact Ro a2 b2 (bY (aF rs) N) ca c2 (fP (aF rs) N) (bv9 (fP (aF rs) N)) p q s t V (hE.below (aW hW hV)) hs Ki ht xt CF (by unfold bv9;rw [υ,CF]) (rf.below hV) (ra.below hV) px py qx qy pe qe))
 have HR:=zq rr;have HL:=zq hl;have HN:=zq hn;have HP:=zq hp;have HAt:aQ (∀ i,i < bY (aF rs) N->(bv9 (fP (aF rs) N)).take (i+1)=(bv9 (fP (aF rs) N)).take i ++ [aO ((((fP (aF rs) N).getD i Γ).co:Int):Rat)]):=fun i hi=>by
  unfold bv9;rw [bM (by rw [υ,CF];exact hi)];simp [Ω,CF,hi]
 have HAl:aQ ((bv9 (fP (aF rs) N)).length=bY (aF rs) N):=by show _=_;unfold bv9;rw [υ,CF]
 have HEC:aQ (∀ r,bY (aF rs) (r+1)=bY (aF rs) r+(aF rs r).length):=fun r=>rfl;have HEL:aQ (∀ r,AS (aF rs) (cK rs) (fP (aF rs) N) (r+1)=AS (aF rs) (cK rs) (fP (aF rs) N) r ++ [tL (cK rs) (fP (aF rs) N) (bY (aF rs) r) (aF rs r).length (aF rs r).length]):=fun r=>rfl;have HE0:aQ (AS (aF rs) (cK rs) (fP (aF rs) N) 0= []):=rfl;have IU:aQ (∀ k,k<=N->bY (aF rs) k<=bY (aF rs) N):=fun k hk=>sW hk;have Ov:=zq CF;clear hl rr h0 hE hD c0 c1 c3 c4 hC hp hNk mG wu CD DR hco hn CF;generalize bv9 (fP (aF rs) N)=AT,AS (aF rs) (cK rs) (fP (aF rs) N)=LS at *;have HNL:=zq hN6;clear hN6;generalize cK rs=SS,fP (aF rs) N=FS at *;obtain⟨M,hM⟩:=nm (bY (aF rs) N);rw [hM] at HFA ko HOf eG HAr HAt HAl IU Ov HNL c2;have HM:=zq hM;clear hM;have fL:=nA w (π #[Θ a N cap] 24);have vH:=bE.new w #[Θ a N cap] 24;obtain⟨W0,fI⟩:=nm (w.alloc (π #[Θ a N cap] 24));rw [fI] at fL vH;have gH:=zq fL;have rD:=zq vH;have b0:=vH.ce 0;have HW:=zq fI;have H1:=zq (HFA.o _ fL);clear fL vH fI HFA;refine eE func21 rfl ?_;simp only [ntmps21,bI,aC,bB,cL,dF,bG,bH,cE,bN,cM,bV];go_upto_region 1 with (fail)
 rw [HW.o];clear HW;go_wp2_with fail
 refine H1.o.mono ?_;rintro e W1 ⟨⟨v1,rfl,PZ⟩,hb⟩;obtain⟨fa,fc,rfl⟩:=E5 PZ;have aH0:=gH.bS hb;have Fv:=rD.bb hb;have HF1:=zq (yA.own PZ);have b0:=aY hb b0;clear hb PZ H1 rD gH;obtain⟨W2,TH⟩:=nm (W1.alloc (π #[Θ fa M fc] 27));have hb2:=nA W1 (π #[Θ fa M fc] 27);have O8:=bE.new W1 #[Θ fa M fc] 27;rw [TH] at hb2 O8;have eU:=aH0.bS hb2;have Pb:=zq (HF1.o.below hb2);have GX:=zq O8;have HQp:=Fv.bb hb2;have HW2:=zq TH;have H1:=zq (ko.o _ eU.o);clear hb2 O8 TH ko b0;go_upto_region 2 with (fail)
 rw [HW2.o];clear HW2;have b0:=HQp.o.ce 0;go_wp2_with fail
 refine H1.o.mono ?_;rintro e W3 ⟨⟨sg,sc,rfl,hs3⟩,hb⟩;have HB3:=eU.bS hb;have PN:=zq (Pb.o.below hb);have bk5:=GX.bb hb;have bk6:=HQp.bb hb;have HS3:=zq hs3;clear hb hs3 eU Pb GX HQp H1 b0;obtain⟨W4,hW4⟩:=nm (W3.alloc (π #[Θ (ζ ⟨sg,0,δ⟩) M sc] 81));have hb4:=nA W3 (π #[Θ (ζ ⟨sg,0,δ⟩) M sc] 81);have hq4:=bE.new W3 #[Θ (ζ ⟨sg,0,δ⟩) M sc] 81;rw [hW4] at hb4 hq4;have HB4:=HB3.bS hb4;have HF4:=zq (PN.o.below hb4);have HS4:=zq (HS3.o.below hb4);have bf:=bk5.bb hb4;have aH5:=bk6.bb hb4;have aH6:=zq hq4;have HW4:=zq hW4;clear hb4 hq4 hW4 HB3 PN bk5 bk6 HS3;go_upto_region 5 with (fail)
 rw [HW4.o];clear HW4;obtain⟨P4,hP4⟩:=nm W1.heap.size;obtain⟨P6,hP6⟩:=nm W3.heap.size;obtain⟨P1,hP1⟩:=nm w.heap.size;rw [hP4] at bf;rw [hP6] at aH6;rw [hP1] at aH5;first | rw [hP4,hP6,hP1] | skip
 clear hP4 hP6 hP1;obtain⟨W5,hW5⟩:=nm (W4.alloc (π #[Θ fa M fc,Θ δ 0 0] 70));have hb5:=nA W4 (π #[Θ fa M fc,Θ δ 0 0] 70);have hq5:=bE.new W4 #[Θ fa M fc,Θ δ 0 0] 70;rw [hW5] at hb5 hq5;have wG:=zq hb5;have DP:=zq hq5;have HW5:=zq hW5;clear hb5 hq5 hW5;have c4:=bf.o.ce 0;go_upto_region 8 with (fail)
 rw [HW5.o];clear HW5;obtain⟨G,hG⟩:=nm W4.heap.size;have HG:aQ (W4.heap.size=G):=hG;rw [hG] at DP;first | rw [hG] | skip
 clear hG;have c5:=(bf.o.below wG.o bf.o.lt).cell 0;simp only [bC,aU] at c5;have O0:aQ (W5.ownsRow (G+1) 29 1 (Θ δ 0 0) 0 (dQ (AT.take 0))):=⟨by simp [dQ],.inl ⟨rfl,rfl⟩⟩;go_wp2;go_loopw [38] (fun i wr=>∃ (j:Nat) (v:χ),i=Υ Ξ j/\j<=M/\aQ (Bw W4 wr)/\aQ (bE wr G #[Θ fa M fc,v] 70)/\aQ (wr.ownsRow (G+1) 29 1 v j (dQ (AT.take j)))) (fun i _=>M - (ξ i).toNat);case atStart=>exact⟨0,_,rfl,aP _,wG.o,DP.o,O0.o⟩
 case round=>
  clear O0 DP wG c5 c4;obtain⟨j,v,rfl,hj,HB,QT,sS⟩:=hrel;rename η=>wr;by_cases hlt:j < M
  .obtain⟨b1,off,rfl,f0,f1,f2,f3,f4⟩:=(HF4.o.below HB.o).at (i:=j) (by rw [Ov.o];exact hlt) rfl;have HOj:=zq (HOf.o j hlt);have HTj:=zq (HAt.o j hlt);have hjI:(j:Int) < M:=oM;generalize FS.getD j Γ=f at *;obtain⟨fup,fco,fdir,Ll,fst⟩:=f;simp only [] at f0 f1 f2 f3 f4 HOj HTj;generalize bs fst=FST,bs Ll=FSP,aO ((fco:Int):Rat)=Y at *;obtain⟨wf,hwf⟩:=nm (wr.alloc (π #[ω fup,Υ Ξ fco,Υ Ξ fdir,Δ FSP,Δ FST] 46));have jh:=nA wr (π #[ω fup,Υ Ξ fco,Υ Ξ fdir,Δ FSP,Δ FST] 46);have hqf:=bE.new wr #[ω fup,Υ Ξ fco,Υ Ξ fdir,Δ FSP,Δ FST] 46;rw [hwf] at jh hqf;have HBf:=HB.bS jh;have HQf:=QT.bb jh;have PJ:=zq (aR sS.o jh);have q1:=hqf.cell 1;simp only [bC,cO,aU] at q1;have HWf:=zq hwf;clear jh hqf hwf HB QT sS;go_upto_region 11 with (fail)
   rw [HWf.o];clear HWf f0 f1 f2 f3 f4;have H1:=zq (HOj.o _ (aW HB4.o HBf.o));clear HOj;go_wp2_with fail
   refine ka H1.o fun w2 hb=>?_;have wF:=HBf.bS hb;have QT:=HQf.bb hb;have Gt:=aR PJ.o hb;have O6:G+1<=w2.heap.size:=QT.o.lt;obtain⟨t0,t1,tf0,tf1,tl⟩:=QT.o.two;have hGl:W4.heap.size<=G:=qU HG.o;clear HBf PJ H1 hb q1 HQf;go_wp2_with (at_builtin;refine bz0 rfl _ _ rfl (G+1) v j _ rfl Gt _ rfl oM O6 ?_;intro g1 Vc w1 Nk hg1 Vd;have hqg:=zq (QT.o.grown Vd (CL Gt oM));obtain⟨t0,t1,tf0,tf1,tl⟩:=hqg.o.two)
   have eU:=zq ((dT wF.o Vd Gt oM wF.o.size).setCell (p:=⟨G,1,δ⟩) hGl (Θ (ζ ⟨g1,0,δ⟩) (j+1) Vc));have QT2:=zq (hqg.o.set 1 (Θ (ζ ⟨g1,0,δ⟩) (j+1) Vc));rw [<- Kr,<- HTj.o] at Nk;have ae7:=zq (oF Nk (a:=⟨G,1,δ⟩) (by show G < G+1;omega) (Θ (ζ ⟨g1,0,δ⟩) (j+1) Vc));clear Gt Nk Vd t0 t1 tf0 tf1 tl hqg wF QT;go_wp2;go_roundw;case rel=>exact⟨j+1,_,by go_num,oM,eU.o,QT2.o,ae7.o⟩
   case measure=>simp only [ξ];omega
  .obtain rfl:M=j:=oM;obtain⟨vb,vc,rfl⟩:=E5 sS.o;have HNr:aQ (Al wr vb AT):=by
    have h:=sS.o;rw [eA (qU HAl.o)] at h;exact ae3 (Qy.own h)
   have xU:=zq (aW HB4.o HB.o);have HF6:=zq (HF4.o.below HB.o);have HS6:=zq (HS4.o.below HB.o);have aH7:=zq (bf.o.below HB.o bf.o.lt);have aH8:=zq (aH6.o.below HB.o aH6.o.lt);have bs0:=zq (aH5.o.below HB.o aH5.o.lt);have b0:=bs0.o.ce 0;have L0:aQ (gM wr.heap.size wr (Θ δ 0 0) []):=⟨⟨sP,.inl ⟨rfl,rfl⟩⟩,fun l hl=>absurd hl sP⟩;clear HB HF4 HS4 bf aH6 aH5 HB4 sS HOf HAt;go_wp2;go_loopw [13,14,59] (fun ov fv i wk=>∃ (ad:Option bW) (co:Nat) (aZ:List Lp),i=Υ Ξ (aZ.length:Nat)/\aZ.length<=N/\fv=Υ Ξ (bY (aF rs) aZ.length:Nat)/\ov=Θ ad aZ.length co/\aQ (aZ.map Lp.ps=LS aZ.length)/\aQ (gM wr.heap.size wk (Θ ad aZ.length co) aZ)/\aQ (Bw wr wk)) (fun _ _ i _=>N - (ξ i).toNat);case atStart=>exact⟨_,0,[],rfl,aP _,rfl,rfl,HE0.o.symm,L0.o,μ _ _⟩
   case round=>
    clear L0 b0;obtain⟨ad,co,aZ,rfl,hk,rfl,rfl,Hq,HO,HB⟩:=hrel;rename η=>wk;obtain⟨r,hr⟩:=nm aZ.length;rw [hr] at hk Hq HO |-;by_cases hrN:r < N
    .obtain⟨b,o,rfl,k0,-⟩:=(HR.o.below (aW xU.o HB.o)).at (i:=r) (by rw [HL.o];exact hrN) rfl;rw [show(rs.getD r Γ).ss.length=(aF rs r).length from rfl] at k0;have LB:=HN.o r;have hp1:=HP.o r hrN;have LK:=IU.o (r+1) hrN;have EC:=zq (HEC.o r);rw [EC.o] at LK;have EL:=zq (HEL.o r);have Hr:=zq hr;clear hr;obtain⟨C1,hC1⟩:=nm (bY (aF rs) (r+1));rw [hC1] at EC;have HC1:=zq hC1;clear hC1;obtain⟨C0,hC0⟩:=nm (bY (aF rs) r);rw [hC0] at EC EL LK |-;have HC0:=zq hC0;clear hC0;obtain⟨n,LD⟩:=nm (aF rs r).length;rw [LD] at EC EL LK LB hp1 k0;have Uz:=zq LD;clear LD;generalize (rs.getD r Γ).cap=cr,(rs.getD r Γ).a=ar at *;have hrI:(r:Int) < N:=oM;have X0:aQ (wk.ownsRow wk.heap.size 35 3 (Θ δ 0 0) 0 (cJ (tL SS FS C0 n 0))):=⟨rfl,.inl ⟨rfl,rfl⟩⟩;go_wp2;go_loopw [17,65] (fun v i wi=>∃ k:Nat,i=Υ Ξ k/\k<=n/\aQ (wi.ownsRow wk.heap.size 35 3 v k (cJ (tL SS FS C0 n k)))/\aQ (Bw wk wi)) (fun _ i _=>n - (ξ i).toNat);case atStart=>exact⟨0,rfl,aP _,X0.o,μ _ _⟩
     case round=>
      clear X0 k0;obtain⟨k,rfl,hk2,HX,iz⟩:=hrel;rename η=>wi;obtain⟨qb,qc,rfl⟩:=E5 HX.o;by_cases hkn:k < n
      .have FU:=MD k n;have hmn:(k+1) % n < n:=aV _ oM;have EB:aQ (tL SS FS C0 n (k+1)=tL SS FS C0 n k ++ [⟨((C0+k:Nat):Int),aO ((Cm SS FS (C0+k) (C0+k):Int):Rat),aO ((Cm SS FS (C0+k) (C0+(k+1) % n):Int):Rat)⟩]):=ww SS FS C0 n k;have FV:=zq (aW HB.o iz.o);have K1:=zq (fun W (hW:Bw wi W)=>eG.o (C0+k) (C0+k) oM oM P6 P4 (ζ ⟨sg,0,δ⟩) fa sc fc W (aW xU.o (aW FV.o hW)) ((aH8.o.below (aW FV.o hW) aH8.o.lt).cell 0) ((aH7.o.below (aW FV.o hW) aH7.o.lt).cell 0) (HS6.o.below (aW FV.o hW)) (HF6.o.below (aW FV.o hW)));have K2:=zq (fun W (hW:Bw wi W)=>eG.o (C0+k) (C0+(k+1) % n) oM oM P6 P4 (ζ ⟨sg,0,δ⟩) fa sc fc W (aW xU.o (aW FV.o hW)) ((aH8.o.below (aW FV.o hW) aH8.o.lt).cell 0) ((aH7.o.below (aW FV.o hW) aH7.o.lt).cell 0) (HS6.o.below (aW FV.o hW)) (HF6.o.below (aW FV.o hW)));generalize (k+1) % n=m2,aO ((Cm SS FS (C0+k) (C0+(k+1) % n):Int):Rat)=Z,aO ((Cm SS FS (C0+k) (C0+k):Int):Rat)=Y at *;have w1:IntKind.i64.wrap ((k:Int)+1)=(k:Int)+1:=aM _ oM;have w2:IntKind.i64.wrap ((C0:Int)+m2)=(C0:Int)+m2:=aM _ oM;have w3:IntKind.i64.wrap ((C0:Int)+k)=(C0:Int)+k:=aM _ oM;simp only [Int.natCast_add] at K1 K2 EB;have v5:¬ n=0:=oM;have v6:(k:Int) < n:=oM;have H1:=zq (K1.o _ (μ _ wi));clear K1;go_wp2_with fail
       refine ka H1.o fun w2 hb2=>?_;have H2:=zq (K2.o _ hb2);clear H1 K2;go_wp2_with fail
       refine ka H2.o fun w3 hb3=>?_;have HBv:=zq (aW iz.o (hb2.trans (hb3.mono hb2.size)));have cT:=aR (aR HX.o hb2) hb3;clear H2 hb2 hb3 iz HX FV;go_wp2_with (at_builtin;refine ah4 rfl _ _ rfl wk.heap.size (Θ qb k qc) k _ rfl cT _ _ _ rfl oM HBv.o.size ?_;intro g6 bb8 w6 BV hg6 af3)
       have HBz:=zq (dT HBv.o af3 cT (θ _) HBv.o.size);have e6:cJ (tL SS FS C0 n k) ++ [Υ Ξ ((C0:Int)+k),Δ (bs Y),Δ (bs Z)]=cJ (tL SS FS C0 n (k+1)):=by rw [EB.o,tO];rfl
       rw [e6] at BV;have HX6:=zq BV;clear cT BV af3 e6 HBv EB;go_wp2;go_roundw;case rel=>exact⟨k+1,by go_num,oM,HX6.o,HBz.o⟩
       case measure=>simp only [ξ];omega
      .obtain rfl:n=k:=oM;have Uv:=zq (aW HB.o iz.o);have hO1:=HO.o.below iz.o;have hX1:aQ (wi.ownsRow wr.heap.size 35 3 (Lp.mk qb qc (tL SS FS C0 n n)).v (Lp.mk qb qc (tL SS FS C0 n n)).ps.length (cJ (Lp.mk qb qc (tL SS FS C0 n n)).ps)):=by
        have h:=jU HX.o HB.o.size;unfold Lp.v;simp only [sX];exact h
       have rB:=hO1.1;rw [Hr.o] at rB;have Lj:=zq hO1;clear hO1 HO HX iz HB;go_wp2_with (at_builtin;refine VC rfl _ _ rfl wr.heap.size (Θ ad r co) r _ rfl rB qb n qc rfl oM Uv.o.size ?_;intro g8 Vl w8 IM hg8 No)
       have HBz:=zq (dT Uv.o No rB (θ _) Uv.o.size);have hlen:(aZ ++ [Lp.mk qb qc (tL SS FS C0 n n)]).length=r+1:=by rw [aJ,Hr.o];rfl
       have e8:aZ.map Lp.v ++ [Θ qb n qc]=aZ.map Lp.v ++ [(Lp.mk qb qc (tL SS FS C0 n n)).v]:=by unfold Lp.v;simp only [sX]
       rw [e8] at IM;have hO8:=Lj.o.grow hX1.o No (by rw [Hr.o];exact IM);rw [Hr.o] at hO8;have HO8:=zq hO8;have HQ8:aQ ((aZ ++ [Lp.mk qb qc (tL SS FS C0 n n)]).map Lp.ps=LS (r+1)):=by
        show _=_;rw [dV,Hq.o,EL.o];rfl
       have TG:=zq hlen;have w4:IntKind.i64.wrap ((C0:Int)+n)=(C1:Int):=by rw [aM _ oM,EC.o];omega
       clear rB IM No e8 hO8 hlen Uv Lj hX1 Hq EL;go_wp2;go_roundw;case rel=>exact⟨_,_,aZ ++ [Lp.mk qb qc (tL SS FS C0 n n)],by rw [TG.o];go_num,by rw [TG.o];exact hrN,by rw [TG.o,HC1.o,EC.o,Int.natCast_add],by rw [TG.o],by rw [TG.o];exact HQ8.o,by rw [TG.o];exact HO8.o,HBz.o⟩
       case measure=>simp only [ξ];omega
    .obtain rfl:N=r:=oM;have QT2:=QT.o.below HB.o QT.o.lt;obtain⟨t0,t1,tf0,tf1,tl⟩:=QT2.two;have Dx:=zq (aW xU.o HB.o);have Kf:∀ l∈aZ,l.ps.length<=l.cap:=fun l hl=>by
      rcases(HO.o.2 l hl).2 with ⟨h1,h2⟩ | ⟨g,c,pZ,h1,h2,h3,h4,h5⟩
      .omega
      .unfold Lp.v at h1;injection h1 with e1 e2 e3;omega
     have H1:=zq (HAr.o fa vb ad fc vc co aZ wk Dx.o hr Hq.o Kf (gM.reads HO.o) (HF6.o.below HB.o) (HNr.o.below HB.o));clear QT2 Kf HAr HO HB hr;go_wp2_with fail
     refine H1.o.mono ?_;rintro e w2 ⟨⟨v,qK,rfl,h1,h2⟩,hb⟩;have X1:=zq (be h1 Dx.o.size);have X2:=zq h2;have X3:=Dx.bS hb;rw [Hq.o] at X2;clear h1 h2 hb H1;go_wp2;exact sC (nD rfl _ _) rfl ⟨⟨_,qK,rfl,X1.o,X2.o⟩,X3.o⟩
theorem ar5{n m:Nat}{b:List UInt8}(h:Ls xs (KL ss fs n b L) m)(hb:oL ss fs n b)(hl:∀z,oL ss fs n z->bZ b<=bZ z):0<xs.length/\xs.getD 0 []=b:=by
 have hm:=(h.mem b).2 (.inl hb);have h0:=vQ hm;refine⟨h0,?_⟩;have h1:∀z∈xs,bZ b<=bZ z:=fun z hz=>by
  rcases(h.mem z).1 hz with k|⟨x,_,q,_,e,k⟩
  .exact hl z k
  .rw[e,iI];grind
 obtain⟨j,hj,e⟩:=fC hm;have hx:=h1 _ (fJ h0);have e0:xs.getD 0 []=xs[0]:=by rw[Ω,aS h0,bK]
 rw[e0];by_cases h:j=0
 .subst h;exact e
 .have:=(List.pairwise_iff_getElem.1 (Ls.asc ‹_›)) 0 j h0 hj oM;rw[e]at this;grind
section
variable(a:Option bW)(N cap:Nat)(rs:List Rg)(w:η)(hl:rs.length=N)(hN:N<=1000)(hn:∀r,(aF rs r).length<=1000)(rr:GB w a rs)(h0:oX (aF rs) N=0)(hE:mV w)
include hl hN hn rr h0 hE
theorem aH9(hD:KH w)(hng:∃i,i<(cK rs).length/\((cK rs).getD i Γ).gable=ν):
 aE γ 22 #[bQ #[Θ a N cap]] w fun e w'=>(∃b,e=σ (bT #[Δ (bs b),Υ Ξ 0])/\oL (cK rs) (fP (aF rs) N) (bY (aF rs) N) b/\∀z,oL (cK rs) (fP (aF rs) N) (bY (aF rs) N) z->bZ b<=bZ z)/\Bw w w':=by
 have H:=zq (fun W(hW:Bw w W)=>RU a N cap rs W hl hN hn (rr.below hW) h0 (hE.below hW) (hD.below hW) hng);clear hl hn rr h0 hE hD hng;have fL:=nA w (π #[Θ a N cap] 24);have q0:=bE.new w #[Θ a N cap] 24;obtain⟨W0,fI⟩:=nm (w.alloc (π #[Θ a N cap] 24));rw[fI]at fL q0;have HW:=zq fI;have b0:=q0.ce 0;have gH:=zq fL;clear fI fL q0;go_enter func22,ntmps22;go_upto_region 1 with(fail)
 rw[HW.o];clear HW;go_wp2_with fail
 refine(H.o W0 gH.o).mono ?_;rintro e W1⟨⟨fv,v,xs,b,rfl,-,ho,hs,Zy,L,-,-,MS⟩,hb1⟩;obtain⟨hx0,hx⟩:=ar5 MS hs Zy;obtain⟨ga,gc,rfl⟩:=kU ho;obtain⟨g0,go0,rfl,qp⟩:=(MQ rfl ho) 0 hx0;rw[hx,jN]at qp;have bj9:(0:Int)<xs.length:=oM;have R:=zq (And.intro hs Zy);have eG:=gH.bS hb1;clear hs Zy MS ho hb1 hx gH H;go_wp2;go_ret2;exact⟨⟨b,rfl,R.o⟩,eG.o⟩
end
section
variable(a:Option bW)(N cap:Nat)(rs:List Rg)(w:η)(hl:rs.length=N)(hN:N<=1000)(hn:∀r,(aF rs r).length<=1000)(rr:GB w a rs)(h0:oX (aF rs) N=0)(hE:mV w)
include hl hN hn rr h0 hE
theorem ar7(z)(hz:Lz z):aE γ 52 #[bQ #[Θ a N cap],Δ (bs z)] w fun e w'=>e=σ (Υ Ξ 0)/\Bw w w':=by
 have hs:=hz.sm;have hx:=hs.x17;have HC:=zq (fun W(hW:Bw w W)=>FD a N cap rs W hl hN hn (rr.below hW) h0);have HP:=zq fun W(hW:Bw w W)=>JV (bZ z) W (hE.below hW) hx;rw[hs.eq]at HP;generalize bZ z=x at *;have HT:=zq (fun W=>qZ (bs (itoa x.num)) {data:=#[45]} W);rw[gL,show({data:=#[45]}:ByteArray).data.toList=[45]from rfl,wD]at HT;have l1:=iE hx.1 dD;have l2:=wE hx.2 dD;rw[<-lN]at l1 l2;generalize bs z=Z,bs (itoa (x.den:Int))=D,bs (decDigits x.num.natAbs)=M,bs (itoa x.num)=NN at *;have k1:¬(20:Int)<(M.size:Int):=oM;have k2:¬(20:Int)<(D.size:Int):=oM;have K1:=zq k1;have K2:=zq k2;clear hl hn rr h0 hE hs hx l1 l2 hz k1 k2;have fL:=nA w (π #[Θ a N cap] 24);have q0:=bE.new w #[Θ a N cap] 24;obtain⟨W0,fI⟩:=nm (w.alloc (π #[Θ a N cap] 24));rw[fI]at fL q0;have HW:=zq fI;have b0:=q0.ce 0;have gH:=zq fL;clear fI fL q0;go_enter func52,ntmps52;go_upto_region 1 with(fail)
 rw[HW.o];clear HW;go_wp2_with fail
 refine ka (HC.o W0 gH.o) fun W1 hb1=>?_;have eG:=gH.bS hb1;clear hb1 gH;go_wp2_with fail
 refine ka (HP.o _ eG.o) fun W2 hb2=>?_;have eU:=eG.bS hb2;clear hb2 eG;go_wp2_with fail
 refine kr (HT.o _) ?_;have k1:=K1.o;have k2:=K2.o;go_wp2;go_ret;exact⟨rfl,eU.o⟩
end
theorem aY3(g x z w)(hE:mV w)(hx:Sm x)(hz:Sm z)(hc:w.cell? ⟨g,0,δ⟩=ζ (Δ (bs z))):
 aE γ 54 #[Δ (bs x),aB (ζ ⟨g,0,δ⟩)] w fun e w'=>e=σ (ω (decide (0<(fQ x z).1)))/\Bw w w':=by
 have H:=zq (JZ x z w hE hx hz);generalize(fQ x z).1=c at *;generalize bs z=Z,bs x=X at *;clear hE hx hz;go_enter func54,ntmps54;go_wp2_with fail
 refine ka H.o fun W1 hb1=>?_;go_wp2;go_ret;exact⟨rfl,hb1⟩
end
section
open Go Go.RowKit Go.Shelf Go.Lib
def Xm(f:Nat->List Sd)(N:Nat):Bool:=!Bb f N&&decide (oX f N=0)
theorem ku(hl:rs.length=N)(h:bY (aF rs) N<=40):(aF rs r).length<=1000:=by
 by_cases hr:r<N
 .have:=ae (f:=aF rs) hr;omega
 .rw[Fz oM];exact aP _
theorem Xo(a N cap rs w)(hl:rs.length=N)(h40:40 < N)(hN:N<=9223372036854775807)(rr:GB w a rs):
 aE γ 14 #[bQ #[Θ a N cap],Υ Ξ 12] w fun e w'=>e=σ (ω ι)/\Bw w w':=by
 have HR:=zq rr;have HL:=zq hl;clear hl rr;have gH:=zq (nA w (π #[Θ a N cap] 24));have rD:=zq (bE.new w #[Θ a N cap] 24);have b0:=rD.o.ce 0;go_enter func14,ntmps14;go_upto_region 1 with (fail)
 generalize w.alloc (π #[Θ a N cap] 24)=W0 at *;go_wp2;go_loopw [5,6] (fun t i wr=>∃ (r:Nat) (z:Int),i=Υ Ξ r/\t=Υ Ξ z/\r<=N/\wr=W0) (fun _ i _=>N - (ξ i).toNat);case atStart=>exact⟨0,0,rfl,rfl,aP _,rfl⟩
 case round=>
  obtain⟨r,z,rfl,rfl,hr,rfl⟩:=hrel;by_cases hrN:r < N
  .obtain⟨b,o,rfl,c0,-⟩:=(HR.o.below gH.o).at (i:=r) (by rw [HL.o];exact hrN) rfl;generalize (rs.getD r Γ).ss.length=n at *;have hrI:(r:Int) < N:=oM;obtain⟨y,hy⟩:=nm (IntKind.i64.wrap (z+n));go_wp2;go_roundw;case rel=>exact⟨r+1,y,by go_num,by rw [<- hy] <;> rfl,oM,by first | rfl | trivial⟩
   case measure=>simp only [ξ];omega
  .obtain rfl:N=r:=oM;have h4:((N:Int) > 40)=True:=eq_true oM;by_cases g1:z > 12 <;> by_cases g2:z<=24 <;> by_cases g3:z > 40;all_goals
    try (exfalso;omega)
   all_goals
    go_wp2;go_ret;exact⟨by first | rfl | (congr 2;simp;omega),gH.o⟩
theorem bg(a N cap rs w)(hl:rs.length=N)(tY:N<=40->bY (aF rs) N<=9223372036854775807)(hN:N<=9223372036854775807)(rr:GB w a rs):
 aE γ 14 #[bQ #[Θ a N cap],Υ Ξ 12] w fun e w'=>e=σ (ω (Bb (aF rs) N))/\Bw w w':=by
 by_cases h:N<=40
 .exact vz a N cap rs w hl (tY h) hN rr
 .rw[show Bb (aF rs) N=ι from decide_eq_true (.inr (.inr oM))];exact Xo a N cap rs w hl oM hN rr
theorem ar8(a N cap rs w)(hl:rs.length=N)(tY:N<=40->bY (aF rs) N<=9223372036854775807)(hN:N<=9223372036854775807)(rr:GB w a rs):
 aE γ 5 #[bQ #[Θ a N cap]] w fun e w'=>e=σ (ω (Xm (aF rs) N))/\Bw w w':=by
 have HG:=zq (fun W(hW:Bw w W)=>bg a N cap rs W hl tY hN (rr.below hW));have HC:aQ (Bb (aF rs) N=ν->∀W,Bw w W->aE γ 15 #[bQ #[Θ a N cap]] W fun e w'=>e=σ (Υ Ξ (oX (aF rs) N))/\Bw W w'):=fun h W hW=>by
  obtain⟨h1,h2⟩:=RE h;exact vw a N cap rs W hl oM (fun r=>ku hl oM) (rr.below hW)
 have E:aQ (Xm (aF rs) N=(!Bb (aF rs) N&&decide (oX (aF rs) N=0))):=rfl;generalize oX (aF rs) N=C,Bb (aF rs) N=G,Xm (aF rs) N=R at *;clear hl tY hN rr;have fL:=nA w (π #[Θ a N cap] 24);have vH:=bE.new w #[Θ a N cap] 24;obtain⟨W0,fI⟩:=nm (w.alloc (π #[Θ a N cap] 24));rw[fI]at fL vH;have gH:=zq fL;have b0:=vH.ce 0;have HW:=zq fI;have H1:=zq (HG.o _ fL);clear fL vH fI HG;refine eE func5 rfl ?_;simp only[ntmps5,bI,aC,bB,cL,dF,bG,bH,cE,bN,cM,bV];go_upto_region 1 with(fail)
 rw[HW.o];clear HW;go_wp2_with fail
 refine ka H1.o fun W1 hb=>?_;have eG:=gH.bS hb;have b0:=aY hb b0;clear hb H1 gH;cases G with
 |true=>
  obtain rfl:R=ν:=E.o;clear HC E;go_wp2;exact sC (iH Tryz.results5 _ _ _) rfl ⟨rfl,eG.o⟩
 |false=>
  have E2:aQ (R=decide (C=0)):=E.o;have H2:=zq (HC.o rfl _ eG.o);clear HC E;go_wp2_with fail
  refine kb H2.o eG.o fun W2 eU=>?_;clear H2 eG b0;have E3:aQ (R=(C==0)):=by show _=_;rw[E2.o];rfl
  obtain rfl:=E3.o;go_wp2;exact sC (iH Tryz.results5 _ _ _) rfl ⟨rfl,eU.o⟩
end
section
section
def fS(s:Sg)(x y:Int)(e:Nat):Int:=
 match e with
 |0=>if s.up=ν/\s.line=y then tD s.a s.b x else 0
 |1=>if s.up=ι/\s.line=x then tD s.a s.b y else 0
 |2=>if s.up=ν/\s.line=y then -tD s.a s.b (x-1)else 0
 |_=>if s.up=ι/\s.line=x then -tD s.a s.b (y-1)else 0
def Sg.on(s:Sg)(x y:Int):Prop:=(s.up=ι->x=s.line/\(s.a<=y/\y<=s.b\/s.b<=y/\y<=s.a))/\(s.up=ν->y=s.line/\(s.a<=x/\x<=s.b\/s.b<=x/\x<=s.a))
theorem kw{x y:Int}(h:fS s x y e≠0):s.on x y:=by
 obtain⟨sd,up,line,a,b⟩:=s;unfold fS at h;unfold Sg.on;split at h<;>cases up<;>simp only[tD,aK,reduceCtorEq,true_and,false_and,if_false,ne_eq,not_true,true_implies,false_implies,and_true,true_and]at h|-<;>(repeat' split at h)<;>omega
def sA(W:Int->Int->Int)(x y:Int)(e:Nat):Int:=match e with |0=>W x y|1=>W (x-1) y|2=>W (x-1) (y-1)|_=>W x (y-1)
def sK(W:Int->Int->Int)(x y:Int)(e:Nat):Int:=match e with |0=>W x (y-1)|1=>W x y|2=>W (x-1) y|_=>W (x-1) (y-1)
theorem Oy(f:Sg->Int)(l):lF (fun s=>-f s) l= -lF f l:=by
 induction l with
 |nil=>rfl
 |cons s l ih=>simp only[lF,ih];omega
theorem Ct{E:List Sg}(h:oZ E)(x y e):sA (bF E) x y e - sK (bF E) x y e=lF (fS · x y e) E:=by
 have hx:=fun k=>Fo E x k;have hy:=fun i=>SJ (ls:=[E]) (by intro l hl;rw [dE] at hl;subst hl;exact h) i y;simp only [jP,List.flatten_nil,kQ] at hy;match e with
 | 0=>have:=hy x;unfold sA sK fS;simp only [];omega
 | 1=>have:=hx y;unfold sA sK fS;simp only [];omega
 | 2=>
  have:=hy (x - 1);have h2:=Oy (fun s=>if s.up=ν/\s.line=y then tD s.a s.b (x - 1) else 0) E;have h3:lF (fun s=>fS s x y 2) E=lF (fun s=>-(if s.up=ν/\s.line=y then tD s.a s.b (x - 1) else 0)) E:=jW fun s _=>by unfold fS;simp only [];split <;> simp
  unfold sA sK;simp only [];omega
 | e+3=>
  have:=hx (y - 1);have h2:=Oy (fun s=>if s.up=ι/\s.line=x then tD s.a s.b (y - 1) else 0) E;have h3:lF (fun s=>fS s x y (e+3)) E=lF (fun s=>-(if s.up=ι/\s.line=x then tD s.a s.b (y - 1) else 0)) E:=jW fun s _=>by unfold fS;simp only [];split <;> simp
  unfold sA sK;simp only [];omega
theorem pR{f:Nat->Int}{n:Nat}(h:∀j,j<n->f j=0):dP f n=0:=by
 induction n with
 |zero=>rfl
 |succ n ih=>rw[dP,ih fun j hj=>h j oM,h n oM];rfl
theorem rG{f:Nat->Int}{n:Nat}(hi:i<n)(h:∀j,j<n->j≠i->f j=0):dP f n=f i:=by
 induction n with
 |zero=>omega
 |succ n ih=>
  by_cases e:i=n
  .subst e;rw[dP,pR fun j hj=>h j oM oM];omega
  .rw[dP,ih oM fun j hj hn=>h j oM hn,h n oM oM];omega
theorem ar9{f:Nat->Int}{n:Nat}(hi:i<n)(hk:k<n)(hik:i≠k)(h:∀j,j<n->j≠i->j≠k->f j=0):dP f n=f i+f k:=by
 have h1:=sO f (fun j=>if j=k then f k else 0) n;have h2:dP (fun j=>if j=k then f k else 0) n=f k:=by
  rw[rG hk fun j _ hj=>by simp[hj]];simp
 have h3:dP (fun j=>f j-if j=k then f k else 0) n=f i:=by
  rw[rG hi fun j hj hn=>by
   by_cases e:j=k
   .subst e;simp
   .simp only[e,if_false];rw[h j hj hn e];rfl]
  simp[hik]
 omega
structure iU(E:List Sg):Prop where
 ring:oZ E
 three:3<=E.length
 alt:∀j,j<E.length->(E.getD j Γ).up≠(E.getD ((j+1)%E.length) Γ).up
 long:∀j,j<E.length->(E.getD j Γ).a≠(E.getD j Γ).b
 disj:∀i j,i<E.length->j<E.length->i≠j->∀x y,(E.getD i Γ).on x y->(E.getD j Γ).on x y->(j=(i+1)%E.length/\(x,y)=(E.getD i Γ).en)\/(i=(j+1)%E.length/\(x,y)=(E.getD j Γ).en)
def Sg.dir(s:Sg):Nat:=if s.up=ι then(if s.a<s.b then 1 else 3)else if s.a<s.b then 0 else 2
def Sg.len(s:Sg):Nat:=(s.b-s.a).natAbs
def Sg.px(s:Sg)(t:Nat):Int:=if s.up=ι then s.line else if s.a<s.b then s.a+t else s.a-t
def Sg.py(s:Sg)(t:Nat):Int:=if s.up=ι then(if s.a<s.b then s.a+t else s.a-t)else s.line
theorem Sg.dir_lt(s:Sg):s.dir<4:=by unfold Sg.dir;(repeat' split)<;>omega
theorem Mj(s:Sg):(s.px s.len,s.py s.len)=s.en:=by
 unfold Sg.px Sg.py Sg.len Sg.en;split
 .split <;>(congr 1;omega)
 .split <;>(congr 1;omega)
theorem DI(s:Sg):(s.px 0,s.py 0)=s.st:=by
 unfold Sg.px Sg.py Sg.st;split
 .split <;>(congr 1;omega)
 .split <;>(congr 1;omega)
theorem P7(h:t<=s.len):s.on (s.px t) (s.py t):=by
 unfold Sg.len at h;unfold Sg.on Sg.px Sg.py;refine⟨fun u=>?_,fun u=>?_⟩
 .rw[ip u,ip u];refine⟨rfl,?_⟩;split <;>omega
 .rw[iN (by rw[u];decide),iN (by rw[u];decide)];refine⟨rfl,?_⟩;split <;>omega
theorem rH(s:Sg)(t:Nat):s.px (t+1)=fU (s.px t) s.dir/\s.py (t+1)=fV (s.py t) s.dir:=by
 unfold Sg.px Sg.py Sg.dir fU fV
 repeat' split
 all_goals first |(exfalso;omega)|(refine⟨?_,?_⟩<;>omega)|skip
 all_goals simp_all
 all_goals omega
theorem GH{u:Nat}(h:s.px t=s.px u)(h2:s.py t=s.py u):t=u:=by
 unfold Sg.px at h
 unfold Sg.py at h2
 repeat' split at h
 all_goals first |(split at h2<;>omega)|omega |skip
 all_goals simp_all
 all_goals omega
theorem bh(ht:t<=s.len)(he:e<4):fS s (s.px t) (s.py t) e=(if e=s.dir/\t<s.len then 1 else 0)-(if e=(s.dir+2)%4/\0<t then 1 else 0):=by
 obtain⟨sd,up,line,a,b⟩:=s;unfold Sg.len at ht|-;unfold Sg.px Sg.py Sg.dir fS tD;have h4:e=0\/e=1\/e=2\/e=3:=oM;cases up<;>rcases h4 with rfl|rfl|rfl|rfl<;>simp only[aK,reduceCtorEq,true_and,false_and,if_false,if_true]at ht|-<;>(repeat' split)<;>omega
theorem as0(W:Int->Int->Int)(x y){d d':Nat}(hd:d<4)(hd':d'<4)(hn:d'≠(d+2)%4)(h:∀e,e<4->sA W x y e-sK W x y e=(if e=d' then 1 else 0)-(if e=(d+2)%4 then 1 else 0)):sA W x y d'=sK W x y ((d+2)%4):=by
 have h0:=h 0 oM;have h1:=h 1 oM;have h2:=h 2 oM;have h3:=h 3 oM;have c1:d=0\/d=1\/d=2\/d=3:=oM;have c2:d'=0\/d'=1\/d'=2\/d'=3:=oM;unfold sA sK at h0 h1 h2 h3|-;rcases c1 with rfl|rfl|rfl|rfl<;>rcases c2 with rfl|rfl|rfl|rfl<;>simp at h0 h1 h2 h3 hn|-<;>omega
theorem E7(W:Int->Int->Int)(x y){d:Nat}(hd:d<4):sK W (fU x d) (fV y d) ((d+2)%4)=sA W x y d:=by
 have c1:d=0\/d=1\/d=2\/d=3:=oM;rcases c1 with rfl|rfl|rfl|rfl<;>simp[sK,sA,fU,fV]
variable{E:List Sg}
def DU(E:List Sg)(s:Sg)(t:Nat):Int:=sA (bF E) (s.px t) (s.py t) s.dir
theorem iU.inner(h:iU E)(hj:j<E.length)(ht:t+1<(E.getD j Γ).len):DU E (E.getD j Γ) (t+1)=DU E (E.getD j Γ) t:=by
 obtain⟨s,hs⟩:=nm (E.getD j Γ);have hl:=h.long j hj;rw[hs]at hl ht|-;have hf:∀e,e<4->sA (bF E) (s.px (t+1)) (s.py (t+1)) e-sK (bF E) (s.px (t+1)) (s.py (t+1)) e=(if e=s.dir then 1 else 0)-(if e=(s.dir+2)%4 then 1 else 0):=by
  intro e he;rw[Ct h.ring,nB,rG hj,hs,bh oM he]
  .simp[ht]
  .intro i hi Le;refine aG fun hne=>?_;have h1:=kw hne;have h2:(E.getD j Γ).on (s.px (t+1)) (s.py (t+1)):=by rw[hs];exact P7 oM
   rcases h.disj i j hi hj Le _ _ h1 h2 with⟨e1,e2⟩|⟨e1,e2⟩
   .rw[h.ring i hi,<-e1,hs,<-DI]at e2;injection e2 with e2 e3;have:=GH e2 e3;omega
   .rw[hs,<-Mj]at e2;injection e2 with e2 e3;have:=GH e2 e3;omega
 unfold DU;rw[as0 (bF E) _ _ s.dir_lt s.dir_lt (by have:=s.dir_lt;omega) hf,(rH s t).1,(rH s t).2,E7 _ _ _ s.dir_lt]
theorem iU.corner(h:iU E)(hj:j<E.length):DU E (E.getD ((j+1)%E.length) Γ) 0=DU E (E.getD j Γ) ((E.getD j Γ).len-1):=by
 have h3:=h.three;obtain⟨k,hk⟩:=nm ((j+1)%E.length);have hkl:k<E.length:=by rw[<-hk];exact aV _ oM
 have hjk:j≠k:=by
  rw[<-hk];by_cases c:j+1<E.length
  .rw[aT c];omega
  .rw[show j+1=E.length by omega,mY];omega
 have hr:=h.ring j hj;have ha:=h.alt j hj;rw[hk]at hr ha|-;obtain⟨s,hs⟩:=nm (E.getD j Γ);obtain⟨q,hq⟩:=nm (E.getD k Γ);have hl:=h.long j hj;have DN:=h.long k hkl;rw[hs]at hl;rw[hq]at DN;rw[hs,hq]at hr ha|-;rw[<-Mj,<-DI]at hr;injection hr with hx hy;have hlen:0<s.len:=by unfold Sg.len;omega
 have jb:0<q.len:=by unfold Sg.len;omega
 have hf:∀e,e<4->sA (bF E) (q.px 0) (q.py 0) e-sK (bF E) (q.px 0) (q.py 0) e=(if e=q.dir then 1 else 0)-(if e=(s.dir+2)%4 then 1 else 0):=by
  intro e he;rw[Ct h.ring,nB,ar9 hj hkl hjk,hs,hq]
  .rw[bh oM he,<-hx,<-hy,bh oM he];simp[hlen,jb];omega
  .intro i hi Le hik;refine aG fun hne=>?_;have h1:=kw hne;have h2:(E.getD j Γ).on (q.px 0) (q.py 0):=by rw[hs,<-hx,<-hy];exact P7 oM
   rcases h.disj i j hi hj Le _ _ h1 h2 with⟨e1,e2⟩|⟨e1,e2⟩
   .rw[h.ring i hi,<-e1,hs,<-DI,<-hx,<-hy]at e2;injection e2 with e2 e3;have:=GH e2 e3;omega
   .exact hik (e1.trans hk)
 have hdn:q.dir≠(s.dir+2)%4:=by
  unfold Sg.dir;cases hu:s.up<;>cases hv:q.up<;>simp[hu,hv]at ha|-<;>(repeat' split)<;>omega
 unfold DU;rw[as0 (bF E) _ _ s.dir_lt q.dir_lt hdn hf,<-hx,<-hy,show s.len=s.len-1+1 by omega,(rH s _).1,(rH s _).2,E7 _ _ _ s.dir_lt];rfl
end
section
variable{E:List Sg}
theorem iU.const(h:iU E):∀j,j<E.length->∀t,t<(E.getD j Γ).len->DU E (E.getD j Γ) t=DU E (E.getD 0 Γ) 0:=by
 have inn:∀j,j<E.length->∀t,t<(E.getD j Γ).len->DU E (E.getD j Γ) t=DU E (E.getD j Γ) 0:=by
  intro j hj t;induction t with
  |zero=>intro _;rfl
  |succ t ih=>intro ht;rw[h.inner hj ht];exact ih oM
 intro j;induction j with
 |zero=>intro h0 t ht;exact inn 0 h0 t ht
 |succ j ih=>
  intro hj t ht;rw[inn _ hj t ht];have hc:=h.corner (j:=j) oM;rw[aT hj]at hc;rw[hc];have hl:=h.long j oM;exact ih oM _ (by unfold Sg.len;omega)
theorem aY4{x y:Int}(he:e<4)(h:fS s x y e≠0):s.on (fU x e) (fV y e):=by
 have c1:e=0\/e=1\/e=2\/e=3:=oM;obtain⟨sd,up,line,a,b⟩:=s;unfold fS at h;unfold Sg.on fU fV;rcases c1 with rfl|rfl|rfl|rfl<;>cases up<;>simp only[tD,aK,reduceCtorEq,true_and,false_and,if_false,ne_eq,not_true,true_implies,false_implies,and_true,true_and]at h|-<;>(repeat' split at h)<;>omega
theorem iU.alone(h:iU E)(hj:j<E.length)(ht:t<(E.getD j Γ).len)(hi:i<E.length)(Le:i≠j):fS (E.getD i Γ) ((E.getD j Γ).px t) ((E.getD j Γ).py t) (E.getD j Γ).dir=0:=by
 obtain⟨s,hs⟩:=nm (E.getD j Γ);rw[hs]at ht|-;refine aG fun hne=>?_;have h1:=kw hne;have h2:=aY4 s.dir_lt hne;rw[<-(rH s t).1,<-(rH s t).2]at h2;have g1:(E.getD j Γ).on (s.px t) (s.py t):=by rw[hs];exact P7 oM
 have g2:(E.getD j Γ).on (s.px (t+1)) (s.py (t+1)):=by rw[hs];exact P7 oM
 have d1:=h.disj i j hi hj Le _ _ h1 g1;have d2:=h.disj i j hi hj Le _ _ h2 g2;have h3:=h.three;have two:¬(j=(i+1)%E.length/\i=(j+1)%E.length):=by
  rintro⟨e1,e2⟩;by_cases c:i+1<E.length
  .rw[aT c]at e1;by_cases c2:j+1<E.length
   .rw[aT c2]at e2;omega
   .rw[show j+1=E.length by omega,mY]at e2;omega
  .rw[show i+1=E.length by omega,mY]at e1;rw[e1,aT oM]at e2;omega
 rcases d1 with⟨e1,e2⟩|⟨e1,e2⟩<;>rcases d2 with⟨e3,e4⟩|⟨e3,e4⟩
 .rw[<-e4]at e2;injection e2 with e2 e5;have:=GH e2 e5;omega
 .exact two ⟨e1,e3⟩
 .exact two ⟨e3,e1⟩
 .rw[<-e4]at e2;injection e2 with e2 e5;have:=GH e2 e5;omega
theorem iU.right(h:iU E)(hj:j<E.length)(ht:t<(E.getD j Γ).len):sK (bF E) ((E.getD j Γ).px t) ((E.getD j Γ).py t) (E.getD j Γ).dir=DU E (E.getD 0 Γ) 0-1:=by
 have hf:=Ct h.ring ((E.getD j Γ).px t) ((E.getD j Γ).py t) (E.getD j Γ).dir;rw[nB,rG hj fun i hi Le=>h.alone hj ht hi Le,bh oM (Sg.dir_lt _)]at hf;have hc:=h.const j hj t ht;unfold DU at hc|-;have hd:=(E.getD j Γ).dir_lt;rw[ip ⟨rfl,ht⟩,iN oM]at hf;omega
theorem iU.edge(h:iU E){i k:Int}(hne:lF (fS · i k 1) E≠0):(bF E (i - 1) k=DU E (E.getD 0 Γ) 0/\bF E i k=DU E (E.getD 0 Γ) 0 - 1)\/(bF E (i - 1) k=DU E (E.getD 0 Γ) 0 - 1/\bF E i k=DU E (E.getD 0 Γ) 0):=by
 have hex:∃ j,j < E.length/\fS (E.getD j Γ) i k 1≠0:=by
  refine aG fun hn=>hne ?_;rw [nB];exact pR fun j hj=>aG fun c=>hn ⟨j,hj,c⟩
 obtain⟨j,hj,hf⟩:=hex;obtain⟨s,hs⟩:=nm (E.getD j Γ);rw [hs] at hf;have hl:=h.long j hj;rw [hs] at hl;have hu:s.up=ι/\s.line=i/\tD s.a s.b k≠0:=by
  unfold fS at hf;simp only [] at hf;split at hf
  .rename_i c;exact⟨c.1,c.2,hf⟩
  .exact absurd rfl hf
 obtain⟨u1,u2,u3⟩:=hu;have hcr:(s.a<=k/\k < s.b)\/(s.b<=k/\k < s.a):=by
  unfold tD at u3;by_cases c:s.a<=k/\k < s.b
  .exact .inl c
  .by_cases c2:s.b<=k/\k < s.a
   .exact .inr c2
   .rw [iN c,iN c2] at u3;exact absurd rfl u3
 rcases hcr with c | c
 .left;have ht:(k - s.a).toNat < (E.getD j Γ).len:=by rw [hs];unfold Sg.len;omega
  have e1:=h.const j hj _ ht;have e2:=h.right hj ht;rw [hs] at e1 e2;have hd:s.dir=1:=by unfold Sg.dir;rw [ip u1,ip oM]
  have hx:s.px (k - s.a).toNat=i:=by unfold Sg.px;rw [ip u1];exact u2
  have hy:s.py (k - s.a).toNat=k:=by unfold Sg.py;rw [ip u1,ip oM];omega
  unfold DU at e1;rw [hd,hx,hy] at e1 e2;exact⟨e1,e2⟩
 .right;have ht:(s.a - (k+1)).toNat < (E.getD j Γ).len:=by rw [hs];unfold Sg.len;omega
  have e1:=h.const j hj _ ht;have e2:=h.right hj ht;rw [hs] at e1 e2;have hd:s.dir=3:=by unfold Sg.dir;rw [ip u1,iN oM]
  have hx:s.px (s.a - (k+1)).toNat=i:=by unfold Sg.px;rw [ip u1];exact u2
  have hy:s.py (s.a - (k+1)).toNat=k+1:=by unfold Sg.py;rw [ip u1,iN oM];omega
  unfold DU at e1;rw [hd,hx,hy] at e1 e2;unfold sA at e1;unfold sK at e2;simp only [Int.add_sub_cancel] at e1 e2;exact⟨e2,e1⟩
theorem iU.vals (h:iU E) {X Y:Int} (hg:∀ s∈E,iT X Y s) (k:Int) (n:Nat):bF E ((n:Int) - 1) k=0\/((DU E (E.getD 0 Γ) 0=0\/DU E (E.getD 0 Γ) 0=1)/\(bF E ((n:Int) - 1) k=DU E (E.getD 0 Γ) 0\/bF E ((n:Int) - 1) k=DU E (E.getD 0 Γ) 0 - 1)):=by
 induction n with
 | zero=>
  left;have:=Iv (ls:=[E]) (X:=X) (Y:=Y) (by intro l hl;rw [dE] at hl;subst hl;exact h.ring) (by simpa using hg) (i:=-1) oM k;simpa using this
 | succ n ih=>
  have CF:=Ct h.ring (n:Int) k 1;unfold sA sK at CF;simp only [] at CF;rw [show((n+1:Nat):Int) - 1=n by omega];by_cases c:lF (fS · (n:Int) k 1) E=0
  .rw [c] at CF;rw [show bF E (n:Int) k=bF E ((n:Int) - 1) k by omega];exact ih
  .have he:=h.edge c;omega
end
section
variable{E:List Sg}
theorem iU.upr(h:iU E):∃j,j<E.length/\(E.getD j Γ).up=ι:=by
 have h3:=h.three;have ha:=h.alt 0 oM;rw[bD,aT oM]at ha;by_cases c:(E.getD 0 Γ).up=ι
 .exact⟨0,oM,c⟩
 .refine⟨1,oM,?_⟩;cases hu:(E.getD 1 Γ).up
  .rw[hu]at ha;exact absurd (by simpa using c) ha
  .rfl
theorem iU.side(h:iU E){X Y:Int}(hg:∀s∈E,iT X Y s):DU E (E.getD 0 Γ) 0=0\/DU E (E.getD 0 Γ) 0=1:=by
 obtain⟨j,hj,hu⟩:=h.upr;have hl:=h.long j hj;have hin:=hg _ (aN hj Γ);obtain⟨s,hs⟩:=nm (E.getD j Γ);have hc:=h.const j hj 0 (by unfold Sg.len;omega);rw[hs]at hu hl hin hc;have hi0:0<=s.line:=hin.1;have hv:=h.vals hg;generalize DU E (E.getD 0 Γ) 0=c0 at hc hv|-;unfold DU at hc;have hx:s.px 0=s.line:=by unfold Sg.px;rw[ip hu]
 by_cases c:s.a<s.b
 .have hd:s.dir=1:=by unfold Sg.dir;rw[ip hu,ip c]
  rw[hd,hx]at hc;have hv:=hv (s.py 0) s.line.toNat;rw[fE hi0]at hv;unfold sA at hc;simp only[]at hc;omega
 .have hd:s.dir=3:=by unfold Sg.dir;rw[ip hu,iN c]
  rw[hd,hx]at hc;have hv:=hv (s.py 0-1) (s.line+1).toNat;rw[fE oM,Int.add_sub_cancel]at hv;unfold sA at hc;simp only[]at hc;omega
theorem TZ(h:oZ E){x y:Int}(hn:∀s∈E,¬s.on x y):∀e,e<4->sA (bF E) x y e=bF E x y/\sK (bF E) x y e=bF E x y:=by
 have hz:∀e,sA (bF E) x y e-sK (bF E) x y e=0:=fun e=>by
  rw[Ct h];exact BB fun s hs=>aG fun hne=>hn s hs (kw hne)
 have h0:=hz 0;have h1:=hz 1;have h2:=hz 2;have h3:=hz 3;unfold sA sK at h0 h1 h2 h3|-;simp only[]at h0 h1 h2 h3;intro e he;have c1:e=0\/e=1\/e=2\/e=3:=oM;rcases c1 with rfl|rfl|rfl|rfl<;>refine⟨?_,?_⟩<;>(try simp only[])<;>omega
def Df(E F:List Sg):Prop:=∀s∈E,∀q∈F,∀x y,s.on x y->¬q.on x y
variable{F:List Sg}
theorem xu(hF:oZ F)(ha:Df E F)(hj:j<E.length)(ht:t<(E.getD j Γ).len):
 bF F ((E.getD j Γ).px (t+1)) ((E.getD j Γ).py (t+1))=bF F ((E.getD j Γ).px t) ((E.getD j Γ).py t):=by
 obtain⟨s,hs⟩:=nm (E.getD j Γ);have hm:s∈E:=by rw[<-hs];exact aN hj _
 rw[hs]at ht|-;have a0:=TZ hF (fun q hq=>ha s hm q hq _ _ (P7 (s:=s) (t:=t) oM)) s.dir s.dir_lt;have a1:=TZ hF (fun q hq=>ha s hm q hq _ _ (P7 (s:=s) (t:=t+1) oM)) ((s.dir+2)%4) oM;rw[<-a0.1,<-a1.2,(rH s t).1,(rH s t).2,E7 _ _ _ s.dir_lt]
theorem LM(h:oZ E)(hF:oZ F)(ha:Df E F):∀j,j<E.length->∀t,t<=(E.getD j Γ).len->bF F ((E.getD j Γ).px t) ((E.getD j Γ).py t)=bF F ((E.getD 0 Γ).px 0) ((E.getD 0 Γ).py 0):=by
 have inn:∀j,j<E.length->∀t,t<=(E.getD j Γ).len->bF F ((E.getD j Γ).px t) ((E.getD j Γ).py t)=bF F ((E.getD j Γ).px 0) ((E.getD j Γ).py 0):=by
  intro j hj t;induction t with
  |zero=>intro _;rfl
  |succ t ih=>intro ht;rw[xu hF ha hj oM];exact ih oM
 intro j;induction j with
 |zero=>exact fun h0=>inn 0 h0
 |succ j ih=>
  intro hj t ht;rw[inn _ hj t ht];have hr:=h j oM;rw[aT hj,<-Mj,<-DI]at hr;injection hr with hx hy;rw[<-hx,<-hy];exact ih oM _ (θ _)
theorem LN(h:oZ E)(hF:oZ F)(ha:Df E F)(hj:j<E.length)(ht:t<(E.getD j Γ).len):
 DU F (E.getD j Γ) t=bF F ((E.getD 0 Γ).px 0) ((E.getD 0 Γ).py 0)/\sK (bF F) ((E.getD j Γ).px t) ((E.getD j Γ).py t) (E.getD j Γ).dir=bF F ((E.getD 0 Γ).px 0) ((E.getD 0 Γ).py 0):=by
 have a0:=TZ hF (fun q hq=>ha _ (aN hj _) q hq _ _ (P7 (s:=E.getD j Γ) (t:=t) oM)) (E.getD j Γ).dir (Sg.dir_lt _);unfold DU;rw[a0.1,a0.2,LM h hF ha j hj t oM];exact⟨rfl,rfl⟩
theorem T4(E F i k):bF (E++F) i k=bF E i k+bF F i k:=zW _ _ _
theorem rI(ls:List (List Sg))(i k:Int):bF ls.flatten i k=dP (fun r=>bF (ls.getD r []) i k) ls.length:=by
 induction ls with
 |nil=>rfl
 |cons l ls ih=>
  rw[jP,T4,ih,aC];have:=CO (fun r=>bF ((l::ls).getD r []) i k) ls.length;simp only[jS,oe]at this;omega
end
section
theorem RW(ls:List (List Sg))(x y:Int)(e:Nat):sA (bF ls.flatten) x y e=dP (fun q=>sA (bF (ls.getD q [])) x y e) ls.length:=by
 match e with
 |0=>exact rI ls _ _
 |1=>exact rI ls _ _
 |2=>exact rI ls _ _
 |e+3=>exact rI ls _ _
theorem RY(ls:List (List Sg))(x y:Int)(e:Nat):sK (bF ls.flatten) x y e=dP (fun q=>sK (bF (ls.getD q [])) x y e) ls.length:=by
 match e with
 |0=>exact rI ls _ _
 |1=>exact rI ls _ _
 |2=>exact rI ls _ _
 |e+3=>exact rI ls _ _
def Xp(ls:List (List Sg))(r q:Nat):Int:=
 if q=r then DU (ls.getD r []) ((ls.getD r []).getD 0 Γ) 0 else bF (ls.getD q []) (((ls.getD r []).getD 0 Γ).px 0) (((ls.getD r []).getD 0 Γ).py 0)
structure Dg(ls:List (List Sg))(X Y:Int):Prop where
 simple:∀r,r<ls.length->iU (ls.getD r [])
 grid:∀s∈ls.flatten,iT X Y s
 apart:∀r q,r<ls.length->q<ls.length->r≠q->Df (ls.getD r []) (ls.getD q [])
 one:∀r,r<ls.length->dP (Xp ls r) ls.length=1
variable{ls:List (List Sg)}{X Y:Int}
theorem Dg.sides(h:Dg ls X Y)(hr:r<ls.length)(hj:j<(ls.getD r []).length)(ht:t<((ls.getD r []).getD j Γ).len):
 sA (bF ls.flatten) (((ls.getD r []).getD j Γ).px t) (((ls.getD r []).getD j Γ).py t) ((ls.getD r []).getD j Γ).dir=1/\sK (bF ls.flatten) (((ls.getD r []).getD j Γ).px t) (((ls.getD r []).getD j Γ).py t) ((ls.getD r []).getD j Γ).dir=0:=by
 have h1:=h.one r hr;have hs:=h.simple r hr;constructor
 .rw[RW,<-h1];refine dI fun q hq=>?_;unfold Xp;by_cases c:q=r
  .subst c;rw[ip rfl];exact hs.const j hj t ht
  .rw[iN c];exact(LN hs.ring (h.simple q hq).ring (h.apart r q hr hq (Ne.symm c)) hj ht).1
 .have e:dP (fun q=>sK (bF (ls.getD q [])) (((ls.getD r []).getD j Γ).px t) (((ls.getD r []).getD j Γ).py t) ((ls.getD r []).getD j Γ).dir) ls.length=dP (fun q=>Xp ls r q-if q=r then 1 else 0) ls.length:=by
   refine dI fun q hq=>?_;unfold Xp;by_cases c:q=r
   .subst c;rw[ip rfl,ip rfl];exact hs.right hj ht
   .rw[iN c,iN c,Int.sub_zero];exact(LN hs.ring (h.simple q hq).ring (h.apart r q hr hq (Ne.symm c)) hj ht).2
  rw[RY,e,sO,h1,rG hr fun q _ hq=>by rw[iN hq],ip rfl];rfl
theorem Dg.rings(h:Dg ls X Y):∀l∈ls,oZ l:=by
 intro l hl;obtain⟨r,hr,rfl⟩:=List.mem_iff_getElem.1 hl;have:=(h.simple r hr).ring;rwa[show ls.getD r []=ls[r] by simp[Ω,hr]]at this
theorem Dg.cell(h:Dg ls X Y)(i k):dK X Y ls.flatten i k=decide (0<bF ls.flatten i k):=by
 by_cases c:0<bF ls.flatten i k
 .rw[decide_eq_true c];refine aG fun hn=>?_;have:=rS h.rings h.grid (i:=i) (k:=k) (by simpa using hn);omega
 .rw[decide_eq_false c];refine aG fun hn=>c ?_;exact(bw1 (by simpa using hn)).2.2.2.2
theorem as1(W:Int->Int->Int)(x y d):pv (fun i k=>decide (0<W i k)) x y d=decide (0<sA W x y d):=by
 match d with
 |0=>rfl
 |1=>rfl
 |2=>rfl
 |d+3=>rfl
theorem as2(W:Int->Int->Int)(x y d):rgt (fun i k=>decide (0<W i k)) x y d=decide (0<sK W x y d):=by
 match d with
 |0=>rfl
 |1=>rfl
 |2=>rfl
 |d+3=>rfl
theorem vD{x y:Int}{d:Nat}(hd:d<4)(h:A6 s x y d):∃t,t<s.len/\s.px t=x/\s.py t=y/\s.dir=d:=by
 have c1:d=0\/d=1\/d=2\/d=3:=oM;unfold A6 at h;unfold Sg.len Sg.px Sg.py Sg.dir;rcases c1 with rfl|rfl|rfl|rfl<;>simp only[]at h<;>obtain⟨u,hl,h1,h2⟩:=h
 .refine⟨(x-s.a).toNat,oM,?_,?_,?_⟩<;>simp only[u,aK,if_false,if_true]<;>(repeat' split)<;>omega
 .refine⟨(y-s.a).toNat,oM,?_,?_,?_⟩<;>simp only[u,aK,if_false,if_true]<;>(repeat' split)<;>omega
 .refine⟨(s.a-x).toNat,oM,?_,?_,?_⟩<;>simp only[u,aK,if_false,if_true]<;>(repeat' split)<;>omega
 .refine⟨(s.a-y).toNat,oM,?_,?_,?_⟩<;>simp only[u,aK,if_false,if_true]<;>(repeat' split)<;>omega
theorem Dg.border(h:Dg ls X Y){x y:Int}{d:Nat}(hd:d<4):bor (dK X Y ls.flatten) x y d=ι↔∃r j t,r<ls.length/\j<(ls.getD r []).length/\t<((ls.getD r []).getD j Γ).len/\((ls.getD r []).getD j Γ).px t=x/\((ls.getD r []).getD j Γ).py t=y/\((ls.getD r []).getD j Γ).dir=d:=by
 constructor
 .intro hb;obtain⟨s,hs,ho⟩:=YW h.rings h.grid hb;obtain⟨t,ht,e1,e2,e3⟩:=vD hd ho;obtain⟨l,hl,Ki⟩:=List.mem_flatten.1 hs;obtain⟨r,hr,rfl⟩:=List.mem_iff_getElem.1 hl;obtain⟨j,hj,rfl⟩:=List.mem_iff_getElem.1 Ki;have er:ls.getD r []=ls[r]:=by simp[Ω,hr]
  have ej:(ls.getD r []).getD j Γ=ls[r][j]:=by rw[er];simp[Ω,hj]
  exact⟨r,j,t,hr,by rw[er];exact hj,by rw[ej];exact ht,by rw[ej];exact e1,by rw[ej];exact e2,by rw[ej];exact e3⟩
 .rintro⟨r,j,t,hr,hj,ht,rfl,rfl,rfl⟩;obtain⟨s1,s2⟩:=h.sides hr hj ht;have hc:dK X Y ls.flatten=fun i k=>decide (0<bF ls.flatten i k):=by funext i k;exact h.cell i k
  unfold bor;rw[hc,as1,as2,s1,s2];rfl
end
section
variable{ls:List (List Sg)}{X Y:Int}
def cV(s:Sg)(t:Nat):Wy:=⟨s.px t,s.py t,s.dir⟩
theorem Dg.uniq(h:Dg ls X Y)(hr:r<ls.length)(Pw:r2<ls.length)(hj:j<(ls.getD r []).length)(Wh:j2<(ls.getD r2 []).length)(ht:t<((ls.getD r []).getD j Γ).len)(UH:t2<((ls.getD r2 []).getD j2 Γ).len)(hx:((ls.getD r []).getD j Γ).px t=((ls.getD r2 []).getD j2 Γ).px t2)(hy:((ls.getD r []).getD j Γ).py t=((ls.getD r2 []).getD j2 Γ).py t2):r=r2/\j=j2/\t=t2:=by
 have o1:((ls.getD r []).getD j Γ).on (((ls.getD r []).getD j Γ).px t) (((ls.getD r []).getD j Γ).py t):=P7 oM;have o2:((ls.getD r2 []).getD j2 Γ).on (((ls.getD r2 []).getD j2 Γ).px t2) (((ls.getD r2 []).getD j2 Γ).py t2):=P7 oM;by_cases e:r=r2
 .subst e;by_cases e2:j=j2
  .subst e2;exact⟨rfl,rfl,GH hx hy⟩
  .exfalso;rw[<-hx,<-hy]at o2;rcases(h.simple r hr).disj j j2 hj Wh e2 _ _ o1 o2 with⟨-,e3⟩|⟨-,e3⟩
   .rw[<-Mj]at e3;injection e3 with e3 e4;have:=GH e3 e4;omega
   .rw[hx,hy,<-Mj]at e3;injection e3 with e3 e4;have:=GH e3 e4;omega
 .rw[<-hx,<-hy]at o2;exact absurd o2 (h.apart r r2 hr Pw e _ (aN hj Γ) _ (aN Wh Γ) _ _ o1)
theorem Dg.bord(h:Dg ls X Y)(hr:r<ls.length)(hj:j<(ls.getD r []).length)(ht:t<((ls.getD r []).getD j Γ).len):eX (dK X Y ls.flatten) (cV ((ls.getD r []).getD j Γ) t)=ι:=by
 unfold eX;rw[aI,decide_eq_true_eq];exact⟨Sg.dir_lt _,(h.border (Sg.dir_lt _)).2 ⟨r,j,t,hr,hj,ht,rfl,rfl,rfl⟩⟩
theorem Dg.next(h:Dg ls X Y)(hr:r<ls.length)(hj:j<(ls.getD r []).length)(ht:t<((ls.getD r []).getD j Γ).len):
 eY (dK X Y ls.flatten) (cV ((ls.getD r []).getD j Γ) t)=if t+1<((ls.getD r []).getD j Γ).len then cV ((ls.getD r []).getD j Γ) (t+1)else cV ((ls.getD r []).getD ((j+1)%(ls.getD r []).length) Γ) 0:=by
 have hb:=h.bord hr hj ht;have h2:=Mx hb;obtain⟨d,hd,-,he,uu⟩:=rT hb;have lI:=rH ((ls.getD r []).getD j Γ) t;have hxx:fU (cV ((ls.getD r []).getD j Γ) t).x (cV ((ls.getD r []).getD j Γ) t).d=((ls.getD r []).getD j Γ).px (t+1):=lI.1.symm;have hyy:fV (cV ((ls.getD r []).getD j Γ) t).y (cV ((ls.getD r []).getD j Γ) t).d=((ls.getD r []).getD j Γ).py (t+1):=lI.2.symm;rw[hxx,hyy]at he uu;rw[he];obtain⟨r2,j2,t2,a1,a2,a3,a4,a5,a6⟩:=(h.border hd).1 uu;have hs:=h.simple r hr;by_cases c:t+1<((ls.getD r []).getD j Γ).len
 .rw[ip c];obtain⟨e1,e2,e3⟩:=h.uniq hr a1 hj a2 c a3 a4.symm a5.symm;subst e1 e2 e3;unfold cV;rw[a6]
 .rw[iN c];have hk:(j+1)%(ls.getD r []).length<(ls.getD r []).length:=aV _ oM;have hl:=hs.long _ hk;have hlen:0<((ls.getD r []).getD ((j+1)%(ls.getD r []).length) Γ).len:=by unfold Sg.len;omega
  have GG:=hs.ring j hj;rw[<-Mj,<-DI]at GG;injection GG with g1 g2;have et:((ls.getD r []).getD j Γ).len=t+1:=oM;rw[et]at g1 g2;obtain⟨e1,e2,e3⟩:=h.uniq hr a1 hk a2 hlen a3 (by rw[<-g1,a4]) (by rw[<-g2,a5]);subst e1 e2 e3;unfold cV;rw[a6,g1,g2]
end
section
variable{ls:List (List Sg)}{X Y:Int}
def vN(E:List Sg):Nat->Nat
 |0=>0
 |j+1=>vN E j+(E.getD j Γ).len
theorem aI0(E):∀n k,k<vN E n->∃j t,j<n/\t<(E.getD j Γ).len/\k=vN E j+t:=by
 intro n;induction n with
 |zero=>intro k h;unfold vN at h;omega
 |succ n ih=>
  intro k h;rw[vN]at h;by_cases c:k<vN E n
  .obtain⟨j,t,h1,h2,h3⟩:=ih k c;exact⟨j,t,oM,h2,h3⟩
  .exact⟨n,k-vN E n,oM,oM,oM⟩
end
section
variable{ls:List (List Sg)}{X Y:Int}
theorem it.from{f:α->α}{w:α}{L:Nat}(h:it f w L)(hk:k<=L):it f (fW f k w) L:=by
 obtain⟨h0,h1,h2⟩:=h;refine⟨h0,?_,fun j j0 jl e=>h2 j j0 jl ?_⟩
 .rw[<-mM,Ao,mM,h1]
 .have a:fW f (L-k) (fW f j (fW f k w))=fW f j w:=by
   rw[<-mM,<-mM,show L-k+j+k=j+L by omega,mM,h1]
  rw[e,<-mM,show L-k+k=L by omega,h1]at a;exact a.symm
theorem as3{f:α->α}{w:α}{L:Nat}(h1:fW f L w=w)(hk:k<=L):jX f (fW f k w) L=(jX f w L).drop k++(jX f w L).take k:=by
 unfold jX;refine OV (by simp;omega) fun i h2 h3=>?_;simp only[υ,jQ]at h2;rw[List.getElem_append];simp only[List.getElem_map,List.getElem_range,dJ,υ,jQ,Lb,List.getElem_take];split
 .rw[<-mM,Ao]
 .rw[<-mM,show i+k=(i-(L-k))+L by omega,mM,h1]
end
section
variable{E:List Sg}
theorem E8(c)(f:Nat->Int)(n):dP (fun j=>c*f j) n=c*dP f n:=by
 induction n with
 |zero=>simp[dP]
 |succ n ih=>rw[dP,dP,ih,Int.mul_add]
theorem as4(X:Nat->Int)(m:Nat):dP (fun i=>(X (i+1)-X i)*(if(i:Int)<m then 1 else 0)) m=X m-X 0:=by
 rw[dI (g:=fun i=>X (i+1)-X i) fun j hj=>by rw[ip oM];omega];induction m with
 |zero=>simp[dP]
 |succ m ih=>rw[dP,ih];omega
theorem T5(X:Nat -> Int){l m:Nat}(h:l <= m):dP (fun i=>(X (i+1) - X i) * (if (i:Int) < l then 1 else 0)) m=X l - X 0:=by
  induction m with
  | zero => obtain rfl : l = 0 := oM
            simp [dP]
  | succ m ih =>
    rw [dP]
    by_cases c:l <= m
    . rw [ih c,iN oM]; omega
    . obtain rfl : l = m + 1 := oM
      rw [dI (g:=fun i=>(X (i+1) - X i) * (if (i:Int) < m then 1 else 0)) fun j hj=>by rw [ip oM,ip oM],ip oM]
      have:=as4 X m
      omega
theorem T6(a b i):tD a b i=(if i<b then 1 else 0)-(if i<a then 1 else 0):=by
 unfold tD;(repeat' split)<;>omega
theorem Xq(Y:Nat->Int){a b n:Nat}(ha:a<=n)(hb:b<=n):dP (fun k=>(Y (k+1)-Y k)*tD a b k) n=Y b-Y a:=by
 rw[dI (g:=fun k=>(Y (k+1)-Y k)*(if(k:Int)<b then 1 else 0)-(Y (k+1)-Y k)*(if(k:Int)<a then 1 else 0)) fun j _=>by rw[T6,Int.mul_sub],sO,T5 Y hb,T5 Y ha];omega
theorem MU(c)(f:Sg->Int)(l):lF (fun s=>c*f s) l=c*lF f l:=by
 induction l with
 |nil=>simp[lF]
 |cons s l ih=>rw[lF,lF,ih,Int.mul_add]
theorem T7(f:Sg->Nat->Int)(n l):lF (fun s=>dP (f s) n) l=dP (fun k=>lF (fun s=>f s k) l) n:=by
 induction n with
 |zero=>exact BB fun _ _=>rfl
 |succ n ih=>rw[dP,<-ih,<-AC];rfl
def upA(X Y:Nat->Int)(s:Sg):Int:=if s.up=ι then X s.line.toNat*(Y s.b.toNat-Y s.a.toNat)else 0
theorem xw(X Y:Nat->Int){m n:Nat}(h:iT (m+1) (n+1) s):
 upA X Y s=dP (fun k=>(Y (k+1)-Y k)*dP (fun i=>(X (i+1)-X i)*JM s i k) m) n+X 0*dP (fun k=>(Y (k+1)-Y k)*JM s (-1) k) n:=by
 obtain⟨h1,h2,h3,h4,-⟩:=h;by_cases u:s.up=ι
 .obtain⟨h5,h6,h7⟩:=h4 u;have hl:((s.line.toNat:Nat):Int)=s.line:=fE h1;have ea:((s.a.toNat:Nat):Int)=s.a:=fE h2;have eb:((s.b.toNat:Nat):Int)=s.b:=fE h3;have hi:∀k:Nat,dP (fun i=>(X (i+1)-X i)*JM s i k) m=tD s.a s.b k*(X s.line.toNat-X 0):=fun k=>by
   rw[<-T5 X (l:=s.line.toNat) (m:=m) oM,<-E8];refine dI fun j _=>?_;unfold JM;rw[hl];by_cases c:(j:Int)<s.line
   .rw[ip ⟨u,c⟩,ip c,Int.mul_one,Int.mul_comm]
   .rw[iN (fun k=>c k.2),iN c];simp
  have ho:dP (fun k=>(Y (k+1)-Y k)*dP (fun i=>(X (i+1)-X i)*JM s i k) m) n=(X s.line.toNat-X 0)*(Y s.b.toNat-Y s.a.toNat):=by
   rw[<-Xq Y (a:=s.a.toNat) (b:=s.b.toNat) (n:=n) oM oM,<-E8];refine dI fun j _=>?_;rw[hi j,ea,eb];grind
  have hz:dP (fun k=>(Y (k+1)-Y k)*JM s (-1) k) n=Y s.b.toNat-Y s.a.toNat:=by
   rw[<-Xq Y (a:=s.a.toNat) (b:=s.b.toNat) (n:=n) oM oM];refine dI fun j _=>?_;unfold JM;rw[ip ⟨u,oM⟩,ea,eb]
  rw[ho,hz];unfold upA;rw[ip u];grind
 .have z:∀i k,JM s i k=0:=fun i k=>by unfold JM;rw[iN fun c=>u c.1]
  unfold upA;rw[iN u];rw[pR fun j _=>by rw[pR fun i _=>by rw[z];simp];simp,pR fun j _=>by rw[z];simp];simp
theorem bk7(X Y:Nat->Int){m n:Nat}(hr:oZ E)(h:∀s∈E,iT (m+1) (n+1) s):
 lF (upA X Y) E=dP (fun k=>(Y (k+1)-Y k)*dP (fun i=>(X (i+1)-X i)*bF E i k) m) n:=by
 have hz:∀k:Nat,lF (fun s=>JM s (-1) k) E=0:=fun k=>by
  have:=Iv (ls:=[E]) (X:=m+1) (Y:=n+1) (by intro l hl;rw[dE]at hl;subst hl;exact hr) (by simpa using h) (i:=-1) oM k;simpa[bF]using this
 rw[jW fun s hs=>xw X Y (h s hs),AC,MU,T7,T7];rw[pR (f:=fun k=>lF (fun s=>(Y (k+1)-Y k)*JM s (-1) k) E) fun k _=>by rw[MU,hz k];simp];simp only[Int.mul_zero,Int.add_zero];refine dI fun k _=>?_;rw[MU,T7];congr 1;refine dI fun i _=>?_;rw[MU];rfl
theorem tR{f:Nat->Int}{n:Nat}(h:∀j,j<n->0<=f j):0<=dP f n:=by
 induction n with
 |zero=>exact Int.le_refl _
 |succ n ih=>rw[dP];have:=h n oM;have:=ih fun j hj=>h j oM;omega
theorem iU.area(hs:iU E)(X Y:Nat->Int){m n:Nat}(h:∀s∈E,iT (m+1) (n+1) s)(hx:∀i,i<m->X i<X (i+1))(hy:∀i,i<n->Y i<Y (i+1)):
 (DU E (E.getD 0 Γ) 0=1->0<=lF (upA X Y) E)/\(DU E (E.getD 0 Γ) 0=0->lF (upA X Y) E<=0):=by
 have hv:∀i k:Nat,bF E i k=0\/(bF E i k=DU E (E.getD 0 Γ) 0\/bF E i k=DU E (E.getD 0 Γ) 0-1):=fun i k=>by
  have:=hs.vals h k (i+1);rw[show((i+1:Nat):Int)-1=i by omega]at this;omega
 rw[bk7 X Y hs.ring h];refine⟨fun c=>?_,fun c=>?_⟩
 .refine tR fun k hk=>qI (by have:=hy k hk;omega) (tR fun i hi=>qI (by have:=hx i hi;omega) ?_);have:=hv i k;omega
 .have hn:0<=dP (fun k=>(Y (k+1)-Y k)*dP (fun i=>(X (i+1)-X i)* -bF E i k) m) n:=by
   refine tR fun k hk=>qI (by have:=hy k hk;omega) (tR fun i hi=>qI (by have:=hx i hi;omega) ?_);have:=hv i k;omega
  have e:dP (fun k=>(Y (k+1)-Y k)*dP (fun i=>(X (i+1)-X i)* -bF E i k) m) n= -1*dP (fun k=>(Y (k+1)-Y k)*dP (fun i=>(X (i+1)-X i)*bF E i k) m) n:=by
   rw[<-E8];refine dI fun k _=>?_;rw[show(fun i:Nat=>(X (i+1)-X i)* -bF E i k)=fun i:Nat=>-1*((X (i+1)-X i)*bF E i k) by funext i;grind,E8];grind
  omega
end
section
variable{ls:List (List Sg)}{X Y:Int}
structure uF(ls:List (List Sg))(X Y:Int):Prop where
 ring:∀r,r<ls.length->oZ (ls.getD r [])
 two:∀r,r<ls.length->2<=(ls.getD r []).length
 long:∀r,r<ls.length->∀j,j<(ls.getD r []).length->((ls.getD r []).getD j Γ).a≠((ls.getD r []).getD j Γ).b
 grid:∀s∈ls.flatten,iT X Y s
 sides:∀r j t,r<ls.length->j<(ls.getD r []).length->t<((ls.getD r []).getD j Γ).len->
  sA (bF ls.flatten) (((ls.getD r []).getD j Γ).px t) (((ls.getD r []).getD j Γ).py t) ((ls.getD r []).getD j Γ).dir=1/\sK (bF ls.flatten) (((ls.getD r []).getD j Γ).px t) (((ls.getD r []).getD j Γ).py t) ((ls.getD r []).getD j Γ).dir=0
 turn:∀r j,r<ls.length->j<(ls.getD r []).length->eY (dK X Y ls.flatten) (cV ((ls.getD r []).getD j Γ) (((ls.getD r []).getD j Γ).len-1))=cV ((ls.getD r []).getD ((j+1)%(ls.getD r []).length) Γ) 0
 diff:∀r j,r<ls.length->j<(ls.getD r []).length->((ls.getD r []).getD j Γ).dir≠((ls.getD r []).getD ((j+1)%(ls.getD r []).length) Γ).dir\/((ls.getD r []).getD j Γ).side≠((ls.getD r []).getD ((j+1)%(ls.getD r []).length) Γ).side
theorem uF.len0(h:uF ls X Y)(hr:r<ls.length)(hj:j<(ls.getD r []).length):0<((ls.getD r []).getD j Γ).len:=by
 have:=h.long r hr j hj;unfold Sg.len;omega
theorem uF.rings(h:uF ls X Y):∀l∈ls,oZ l:=by
 intro l hl;obtain⟨r,hr,rfl⟩:=List.mem_iff_getElem.1 hl;have:=h.ring r hr;rwa[show ls.getD r []=ls[r] by simp[Ω,hr]]at this
theorem Jc(hr:∀l∈ls,oZ l)(hg:∀s∈ls.flatten,iT X Y s)(i k):dK X Y ls.flatten i k=decide (0<bF ls.flatten i k):=by
 by_cases c:0<bF ls.flatten i k
 .rw[decide_eq_true c];refine aG fun hn=>?_;have:=rS hr hg (i:=i) (k:=k) (by simpa using hn);omega
 .rw[decide_eq_false c];refine aG fun hn=>c ?_;exact(bw1 (by simpa using hn)).2.2.2.2
theorem uF.cell(h:uF ls X Y)(i k):dK X Y ls.flatten i k=decide (0<bF ls.flatten i k):=Jc h.rings h.grid i k
theorem uF.border(h:uF ls X Y){x y:Int}{d:Nat}(hd:d<4):bor (dK X Y ls.flatten) x y d=ι↔∃r j t,r<ls.length/\j<(ls.getD r []).length/\t<((ls.getD r []).getD j Γ).len/\((ls.getD r []).getD j Γ).px t=x/\((ls.getD r []).getD j Γ).py t=y/\((ls.getD r []).getD j Γ).dir=d:=by
 constructor
 .intro hb;obtain⟨s,hs,ho⟩:=YW h.rings h.grid hb;obtain⟨t,ht,e1,e2,e3⟩:=vD hd ho;obtain⟨l,hl,Ki⟩:=List.mem_flatten.1 hs;obtain⟨r,hr,rfl⟩:=List.mem_iff_getElem.1 hl;obtain⟨j,hj,rfl⟩:=List.mem_iff_getElem.1 Ki;have er:ls.getD r []=ls[r]:=by simp[Ω,hr]
  have ej:(ls.getD r []).getD j Γ=ls[r][j]:=by rw[er];simp[Ω,hj]
  exact⟨r,j,t,hr,by rw[er];exact hj,by rw[ej];exact ht,by rw[ej];exact e1,by rw[ej];exact e2,by rw[ej];exact e3⟩
 .rintro⟨r,j,t,hr,hj,ht,rfl,rfl,rfl⟩;obtain⟨s1,s2⟩:=h.sides r j t hr hj ht;have hc:dK X Y ls.flatten=fun i k=>decide (0<bF ls.flatten i k):=by funext i k;exact h.cell i k
  unfold bor;rw[hc,as1,as2,s1,s2];rfl
theorem uF.bord(h:uF ls X Y)(hr:r<ls.length)(hj:j<(ls.getD r []).length)(ht:t<((ls.getD r []).getD j Γ).len):eX (dK X Y ls.flatten) (cV ((ls.getD r []).getD j Γ) t)=ι:=by
 unfold eX;rw[aI,decide_eq_true_eq];exact⟨Sg.dir_lt _,(h.border (Sg.dir_lt _)).2 ⟨r,j,t,hr,hj,ht,rfl,rfl,rfl⟩⟩
theorem Jd{f:Nat->Int}{n:Nat}(h:∀j,j<n->0<=f j)(hi:i<n):f i<=dP f n:=by
 induction n with
 |zero=>omega
 |succ n ih=>
  rw[dP];by_cases c:i=n
  .subst c;have:=tR (f:=f) (n:=i) fun j hj=>h j oM;omega
  .have:=ih (fun j hj=>h j oM) oM;have:=h n oM;omega
theorem Xr{f:Nat->Int}{n:Nat}(h:∀j,j<n->0<=f j)(hi:i<n)(hk:k<n)(hn:i≠k):f i+f k<=dP f n:=by
 induction n with
 |zero=>omega
 |succ n ih=>
  rw[dP];have hp:=h n oM;by_cases c:i=n
  .subst c;have:=Jd (f:=f) (n:=i) (i:=k) (fun j hj=>h j oM) oM;omega
  .by_cases c2:k=n
   .subst c2;have:=Jd (f:=f) (n:=k) (i:=i) (fun j hj=>h j oM) oM;omega
   .have:=ih (fun j hj=>h j oM) oM oM;omega
theorem bi{x y:Int}(he:e<4)(h:fS s x y e≠0):(A6 s x y e/\fS s x y e=1)\/(A6 s (fU x e) (fV y e) ((e+2)%4)/\fS s x y e= -1):=by
 have h4:e=0\/e=1\/e=2\/e=3:=oM;have hc:=fun a b i:Int=>(show tD a b i=1/\a<=i/\i<b\/tD a b i= -1/\b<=i/\i<a\/tD a b i=0 by unfold tD;(repeat' split)<;>omega);rcases h4 with rfl|rfl|rfl|rfl;all_goals
  unfold fS at h|-;unfold A6 fU fV;simp only[]at h|-;split at h
  .rename_i hu;rw[ip hu];simp only[hu.1,hu.2,true_and];have:=hc s.a s.b x;have:=hc s.a s.b y;have:=hc s.a s.b (x-1);have:=hc s.a s.b (y-1);omega
  .exact absurd rfl h
theorem uF.uniq(h:uF ls X Y)(hr:r<ls.length)(Pw:r2<ls.length)(hj:j<(ls.getD r []).length)(Wh:j2<(ls.getD r2 []).length)(ht:t<((ls.getD r []).getD j Γ).len)(UH:t2<((ls.getD r2 []).getD j2 Γ).len)(hw:cV ((ls.getD r []).getD j Γ) t=cV ((ls.getD r2 []).getD j2 Γ) t2):r=r2/\j=j2/\t=t2:=by
 obtain⟨x,hx⟩:∃x,x=((ls.getD r []).getD j Γ).px t:=⟨_,rfl⟩;obtain⟨y,hy⟩:∃y,y=((ls.getD r []).getD j Γ).py t:=⟨_,rfl⟩;obtain⟨d,hd⟩:∃d,d=((ls.getD r []).getD j Γ).dir:=⟨_,rfl⟩;unfold cV at hw;injection hw with ex ey ed;have J5:d<4:=by rw[hd];exact Sg.dir_lt _
 obtain⟨s1,s2⟩:=h.sides r j t hr hj ht;rw[<-hx,<-hy,<-hd]at s1 s2;rw[<-hx]at ex;rw[<-hy]at ey;rw[<-hd]at ed;have hnn:∀q,q<ls.length->∀i,i<(ls.getD q []).length->0<=fS ((ls.getD q []).getD i Γ) x y d:=fun q hq i hi=>by
  by_cases c:fS ((ls.getD q []).getD i Γ) x y d=0
  .omega
  .rcases bi J5 c with⟨-,e⟩|⟨ho,-⟩
   .omega
   .obtain⟨u,hu,e1,e2,e3⟩:=vD (aV _ dD) ho;have:=(h.sides q i u hq hi hu).1;rw[e1,e2,e3]at this;have hb:=E7 (bF ls.flatten) (fU x d) (fV y d) (d:=(d+2)%4) (aV _ dD);have J7:fU (fU x d) ((d+2)%4)=x:=by
     unfold fU;have h4:d=0\/d=1\/d=2\/d=3:=oM;rcases h4 with rfl|rfl|rfl|rfl<;>simp
    have VK:fV (fV y d) ((d+2)%4)=y:=by
     unfold fV;have h4:d=0\/d=1\/d=2\/d=3:=oM;rcases h4 with rfl|rfl|rfl|rfl<;>simp
    rw[J7,VK,show((d+2)%4+2)%4=d by omega,s2]at hb;omega
 have h1:fS ((ls.getD r []).getD j Γ) x y d=1:=by
  rw[hx,hy,bh oM J5,ip ⟨hd,ht⟩,iN (by rw[hd];have:=Sg.dir_lt ((ls.getD r []).getD j Γ);omega)];rfl
 have h2:fS ((ls.getD r2 []).getD j2 Γ) x y d=1:=by
  rw[ex,ey,bh oM J5,ip ⟨ed,UH⟩,iN (by rw[ed];have:=Sg.dir_lt ((ls.getD r2 []).getD j2 Γ);omega)];rfl
 have BQ:dP (fun q=>dP (fun i=>fS ((ls.getD q []).getD i Γ) x y d) (ls.getD q []).length) ls.length=1:=by
  rw[<-dI (f:=fun q=>sA (bF (ls.getD q [])) x y d-sK (bF (ls.getD q [])) x y d) fun q hq=>by rw[Ct (h.ring q hq),nB],sO,<-RW,<-RY,s1,s2];rfl
 have hin:∀q,q<ls.length->0<=dP (fun i=>fS ((ls.getD q []).getD i Γ) x y d) (ls.getD q []).length:=fun q hq=>tR fun i hi=>hnn q hq i hi;have Pn:r=r2:=aG fun hne=>by
  have a1:=Xr hin hr Pw hne;have a2:=Jd (f:=fun i=>fS ((ls.getD r []).getD i Γ) x y d) (fun i hi=>hnn r hr i hi) hj;have a3:=Jd (f:=fun i=>fS ((ls.getD r2 []).getD i Γ) x y d) (fun i hi=>hnn r2 Pw i hi) Wh;omega
 subst Pn;have hj':j=j2:=aG fun hne=>by
  have a1:=Jd hin hr;have a2:=Xr (f:=fun i=>fS ((ls.getD r []).getD i Γ) x y d) (fun i hi=>hnn r hr i hi) hj Wh hne;omega
 subst hj';exact⟨rfl,rfl,GH (by rw[<-hx,ex]) (by rw[<-hy,ey])⟩
theorem T8{c:Int->Int->Bool}{x y:Int}{d:Nat}(hd:d<4)(h1:bor c x y d=ι)(h2:bor c (fU x d) (fV y d) d=ι):eY c ⟨x,y,d⟩=⟨fU x d,fV y d,d⟩:=by
 unfold eY;simp only[];rw[iN,ip (by rw[aT hd];exact h2),aT hd];unfold bor at *;unfold fU fV at *;have h4:d=0\/d=1\/d=2\/d=3:=oM;rcases h4 with rfl|rfl|rfl|rfl<;>simp only[pv,rgt,cL,Nat.reduceMod]at * <;>simp_all
theorem uF.next(h:uF ls X Y)(hr:r<ls.length)(hj:j<(ls.getD r []).length)(ht:t<((ls.getD r []).getD j Γ).len):
 eY (dK X Y ls.flatten) (cV ((ls.getD r []).getD j Γ) t)=if t+1<((ls.getD r []).getD j Γ).len then cV ((ls.getD r []).getD j Γ) (t+1)else cV ((ls.getD r []).getD ((j+1)%(ls.getD r []).length) Γ) 0:=by
 by_cases c:t+1<((ls.getD r []).getD j Γ).len
 .rw[ip c];have lI:=rH ((ls.getD r []).getD j Γ) t;have b1:=(h.border (Sg.dir_lt _)).2 ⟨r,j,t,hr,hj,ht,rfl,rfl,rfl⟩;have b2:=(h.border (Sg.dir_lt _)).2 ⟨r,j,t+1,hr,hj,c,rfl,rfl,rfl⟩;unfold cV;rw[lI.1,lI.2]at b2|-;exact T8 (Sg.dir_lt _) b1 b2
 .rw[iN c,<-h.turn r j hr hj,show t=((ls.getD r []).getD j Γ).len-1 by omega]
end
end
end Go.Proofs.YtncclggcfgnhpaaGreatDoor
