import Derived.Deep.Slices
import Derived.Deep.Strs
import Derived.Lib.LaidTab
import Derived.SizedLaws
import Derived.OpenShut
import Derived.Test.YtkchhginppjaiaaGreatDoorZ0
import Derived.Test.YtkchhginppjaiaaGreatDoorZ3
import Derived.Test.YtkchhginppjaiaaGreatDoorZ8
import Derived.Test.YtkchhginppjaiaaGreatDoorZ9
import Derived.Test.YtkchhginppjaiaaGreatDoorZ10
import Derived.Test.YtkchhginppjaiaaGreatDoorZ11
namespace Go.Proofs.YtkchhginppjaiaaGreatDoor
set_option maxRecDepth 100000
set_option maxHeartbeats 8000000
set_option linter.all false
open Go.Proofs.Tryz
open _root_.Array renaming replicate_succ->cA,replicate_zero->cB
open _root_.Bool renaming and_eq_true->bQ,false_eq_true->bS,not_eq_true'->dP
open _root_.Go renaming World->aF,Value->aP,undef->aO,Calls->bE,Addr->cO,TypeId->dT,heap_setCell_other->eE,results_tmp->iS,run_takeDeferred->nD,reachBytes->nK,wpAnyIn_done->pM,grownBy_putObj'->rO,MemPlace->Oi,DataW->Sz
open Go.AllReadyIn renaming nil->eB,cons->PU
open Go.DataW renaming trod->jD,trod_int->pB,weightsEach->sZ,trod_struct->Io,weights->Qa,lit->Sf,weightsAll->uf,agg->ui
open Go.DataW.agg renaming injEq->YM
open Go.Deep renaming open_slice->Wr
open Go.Ending renaming returned->bA
open Go.IntKind renaming i64->aB
open Go.IntWalk renaming i64_in->bI
open Go.KeepsOthers renaming setCell->dG,of_grownBy->R7
open Go.Obj renaming cells->aN
open Go.Proofs renaming enters_of->mB
open Go.Proofs.Tryz renaming prog->aE,underlying3->dL,underlying4->fM,isAgg28->yC,isAgg62->KD,underlying54->KK,results26->Oh,isAgg27->VQ,underlying22->ug,underlying24->uh
open Go.RowKit renaming intOf->aK,Hid->bK
open Go.RowKit.Below renaming refl->aL
open Go.Value renaming string->aA,int->aC,slice->aD,bool->aV,pointer->aY,agg->cF,tuple->cK
open Go.World renaming block_lt_of_cell?->bB,size_alloc->bH,cells?_some->In
open _root_.Int renaming toNat_natCast->nX,sub_self->uX
open _root_.List renaming getD_eq_getElem?_getD->aG,getElem?_cons_zero->aI,getElem?_toArray->aJ,length_map->aZ,length_cons->bD,getElem?_eq_getElem->bN,length_append->bO,length_nil->bV,size_toArray->cD,append_toArray->cH,cons_append->cJ,take_succ_eq_append_getElem->cN,push_toArray->cR,mem_cons_self->cW,mem_cons_of_mem->dA,range->dD,nil_append->dF,mem_singleton->eJ,take_of_length_le->eM,map_append->eV,getElem_of_mem->fI,getElem_mem->gL,mem_append_left->iL,map_congr_left->iX,length_range->kO,flatMap_cons->kT,mem_map_of_mem->kZ,flatMap_append->lK,map_map->lY,map_cons->nJ,flatMap_def->pQ,append_nil->pZ,length_pos_of_mem->sX,flatten_cons->uV,mem_range->uW,mem_append_right->vP,foldr_cons->wD,map_nil->yE,range_succ->DR,flatMap_map->KH,take_append_drop->Wj
open _root_.List.Pairwise renaming imp_of_mem->PP
open _root_.List.Perm renaming flatten->VR
open _root_.List.cons renaming injEq->Ip
open _root_.Nat renaming le_refl->aH,le_trans->aU,zero_le->bM,mod_lt->dB,lt_of_lt_of_le->dC,reduceAdd->dQ,reduceSub->dR,mod_add_mod->iE,add_zero->oG,zero_mul->yW
open _root_.Option renaming getD_some->bX
open _root_.Option.some renaming inj->eG
open _root_.Prod.mk renaming injEq->KG
open _root_.Rat renaming intCast_mul->lX,num_intCast->pA,intCast_lt_intCast->Wp,add_zero->Wq
section
open Go Go.RowKit Go.Shelf Go.Lib
section
attribute[local go_sem] Oper.semAt_some
theorem cmpS_hi{x y:List UInt8}(hx:Sm x)(hy:Sm y):0<(fH x y).1↔cT y<cT x:=by
 rw[hx.cmp hy];show 0<nH _ _↔_;rcases Bk (cT x) (cT y)with⟨h,e⟩|⟨h,e⟩|⟨h,e⟩<;>rw[e]<;>constructor <;>intro k<;>first |(exfalso;revert k;decide)|grind |decide
theorem lv_one(z:ByteArray)(P:Nat)(c0 c1 c2 c3 c5 c6:aP)(g:Bool)(W:aF)(h:bT W P #[c0,c1,c2,c3,aV g,c5,c6] 56):bE aE 72 #[aA z,aY (some ⟨P,0,none⟩)] W fun e w'=>e=bA (aV (!g))∧Below W.heap.size W w':=by
 have k:=h.cell 4;have l:=h.lt;simp only[aJ,aI,List.getElem?_cons_succ]at k;clear h;go_enter func72,ntmps72;go_wp2;go_ret;exact⟨rfl,aL _ _⟩
theorem lv_two(z b:List UInt8)(P:Nat)(W:aF)(hE:mN W)(hz:Sm z)(hb:Sm b)(h:bT W P #[aA (bs b)] 34):bE aE 75 #[aA (bs z),aY (some ⟨P,0,none⟩)] W fun e w'=>e=bA (aV (decide (cT b<cT z)))∧Below W.heap.size W w':=by
 have k:=h.cell 0;have l:=h.lt;simp only[aJ,aI]at k;have HC:=zq (OD z b W hE hz hb);have R:bK (decide (cT b<cT z)=decide (0<(fH z b).1)):=by show _=_;rw[decide_eq_decide];exact(cmpS_hi hz hb).symm
 clear h hE hz hb;generalize decide (cT b<cT z)=D at *;generalize(fH z b).1=c at *;generalize bs z=Z at *;generalize bs b=B at *;go_enter func75,ntmps75;go_wp2_with fail
 refine ka HC.out fun W1 hb1=>?_;go_wp2;go_ret;exact⟨by rw[R.out]<;>rfl,hb1⟩
theorem lv_pairs(a:Option cO)(n c:Nat)(w:aF):bE aE 73 #[aD a n c] w fun e w'=>e=bA (.func (.func 144) #[] #[aY (some ⟨w.heap.size,0,none⟩)])∧w'=w.alloc (aN #[aD a n c] 27):=by
 go_enter func73,ntmps73;go_wp2;go_ret;exact⟨rfl,rfl⟩
def oB(ss:List Sd)(fs:List Fr)(n:Nat)(z:List UInt8):Prop:=∃i,i<n∧(ss.getD i default).gable=false∧z=(fs.getD i default).st
def meetZ(fs:List Fr)(b:List UInt8)(x:Nat×Nat)(z:List UInt8):Prop:=∃q,kG (fs.getD x.1 default).q (fs.getD x.2 default).q q∧z=bG q∧cT b<q
def Ky(ss:List Sd)(fs:List Fr)(n:Nat)(b:List UInt8)(L:List (Nat×Nat))(z:List UInt8):Prop:=oB ss fs n z∨∃x∈L,meetZ fs b x z
def PIn(fs:List Fr)(n:Nat)(L:List (Nat×Nat)):Prop:=(∀x∈L,M9 fs n x)∧L.length≤576
theorem AQ{W:aF}{B e s n b:Nat}{v:aP}{xs:List aP}{cs:Array aP}{T:dT}(h:W.ownsRow B e s v n xs)(hb:bT W b cs T)(iC:T≠e)(j:Nat)(u:aP):(W.setCell ⟨b,j,none⟩ u).ownsRow B e s v n xs:=by
 refine⟨h.1,h.2.imp id ?_⟩;rintro⟨g,cap,oL,e1,e2,e3,e4⟩;refine⟨g,cap,oL,e1,e2,(eE W ⟨b,j,none⟩ g u fun e'=>?_).trans e3,e4⟩;have e':g=b:=e';subst e';have JG:W.heap[g]? =some (aN cs T (0,0)):=hb;rw[JG]at e3;cases e3;exact iC rfl
structure J9(w3:aF)(P8:Nat)(ex:Nat→Prop)(ok:List UInt8→Prop)(c:Nat)(W:aF):Prop where
 bl:Below w3.heap.size w3 W
 h8:w3.heap.size≤P8
 out:∃v xs,bT W P8 #[v] 62∧W.ownsRow w3.heap.size 34 1 v xs.length (dK xs)∧Ls xs ok c∧∀k,ex k→k<W.heap.size∧v.ownBlock≠some k
section
variable{w3:aF}{P8:Nat}{ex:Nat→Prop}{ok:List UInt8→Prop}{c:Nat}{W W':aF}
theorem J9.below(h:J9 w3 P8 ex ok c W)(hb:Below W.heap.size W W'):J9 w3 P8 ex ok c W':=by
 obtain⟨v,xs,h1,h2,h3,h4⟩:=h.out;exact⟨aQ h.bl hb,h.h8,v,xs,h1.below hb h1.lt,bJ h2 hb,h3,fun k hk=>⟨dC (h4 k hk).1 hb.size,(h4 k hk).2⟩⟩
theorem J9.own{row:Option Nat}(h:J9 w3 P8 ex ok c W)(hg:W.grownBy W' row)(hr:∀r,row=some r→∃o:Obj,W.heap[r]? =some o∧o.isCells=false)(hb:Below w3.heap.size w3 W'):J9 w3 P8 ex ok c W':=by
 obtain⟨v,xs,h1,h2,h3,h4⟩:=h.out;exact⟨hb,h.h8,v,xs,h1.own hg hr,kV h2 hg hr,h3,fun k hk=>⟨dC (h4 k hk).1 hg.size,(h4 k hk).2⟩⟩
theorem J9.iff{ok':List UInt8→Prop}{c':Nat}(h:J9 w3 P8 ex ok c W)(hk:∀z,ok z↔ok' z)(hc:c≤c'):J9 w3 P8 ex ok' c' W:=by
 obtain⟨v,xs,h1,h2,h3,h4⟩:=h.out;exact⟨h.bl,h.h8,v,xs,h1,h2,⟨h3.sm,h3.asc,aU h3.len hc,fun z=>(h3.mem z).trans (hk z)⟩,h4⟩
theorem J9.put(h:J9 w3 P8 ex ok c W){v v':aP}{xs:List (List UInt8)}(h1:bT W P8 #[v] 62)(h2:W.ownsRow w3.heap.size 34 1 v xs.length (dK xs))(hk:∀k,ex k→k<W.heap.size∧v.ownBlock≠some k)
 {t:List UInt8}{b:Bool}{ok':List UInt8→Prop}(h3:Ls (AP b xs t) ok' (c+1))
 (ho:W'.ownsRow w3.heap.size 34 1 v' (AP b xs t).length (dK (AP b xs t)))(hn:v'.ownBlock=v.ownBlock∨∀g,v'.ownBlock=some g→W.heap.size≤g)(hg:W.grownBy W' v.ownBlock):
 J9 w3 P8 ex ok' (c+1) (W'.setCell ⟨P8,0,none⟩ v')∧jK W (W'.setCell ⟨P8,0,none⟩ v'):=by
 have WK:Below w3.heap.size w3 W':=dO (v:=v) h.bl hg h2 (aH _) h.bl.size;have k8:=jQ h1 hg (gP h1 h2 (by decide));refine⟨⟨WK.setCell (p:=⟨P8,0,none⟩) h.h8 v',h.h8,v',_,k8.set 0 v',?_,h3,fun k hx=>?_⟩,(jK.grown h2 hg).trans (jK.set k8 (.inr rfl) 0 v')⟩
 ·refine⟨ho.1,ho.2.imp id ?_⟩;rintro⟨g,cap,oL,e1,e2,e3,e4⟩;refine⟨g,cap,oL,e1,e2,?_,e4⟩;refine(eE W' ⟨P8,0,none⟩ g v' ?_).trans e3;intro e;have e:g=P8:=e;subst e;have:W'.heap[g]? =some (aN #[v] 62 (0,0)):=k8;rw[this]at e3;cases e3
 ·obtain⟨a1,a2⟩:=hk k hx;refine⟨by rw[World.size_setCell];exact dC a1 hg.size,?_⟩;rcases hn with e|e
  ·rw[e];exact a2
  ·intro e';have:=e k e';omega
theorem J9.more(h:J9 w3 P8 ex ok c W)(hb:Below W.heap.size W W'){ex':Nat→Prop}(hx:∀k,ex' k→ex k∨(W.heap.size≤k∧k<W'.heap.size)):J9 w3 P8 ex' ok c W':=by
 obtain⟨v,xs,h1,h2,h3,h4⟩:=h.out;refine⟨aQ h.bl hb,h.h8,v,xs,h1.below hb h1.lt,bJ h2 hb,h3,fun k hk=>?_⟩;rcases hx k hk with h|h
 ·exact⟨dC (h4 k h).1 hb.size,(h4 k h).2⟩
 ·exact⟨h.2,fun e=>by have:=(h2.lt k e).2;omega⟩
theorem J9.less(h:J9 w3 P8 ex ok c W){ex':Nat→Prop}(hx:∀k,ex' k→ex k):J9 w3 P8 ex' ok c W:=by
 obtain⟨v,xs,h1,h2,h3,h4⟩:=h.out;exact⟨h.bl,h.h8,v,xs,h1,h2,h3,fun k hk=>h4 k (hx k hk)⟩
theorem J9.far{v v':aP}(hk:∀k,ex k→k<W.heap.size∧v.ownBlock≠some k)(hg:W.grownBy W' v.ownBlock){k:Nat}(hx:ex k)(h8:k≠P8):(W'.setCell ⟨P8,0,none⟩ v').heap[k]? =W.heap[k]? :=
 (eE W' ⟨P8,0,none⟩ k v' h8).trans (hg.block k (hk k hx).1 (fun e=>(hk k hx).2 e.symm))
theorem Vs{v v':aP}{B s n:Nat}{xs:List aP}(h2:W.ownsRow B 34 s v n xs)(hg:W.grownBy W' v.ownBlock):KeepsOthers W (W'.setCell ⟨P8,0,none⟩ v'):=
 (R7 hg (fun j o e ho=>by
  rcases h2.2 with⟨h,_⟩|⟨g,cap,oL,h,_,k,_⟩
  ·rw[h]at e;cases e
  ·rw[h]at e
   have e:g=j:=by simpa[Value.ownBlock]using e
   subst e
   rw[ho]at k;cases k;rfl)).trans (dG _ _ _)
end
theorem fr_stS{f:Fr}(h:f.Ok):Sm f.st:=by
 have e:f.st=bG f.q.t:=by
  have:=congrArg Fr.st h.good.2;rw[←this];rfl
 rw[e];exact Sm.of (h.good.1.ht.mono (by decide) (by decide))
theorem Vt{ss:List Sd}{fs:List Fr}{k:Nat}(z:List UInt8):(oB ss fs k z∨((!(ss.getD k default).gable)=true∧z=(fs.getD k default).st))↔oB ss fs (k+1) z:=by
 constructor
 ·rintro(⟨i,h1,h2⟩|⟨h1,h2⟩)
  ·exact⟨i,by omega,h2⟩
  ·exact⟨k,by omega,by simpa using h1,h2⟩
 ·rintro⟨i,h1,h2,h3⟩;by_cases h:i=k
  ·subst h;exact .inr ⟨by rw[h2];rfl,h3⟩
  ·exact .inl ⟨i,by omega,h2,h3⟩
theorem range5{W:aF}{b o:Nat}{v0 v1 v2 v3 v4:aP}(c0:W.cell? ⟨b,o,none⟩=some v0)(c1:W.cell? ⟨b,o+1,none⟩=some v1)(c2:W.cell? ⟨b,o+2,none⟩=some v2)(c3:W.cell? ⟨b,o+3,none⟩=some v3)(c4:W.cell? ⟨b,o+4,none⟩=some v4):W.rangeAt b o [v0,v1,v2,v3,v4]:=fun t u hu=>by
 match t,hu with
 |0,hu=>cases hu;exact c0
 |1,hu=>cases hu;exact c1
 |2,hu=>cases hu;exact c2
 |3,hu=>cases hu;exact c3
 |4,hu=>cases hu;exact c4
 |t+5,hu=>simp at hu
theorem xP{P:Program}{fn:Func}{p q r:Tmp}{ty tz tt:dT}(h:fn.results= #[.cell p ty,.cell q tz,.cell r tt])(tmps:Array aP)(w:aF)(g1 g2 g3:Nat)(v1 v2 v3:aP)
 (hp:tmps.getD p aO=aY (some ⟨g1,0,none⟩))(hq:tmps.getD q aO=aY (some ⟨g2,0,none⟩))(hr:tmps.getD r aO=aY (some ⟨g3,0,none⟩))(h1:w.cell? ⟨g1,0,none⟩=some v1)(h2:w.cell? ⟨g2,0,none⟩=some v2)(h3:w.cell? ⟨g3,0,none⟩=some v3)
 (ha:∀w,(isAgg ty).run P w=.ok false w)(hb:∀w,(isAgg tz).run P w=.ok false w)(hc:∀w,(isAgg tt).run P w=.ok false w):
 (results fn tmps).run P w=.ok (cK #[v1,v2,v3]) w:=by
 have Td:tmps[p]?.getD aO=aY (some ⟨g1,0,none⟩):=by simpa using hp
 have hq':tmps[q]?.getD aO=aY (some ⟨g2,0,none⟩):=by simpa using hq
 have YP:tmps[r]?.getD aO=aY (some ⟨g3,0,none⟩):=by simpa using hr
 simp[results,h,go_sem,Td,hq',YP,h1,h2,h3,ha,hb,hc]
theorem lv_new(c0:aP)(w:aF):∃W,(((w.alloc (aN #[c0] 24)).alloc (aN #[aD none 0 0] 27)).alloc (aN #[aD none 0 0] 62)).alloc (aN #[aC aB 0] 28)=W∧
 bT W w.heap.size #[c0] 24∧bT W (w.heap.size+1) #[aD none 0 0] 27∧bT W (w.heap.size+1+1) #[aD none 0 0] 62∧bT W (w.heap.size+1+1+1) #[aC aB 0] 28∧Below w.heap.size w W:=by
 refine⟨_,rfl,(((bT.new w _ _).alloc _).alloc _).alloc _,?_,?_,?_,((((aL _ w).alloc (aH _) _).alloc (by simp) _).alloc (by simp;omega) _).alloc (by simp;omega) _⟩
 ·have:=((bT.new (w.alloc (aN #[c0] 24)) #[aD none 0 0] 27).alloc (aN #[aD none 0 0] 62)).alloc (aN #[aC aB 0] 28);simpa[bH]using this
 ·have:=(bT.new ((w.alloc (aN #[c0] 24)).alloc (aN #[aD none 0 0] 27)) #[aD none 0 0] 62).alloc (aN #[aC aB 0] 28);simpa[bH]using this
 ·have:=bT.new (((w.alloc (aN #[c0] 24)).alloc (aN #[aD none 0 0] 27)).alloc (aN #[aD none 0 0] 62)) #[aC aB 0] 28;simpa[bH]using this
theorem nh (a:Option cO) (N cap:Nat) (rs:List Rg) (w:aF) (hl:rs.length=N) (hN:N≤1000) (hn:∀ r,(bF rs r).length≤1000) (rr:GN w a rs) (h0:oW (bF rs) N=0) (hE:mN w) (hD:MU w)
 (hng:∃ i,i < (cV rs).length∧((cV rs).getD i default).gable=false) :
 bE aE 26 #[cF #[aD a N cap]] w fun e w' => (∃ fv v xs b,e=bA (cK #[fv,v,aC aB 0])∧w'.ownsRow w.heap.size 58 5 fv (cE (bF rs) N) (iT (eX (bF rs) N))∧w'.ownsRow w.heap.size 34 1 v xs.length (dK xs)∧
  oB (cV rs) (eX (bF rs) N) (cE (bF rs) N) b∧(∀ z,oB (cV rs) (eX (bF rs) N) (cE (bF rs) N) z→cT b≤cT z)∧∃ L,PAll (eX (bF rs) N) (cE (bF rs) N) L∧PIn (eX (bF rs) N) (cE (bF rs) N) L∧Ls xs (Ky (cV rs) (eX (bF rs) N) (cE (bF rs) N) b L) 3000)∧Below w.heap.size w w' :=by
 obtain⟨c0,c1,c2,c3,c4, -⟩:=rI h0
 have hC:∀ r,AH (bF rs r):=DH (fun r hr=> BD (by omega)) c3
 have hp:∀ r,r < N→4≤(bF rs r).length:=fun r hr=> by
  have:=cP.1 c4 r hr
  unfold D0 at this
  simp only [Bool.not_eq_false'] at this
  unfold nP at this
  simp only [bQ,decide_eq_true_eq] at this
  exact this.2
 have pF:∀ r∈rs,r.ss.length≤1000∧0 < r.ss.length:=fun r hr=> by
  obtain⟨i,hi,rfl⟩:=fI hr
  have e:bF rs i=rs[i].ss:=by unfold bF;simp [aG,hi]
  rw [← e]
  exact⟨hn i,by have:=hp i (by omega);omega⟩
 have kw:∀ W,Below w.heap.size w W→bE aE 20 #[cF #[aD a N cap]] W fun e w' => e=bA (aC aB 0)∧Below W.heap.size W w' :=fun W hW=> DK a N cap rs W hl hN hn (rr.below hW) h0
 have HFA:=zq (fun W (hW:Below w.heap.size w W)=> Yi a N cap rs W hl hN hn (rr.below hW) h0 (hE.below hW) (hD.below hW) fun V hV=> kw V (aQ hW hV))
 have Z5:=zq (fun W (hW:Below w.heap.size w W)=> U0 a N cap rs W hl hN (by omega) pF (rr.below hW) fun V hV=> kw V (aQ hW hV))
 have BM:cE (bF rs) N=(cV rs).length:=by rw [← hl];exact wP
 rw [← BM] at Z5 hng
 have Ie:=nQ (bF rs) N
 have Cd:∀ i,i < cE (bF rs) N→((eX (bF rs) N).getD i default).Ok:=fun i hi=> by
  obtain⟨r,k,h1,h2,rfl⟩:=Ft (bF rs) N i hi
  rw [sJ _ _ h1 h2]
  refine(frS_ok ?_ (hC r k)).1
  have h3:=cP.1 (cP.1 c3 r h1) k h2
  unfold Jh at h3
  simpa using h3
 have qu:=zq (fun (W:aF) (h:Below w.heap.size w W)=> hE.below h)
 have U8:=zq Ie
 have HOk:=zq Cd
 have HSl:bK ((cV rs).length=cE (bF rs) N):=BM.symm
 have HNg:=zq hng
 clear hl rr h0 hE hD c0 c1 c3 c4 hC hp pF kw BM Ie Cd hng hn
 generalize eX (bF rs) N=FS at *
 generalize cV rs=SS at *
 generalize cE (bF rs) N=M at *
 obtain⟨W0,eY,q1,q2,q3,q4,fE⟩:=lv_new (aD a N cap) w
 have fV:=zq fE
 have zW:=zq q1
 have Cf:=zq q2
 have KS:=zq q3
 have DZ:=zq q4
 have b0:=q1.cell 0
 simp only [aJ,aI] at b0
 have HW:=zq eY
 have H1:=zq (HFA.out _ fE)
 clear fE q1 q2 q3 q4 eY HFA
 refine dM func26 rfl ?_
 simp only [ntmps26,cD,bD,bV,dQ,dR,cA,cB,cR,cH,dF,cJ]
 go_upto_region 1 with (fail)
 rw [HW.out]
 clear HW
 go_wp2_with fail
 refine H1.out.mono ?_
 rintro e W1 ⟨⟨v1,rfl,Py⟩,hb⟩
 obtain⟨fa,fc,rfl⟩:=Dg Py
 obtain⟨i0,hi0, -⟩:=HNg.out
 obtain⟨fb,fo,rfl, -⟩:=(vT.own Py).at (i:=i0) (by rw [U8.out];exact hi0) rfl
 have HB1' :=zq (aQ fV.out hb)
 have zW:=zq (zW.out.below hb zW.out.lt)
 have Cf:=zq (Cf.out.below hb Cf.out.lt)
 have KS:=zq (KS.out.below hb KS.out.lt)
 have DZ:=zq (DZ.out.below hb DZ.out.lt)
 have rk:=zq (jO Py fV.out.size)
 have hP5:=DZ.out.lt
 have b0:=bR hb b0
 clear hb Py H1 fV hi0
 obtain⟨W2,Re⟩:=nm (W1.alloc (aN #[aD (some ⟨fb,fo,none⟩) M fc] 27))
 have hb2:=(aL _ W1).alloc (aH _) (aN #[aD (some ⟨fb,fo,none⟩) M fc] 27)
 have Nw:=bT.new W1 #[aD (some ⟨fb,fo,none⟩) M fc] 27
 rw [Re] at hb2 Nw
 have eT:=zq (aQ HB1'.out hb2)
 have Mr:=zq (bJ rk.out hb2)
 have zW:=zq (zW.out.below hb2 zW.out.lt)
 have Cf:=zq (Cf.out.below hb2 Cf.out.lt)
 have KS:=zq (KS.out.below hb2 KS.out.lt)
 have DZ:=zq (DZ.out.below hb2 DZ.out.lt)
 have vG:=zq Nw
 have yr:=zq Re
 have H1:=zq (Z5.out _ eT.out)
 clear hb2 Nw Re Z5 b0 rk HB1'
 go_upto_region 2 with (fail)
 rw [yr.out]
 clear yr
 generalize W1.heap.size=P5 at *
 have b0:=zW.out.cell 0
 simp only [aJ,aI] at b0
 go_wp2_with fail
 refine H1.out.mono ?_
 rintro e W3 ⟨⟨sg,sc,rfl,hs3⟩,hb⟩
 have HB3:=zq (aQ eT.out hb)
 have N0:=zq (bJ Mr.out hb)
 have HS3:=zq hs3
 have Cf:=zq (Cf.out.below hb Cf.out.lt)
 have KS:=zq (KS.out.below hb KS.out.lt)
 have DZ:=zq (DZ.out.below hb DZ.out.lt)
 have vG:=zq (vG.out.below hb vG.out.lt)
 clear hb hs3 eT Mr H1 b0 zW
 obtain⟨W4,hW4⟩:=nm (W3.alloc (aN #[aD none 0 0] 62))
 have HI0:bK (J9 W3 W3.heap.size (fun _=> False) (oB SS FS 0) 0 W4):=by
  rw [← hW4]
  refine⟨(aL _ _).alloc (aH _) _,aH _,aD none 0 0, [],bT.new _ _ _,⟨rfl, .inl ⟨rfl,rfl⟩⟩,Ls.nil.iff fun z=> ⟨fun h=> h.elim,fun ⟨i,hi,_⟩=> absurd hi (Nat.not_lt_zero _)⟩,fun k h=> h.elim⟩
 have HW4:=zq hW4
 clear hW4
 go_upto_region 8 with (fail)
 rw [HW4.out]
 clear HW4
 obtain⟨P8,hP8⟩:=nm W3.heap.size
 rw [hP8] at HI0 ⊢
 have HP8:=zq hP8
 clear hP8
 go_wp2
 go_loopw [34] (fun i wr=> ∃ k:Nat,i=aC aB (k:Int)∧k≤M∧bK (J9 W3 P8 (fun _=> False) (oB SS FS k) k wr)) (fun i _=> M - (aK i).toNat)
 case atStart=> exact⟨0,rfl,bM _,HI0.out⟩
 case round=>
  clear HI0
  obtain⟨k,rfl,hk,HI⟩:=hrel
  rename aF=> wi
  by_cases hlt:k < M
  ·obtain⟨v,xs,h8,dI,PC,hex⟩:=HI.out.out
   obtain⟨sb,so,e0,f0,f1,f2,f3,f4,f5,f6⟩:=(HS3.out.below HI.out.bl).at (i:=k) (by rw [HSl.out];exact hlt) rfl
   injection e0 with e0;injection e0 with e1 e2;subst e1 e2
   simp only [Nat.zero_add] at f0 f1 f2 f3 f4 f5 f6
   have hO:=HOk.out k hlt
   have S8:=fr_stS hO
   have hLp:=PC.put S8 (!(SS.getD k default).gable)
   have hZ:=fun z=> Vt (ss:=SS) (fs:=FS) (k:=k) z
   have hP10:=bT.new wi (SS.getD k default).cells 56
   have hA:=(aL wi.heap.size wi).alloc (aH _) (aN (SS.getD k default).cells 56)
   obtain⟨b',o',e1,c0,c1,de,c3,c4⟩:=(vT.own (bJ N0.out ((HI.out.bl.mono (aH _))))).at (i:=k) (by rw [U8.out];exact hlt) rfl
   injection e1 with e1;injection e1 with e1 e2;subst e1 e2
   unfold Sd.cells at hP10 hA
   generalize SS.getD k default=s at *
   obtain⟨x,y,rise,run,gable,plate,over⟩:=s
   simp only [] at *
   have hki:(k:Int) < M:=by omega
   go_upto_region 11 with (fail)
   obtain⟨wb,zp⟩:=nm (wi.alloc (aN #[aC aB x,aC aB y,aC aB rise,aC aB run,aV gable,aC aB plate,aC aB over] 56))
   rw [zp] at hP10 hA ⊢
   clear zp f0 f1 f2 f3 f4 f5 f6
   have HIb:=zq (HI.out.below hA)
   have k8:=h8.below hA h8.lt
   have k5:=(vG.out.below HI.out.bl vG.out.lt).below hA (by have:=HI.out.bl.size;have:=vG.out.lt;omega)
   have HOb:=zq (bJ dI hA)
   have j8:=k8.cell 0
   have j5:=k5.cell 0
   have jst:=bR hA c4
   simp only [aJ,aI] at j8 j5
   have lst:=bB wb _ jst
   have QW:=zq PC
   have HLp:=zq hLp
   have Hst:=zq S8
   have HZ:=zq hZ
   have Hex:=zq hex
   have HP10:=zq hP10
   have H8:=zq k8
   have l8:=k8.lt
   have l5:=k5.lt
   have HEb:=zq (fun V (h:Below wb.heap.size wb V)=> (aQ (aQ (aQ HB3.out HI.out.bl) hA) h))
   have HSz:bK (W3.heap.size≤wb.heap.size):=HIb.out.bl.size
   clear h8 dI PC hLp S8 hZ hex hP10 k8 k5 hA hO c0 c1 de c3 c4 HI
   generalize wi.heap.size=P10 at *
   simp only [] at *
   generalize (FS.getD k default).st=st at *
   refine qU 7 (fun _=> .quiet) (fun V=> V.cell? ⟨P8,0,none⟩=some v∧V.cell? ⟨P5,0,none⟩=some (aD (some ⟨fb,fo,none⟩) M fc)∧V.cell? ⟨fb,fo + k * 5 + 4,none⟩=some (aA (bs st))) ⟨j8,j5,jst⟩ ?_ (st:=fun w1 w2 h hb=> ⟨tC hb l8 h.1,tC hb l5 h.2.1,tC hb lst h.2.2⟩)
   refine qS 0 rfl (pu ?_)
   refine qS 1 rfl (pu ?_)
   refine qS 2 rfl (pu ?_)
   refine qS 3 rfl (pu ?_)
   refine qS 4 rfl (pu ?_)
   refine qS 5 rfl (pu ?_)
   refine qS 6 rfl (pu ?_)
   refine qT fun V hV _=> ?_
   have rU:=hV.b
   clear hV
   refine eI 7 [] rfl (fun K hK=> ?_) eB
   rw [ip (by kernel_rfl)]
   go_simp
   refine⟨trivial,(callsIn_wide.2 (Vr 72 #[aY (some ⟨P10,0,none⟩)] (mB func72 (by kernel_rfl) rfl) W3.heap.size xs.length v xs st (!gable) V V (qu.out V (HEb.out V rU)) (aL _ _) (aU HSz.out rU.size) rfl (by have:=QW.out.len;omega) QW.out.sm QW.out.asc Hst.out (bJ HOb.out rU)
    (fun V2 h2=> lv_one (bs st) P10 _ _ _ _ _ _ gable V2 (HP10.out.below (aQ rU h2) HP10.out.lt)))).mono ?_⟩
   rintro e V1 ⟨⟨v1,rfl,Py,JV⟩,hg1⟩
   obtain⟨a1,cc1,rfl⟩:=nA Py
   have hIV:=HIb.out.below rU
   have h8V:=H8.out.below rU H8.out.lt
   have hP:=hIV.put h8V (bJ HOb.out rU) (fun k hk=> hk.elim) (HLp.out.iff HZ.out) Py JV hg1
   have k81:=jQ h8V hg1 (gP h8V (bJ HOb.out rU) (by decide))
   have y8:=k81.cell 0
   have z8:=k81.fz 0
   simp only [aJ,aI] at y8
   show K _ _
   refine hK _ _ (pu ?_)
   clear hK
   refine eI 8 [] rfl (fun K2 hK2=> ?_) eB
   rw [ip (by kernel_rfl)]
   go_simp
   refine hK2 _ _ (pu ?_)
   refine pM (by kernel_rfl) ?_ _
   refine iM.normal ?_
   have HP:=zq hP.1
   clear hK2 hP hIV h8V k81 y8 z8 Py JV hg1 rU HIb HOb H8 QW HLp HZ Hst Hex HP10 HEb HSz j8 j5 jst l8 l5 lst
   go_wp2
   go_roundw
   case rel=> exact⟨k + 1,by go_num,by omega,HP.out⟩
   case measure=> simp only [aK];omega
  ·obtain rfl:M=k:=by omega
   obtain⟨v,xs,h8,dI,PC, -⟩:=HI.out.out
   have hx0:0 < xs.length:=by
    obtain⟨i,hi,hg⟩:=HNg.out
    have:=(PC.mem (FS.getD i default).st).2 ⟨i,hi,hg,rfl⟩
    exact sX this
   obtain⟨b,hb⟩:=nm (xs.getD 0 [])
   have hbm:b∈xs:=by rw [← hb];exact bU hx0 []
   have hbl:∀ z,oB SS FS M z→cT b≤cT z:=fun z hz=> by
    obtain⟨j,hj,rfl⟩:=fI ((PC.mem z).2 hz)
    rw [← hb,aG,bN hx0,bX]
    by_cases h:j=0
    ·subst h;exact Rat.le_refl
    ·have:=(List.pairwise_iff_getElem.1 PC.asc) 0 j hx0 hj (by omega)
     grind
   obtain⟨ga,gc,hv⟩:=nA dI
   subst hv
   obtain⟨g0,go0,hga,qg⟩:=(RJ rfl dI) 0 hx0
   rw [hb,oG] at qg
   subst hga
   have j8:=h8.cell 0
   simp only [aJ,aI] at j8
   have hx0i:(0:Int) < xs.length:=by omega
   go_upto_region 14 with (fail)
   obtain⟨W5,hW5⟩:=nm (wi.alloc (aN #[aA (bs b)] 34))
   have hA5:=(aL wi.heap.size wi).alloc (aH _) (aN #[aA (bs b)] 34)
   have q11:=bT.new wi #[aA (bs b)] 34
   rw [hW5] at hA5 q11 ⊢
   have HI5:=zq (HI.out.more hA5 (ex' :=fun j=> j=wi.heap.size) (fun j e=> .inr ⟨Nat.le_of_eq e.symm,by rw [e];exact q11.lt⟩))
   have k5:=(vG.out.below HI5.out.bl vG.out.lt).cell 0
   simp only [aJ,aI] at k5
   have hbS:=PC.sm b hbm
   have hbZ:=(PC.mem b).1 hbm
   clear hW5 hA5 h8 dI PC qg j8 HI hk hlt hb hx0i hx0
   generalize wi.heap.size=P11 at *
   go_wp2_with fail
   refine(lv_pairs (some ⟨fb,fo,none⟩) M fc W5).mono ?_
   rintro e W6 ⟨rfl,sk⟩
   have hA6:Below W5.heap.size W5 W6:=by rw [sk];exact(aL _ _).alloc (aH _) _
   have qBf:bT W6 W5.heap.size #[aD (some ⟨fb,fo,none⟩) M fc] 27:=by rw [sk];exact bT.new _ _ _
   have HI6:=zq (HI5.out.below hA6)
   have q11:=zq (q11.below hA6 q11.lt)
   have QBf:=zq qBf
   have HbS:=zq hbS
   have HbZ:=zq hbZ
   have Hbl:=zq hbl
   clear sk hA6 qBf HI5 k5 hbS hbZ hbl hbm
   generalize W5.heap.size=Bf at *
   have zV:=zq (aQ HB3.out HI6.out.bl)
   have HF6:=zq (bJ N0.out HI6.out.bl)
   go_wp2_with fail
   refine LZ (gf:=144) (lb:= #[aY (some ⟨Bf,0,none⟩)]) rfl (mB func144 (by kernel_rfl) rfl) (pair_seq 8 Bf w.heap.size (aD (some ⟨fb,fo,none⟩) M fc) M FS U8.out c2 W6 HF6.out QBf.out) jK.trans (fun W l o o' _ h1 h2 _=> jK.putObj W l o o' h1 h2) (fun _=> rfl)
    (fun k W=> (J9 W3 P8 (fun j=> j=P11) (Ky SS FS M b k) (24 + 5 * k.length) W∧bT W P11 #[aA (bs b)] 34)∧bK (PIn FS M k))
    (fun _ _ _=> False)
    (fun s A B row hs hg hr=> ⟨⟨hs.1.1.own hg (fun r e=> (hr r e).2) ((ownFrom_below (β:=Unit) (aH _) HI6.out.bl.size) () A B row hs.1.1.bl hg hr),hs.1.2.own hg (fun r e=> (hr r e).2)⟩,hs.2⟩)
    (fun c s A B row hs hg hr=> hs)
    ⟨⟨HI6.out.iff (fun z=> ⟨fun h=> .inl h,fun h=> h.elim id fun ⟨x,hx,_⟩=> absurd hx (by simp)⟩) (by simp;omega),q11.out⟩,⟨fun x hx=> absurd hx (by simp),bM _⟩⟩
    ?frm ?assign ?body ?done ?stop
   case assign=>
    intro l z W K hK
    gi_wp2
    exact hK
   case stop=>
    rintro D c k W hD h
    exact h.elim
   case body=>
    rintro l L x W ⟨hx,hxl⟩ ⟨⟨hI,hb11⟩,hall⟩
    obtain⟨i,j⟩:=x
    obtain⟨Lt,hjM,hup⟩:=hx
    simp only [] at Lt hjM hup
    have hiM:i < M:=by omega
    obtain⟨g1,e1⟩:=(HOk.out i hiM).good
    obtain⟨g2,e2⟩:=(HOk.out j hjM).good
    have HB:=zq (aQ HB3.out hI.bl)
    have HEq:=zq (fun V (h:Below W.heap.size W V)=> JM _ _ g1 g2 hup V (qu.out V (aQ HB.out h)))
    rw [e1,e2] at HEq
    have HR:=zq (fun V (h:Below W.heap.size W V)=> vT.own (bJ (bJ N0.out hI.bl) h))
    obtain⟨a0,b0',r1,c0,c1,de,c3,c4⟩:=(HR.out W (aL _ _)).at (i:=i) (by rw [U8.out];exact hiM) rfl
    injection r1 with r1;injection r1 with r1 r2;subst r1 r2
    obtain⟨a0,b0',r1,d0,d1,d2,d3,d4⟩:=(HR.out W (aL _ _)).at (i:=j) (by rw [U8.out];exact hjM) rfl
    injection r1 with r1;injection r1 with r1 r2;subst r1 r2
    have k5:=(vG.out.below hI.bl vG.out.lt).cell 0
    simp only [aJ,aI] at k5
    have HI:=zq hI
    have H11:=zq hb11
    have Hnext:bK (PIn FS M (L ++ [(i,j)])):=⟨fun y hy=> by
     rcases List.mem_append.1 hy with h | h
     ·exact hall.out.1 y h
     ·rw [List.mem_singleton.1 h];exact⟨Lt,hjM,hup⟩,by rw [bO];simp only [bD,bV];omega⟩
    have hZ:bK (∀ (Lq:List Rat) (z:List UInt8),(∀ q,q∈Lq↔kG (FS.getD i default).q (FS.getD j default).q q)→((Ky SS FS M b L z∨∃ q∈Lq,z=bG q∧cT b < q)↔Ky SS FS M b (L ++ [(i,j)]) z)):=fun Lq z hq=> by
     unfold Ky meetZ
     constructor
     ·rintro((h | ⟨x,h1,h2⟩) | ⟨q,h1,h2,h3⟩)
      ·exact .inl h
      ·exact .inr ⟨x,iL _ h1,h2⟩
      ·exact .inr ⟨(i,j),vP _ (List.mem_singleton.2 rfl),q,(hq q).1 h1,h2,h3⟩
     ·rintro(h | ⟨x,h1,h2⟩)
      ·exact .inl (.inl h)
      ·rcases List.mem_append.1 h1 with h1 | h1
       ·exact .inl (.inr ⟨x,h1,h2⟩)
       ·rw [List.mem_singleton.1 h1] at h2
        obtain⟨q,h3,h4,h5⟩:=h2
        exact .inr ⟨q,(hq q).2 h3,h4,h5⟩
    have hiI:(i:Int) < M:=by omega
    have hjI:(j:Int) < M:=by omega
    have hi0:(0:Int)≤(i:Int):=by omega
    have hj0:(0:Int)≤(j:Int):=by omega
    have l5:=bB W _ k5
    have lf:=bB W _ c0
    unfold Fr.v Fr.cells at HEq
    generalize hfq:(FS.getD i default).q=fq at *
    generalize hgq:(FS.getD j default).q=gq at *
    have HRi:=zq (fun V (h:vT V (some ⟨fb,fo,none⟩) FS)=> h.at (i:=i) (by rw [U8.out];exact hiM) rfl)
    have HRj:=zq (fun V (h:vT V (some ⟨fb,fo,none⟩) FS)=> h.at (i:=j) (by rw [U8.out];exact hjM) rfl)
    generalize FS.getD i default=f at *
    generalize FS.getD j default=g at *
    obtain⟨uY,fco,fdir,JJ,fst⟩:=f
    obtain⟨Nt,ee,Gp,gsp,gst⟩:=g
    simp only [] at *
    clear hI hb11 hall hup Lt g1 g2 e1 e2 HRi HRj
    gi_wp2_with fail
    refine tV 8 (fun _=> .quiet) (fun V=> V.cell? ⟨P5,0,none⟩=some (aD (some ⟨fb,fo,none⟩) M fc)∧V.rangeAt fb (fo + i * 5) [aV uY,aC aB fco,aC aB fdir,aA (bs JJ),aA (bs fst)]∧V.rangeAt fb (fo + j * 5) [aV Nt,aC aB ee,aC aB Gp,aA (bs gsp),aA (bs gst)]) ⟨k5,range5 c0 c1 de c3 c4,range5 d0 d1 d2 d3 d4⟩ ?_ (st:=fun w1 w2 h hb=> ⟨tC hb l5 h.1,fun t u hu=> tC hb lf (h.2.1 t u hu),fun t u hu=> tC hb lf (h.2.2 t u hu)⟩)
    refine qS 0 rfl (pu ?_)
    refine qS 1 rfl (pu ?_)
    refine qS 2 rfl (pu ?_)
    refine qR 3 fb (fo + i * 5) #[aV uY,aC aB fco,aC aB fdir,aA (bs JJ),aA (bs fst)] (fun V h=> h.1.2.1) rfl (pu ?_)
    refine qS 4 rfl (pu ?_)
    refine qS 5 rfl (pu ?_)
    refine qS 6 rfl (pu ?_)
    refine qR 7 fb (fo + j * 5) #[aV Nt,aC aB ee,aC aB Gp,aA (bs gsp),aA (bs gst)] (fun V h=> h.1.2.2) rfl (pu ?_)
    refine qT fun V hV _=> ?_
    have rU:=hV.b
    clear hV
    refine eI 8 [] rfl (fun K hK=> ?_) eB
    rw [ip (by kernel_rfl)]
    go_simp
    refine⟨trivial,(callsIn_wide.2 (HEq.out V rU)).mono ?_⟩
    rintro e V1 ⟨⟨a',n',cp,Lq,rfl,QZ,hn',hr,hm,hq,hnew⟩,hb1⟩
    have hbW:Below W.heap.size W V1:=aQ rU hb1
    have Sj:=zq hbW
    have Hl:=zq QZ
    have Hr:=zq hr
    have Hm:=zq (fun z=> hZ.out Lq z hm)
    have Hq:=zq hq
    have Hnw:bK (∀ p,a' =some p→W.heap.size≤p.block):=fun p e=> aU rU.size (hnew p e)
    clear hZ hm hq hr hnew hb1 HEq hfq hgq c0 c1 de c3 c4 d0 d1 d2 d3 d4 k5 l5 lf QZ
    show K _ _
    refine hK _ _ (pu ?_)
    clear hK rU
    refine tI 9 rfl (pu ?_)
    refine tI 10 rfl (pu ?_)
    refine tI 11 rfl (pu ?_)
    refine tI 12 rfl (pu ?_)
    refine tI 13 rfl (pu ?_)
    refine pM (by kernel_rfl) ?_ _
    refine iM.normal ?_
    obtain⟨exq,hexq⟩:∃ ex:Nat→Prop,ex=fun k=> k=P11∨(0 < n' ∧∃ p,a' =some p∧k=p.block):=⟨_,rfl⟩
    have HIq:bK (J9 W3 P8 exq (Ky SS FS M b L) (24 + 5 * L.length) V1):=HI.out.more hbW (fun k hk=> by
     rw [hexq] at hk
     rcases hk with h | ⟨h0,p,h1,h2⟩
     ·exact .inl h
     ·refine .inr ⟨by rw [h2];exact Hnw.out p h1, ?_⟩
      obtain⟨rb,ro,e1,x0⟩:=Hr.out 0 (by rw [oP,aZ,Hl.out];exact h0)
      rw [h1] at e1
      injection e1 with e1
      rw [h2,e1]
      exact bB V1 _ x0)
    have Hexq:=zq hexq
    have H11q:=zq (H11.out.below hbW H11.out.lt)
    have HKW:bK (jK W V1):=jK.call hbW
    have HKo:bK (KeepsOthers W V1):=fQ hbW
    have HLq0:bK (J9 W3 P8 exq (fun z=> Ky SS FS M b L z∨∃ q∈Lq.take 0,z=bG q∧cT b < q) (24 + 5 * L.length + 0) V1):=HIq.out.iff (fun z=> ⟨.inl,fun h=> h.elim id fun ⟨q,h1,_⟩=> absurd h1 (by simp)⟩) (aH _)
    have HNe:bK (∀ k,exq k→k≠P8):=fun k hk=> by
     obtain⟨v0,xs0,h80, -⟩:=HI.out.out
     rw [hexq] at hk
     rcases hk with h | ⟨h0,p,h1,h2⟩
     ·rw [h];exact xK H11.out h80 (by decide)
     ·have:=Hnw.out p h1
      have:=h80.lt
      omega
    clear hexq hbW HIq Sj
    gi_wp2
    gi_loopw [72] (fun i wr=> ∃ m:Nat,i=aC aB (m:Int)∧m≤n' ∧bK (J9 W3 P8 exq (fun z=> Ky SS FS M b L z∨∃ q∈Lq.take m,z=bG q∧cT b < q) (24 + 5 * L.length + m) wr)∧bK (∀ k,exq k→wr.heap[k]? =V1.heap[k]?)∧bK (jK W wr)∧bK (KeepsOthers W wr)) (fun i _=> n' - (aK i).toNat)
    case atStart=> exact⟨0,rfl,bM _,HLq0.out,fun _ _=> rfl,HKW.out,HKo.out⟩
    case round=>
     clear HLq0 HKW HKo
     obtain⟨m,rfl,hm,ge,qq,HKm,HOm⟩:=hrel
     rename aF=> wr
     by_cases hmn:m < n'
     ·obtain⟨v,xs,h8,dI,PC,hex⟩:=ge.out.out
      obtain⟨ab,ao,hae,x0⟩:=Hr.out m (by rw [oP,aZ,Hl.out];exact hmn)
      have hxb:exq ab:=by rw [Hexq.out];exact .inr ⟨by omega,_,hae,rfl⟩
      have IP:m < Lq.length:=by rw [Hl.out];exact hmn
      have hxz:(dK (Lq.map bG)).getD m aO=aA (bs (bG (Lq.getD m 0))):=by simp [dK,aG,IP]
      rw [hxz] at x0
      have x1:wr.cell? ⟨ab,ao + m,none⟩=some (aA (bs (bG (Lq.getD m 0)))):=(World.cell?_of_block (qq.out ab hxb)).trans x0
      have hzl:=Hq.out _ (bU IP 0)
      have hzS:=(Lz.of hzl).sm
      have hZ2:∀ z,((Ky SS FS M b L z∨∃ q∈Lq.take m,z=bG q∧cT b < q)∨(decide (cT b < cT (bG (Lq.getD m 0)))=true∧z=bG (Lq.getD m 0)))↔(Ky SS FS M b L z∨∃ q∈Lq.take (m + 1),z=bG q∧cT b < q):=fun z=> by
       have e:Lq.take (m + 1)=Lq.take m ++ [Lq.getD m 0]:=by
        rw [cN IP];simp [aG,IP]
       rw [e,gG,decide_eq_true_iff]
       simp only [List.mem_append,eJ]
       constructor
       ·rintro((h | ⟨q,h1,h2⟩) | ⟨h1,h2⟩)
        ·exact .inl h
        ·exact .inr ⟨q, .inl h1,h2⟩
        ·exact .inr ⟨_, .inr rfl,h2,h1⟩
       ·rintro(h | ⟨q,h1 | h1,h2⟩)
        ·exact .inl (.inl h)
        ·exact .inl (.inr ⟨q,h1,h2⟩)
        ·subst h1;exact .inr ⟨h2.2,h2.1⟩
      have HLp:=zq ((PC.put hzS (decide (cT b < cT (bG (Lq.getD m 0))))).iff hZ2)
      subst hae
      have j8:=h8.cell 0
      simp only [aJ,aI] at j8
      have H8:=zq h8
      have Sn:=zq dI
      have QW:=zq PC
      have Hex:=zq hex
      have HzS:=zq hzS
      have hmI:(m:Int) < n' :=by omega
      have H11m:bK (bT wr P11 #[aA (bs b)] 34):=(qq.out P11 (by rw [Hexq.out];exact .inl rfl)).trans H11q.out
      have HBm:=zq (aQ HB3.out ge.out.bl)
      clear x0 hxz IP hzl hZ2 h8 dI PC hex hzS
      generalize bG (Lq.getD m 0)=zt at *
      gi_wp2_with fail
      refine⟨trivial,(Calls.round (Vr 75 #[aY (some ⟨P11,0,none⟩)] (mB func75 (by kernel_rfl) rfl) W3.heap.size xs.length v xs zt (decide (cT b < cT zt)) wr wr (qu.out wr HBm.out) (aL _ _) ge.out.bl.size rfl (by have:=QW.out.len;omega) QW.out.sm QW.out.asc HzS.out Sn.out
       (fun V2 h2=> lv_two zt b P11 V2 (qu.out V2 (aQ HBm.out h2)) HzS.out HbS.out (H11m.out.below h2 H11m.out.lt))) _ _).mono ?_⟩
      rintro e V2 ⟨⟨v1,rfl,Py,JV⟩,hg1⟩
      obtain⟨a1,cc1,rfl⟩:=nA Py
      have hP:=ge.out.put H8.out Sn.out Hex.out HLp.out Py JV hg1
      have hF:=fun k hk=> (J9.far (P8:=P8) (v' :=aD a1 (AP (decide (cT b < cT zt)) xs zt).length cc1) Hex.out hg1 hk (HNe.out k hk)).trans (qq.out k hk)
      have hKo:=HOm.out.trans (Vs (P8:=P8) (v' :=aD a1 (AP (decide (cT b < cT zt)) xs zt).length cc1) Sn.out hg1)
      have k81:=jQ H8.out hg1 (gP H8.out Sn.out (by decide))
      have y8:=k81.cell 0
      have z8:=k81.fz 0
      simp only [aJ,aI] at y8
      have HP:=zq hP.1
      have HF:=zq hF
      have HKo:=zq hKo
      have Kj:=zq (HKm.out.trans hP.2)
      clear hP hF hKo k81 hg1 JV Py j8 H8 Sn QW Hex HLp
      gi_wp2
      go_roundw
      case rel=> exact⟨m + 1,by go_num,by omega,HP.out,HF.out,Kj.out,HKo.out⟩
      case measure=> simp only [aK];omega
     ·obtain rfl:n' =m:=by omega
      have hT:Lq.take n' =Lq:=eM (by rw [Hl.out];exact aH _)
      have hI2:=ge.out
      rw [hT] at hI2
      have hI3:=(hI2.iff (c' :=24 + 5 * (L ++ [(i,j)]).length) Hm.out (by rw [bO];simp only [bD,bV];omega)).less (ex' :=fun k=> k=P11) (fun k e=> by rw [Hexq.out];exact .inl e)
      have H11m:bT wr P11 #[aA (bs b)] 34:=(qq.out P11 (by rw [Hexq.out];exact .inl rfl)).trans H11q.out
      have hmI:¬ ((n' :Int) < n'):=by omega
      have HI3:=zq hI3
      clear hI2 hI3 hT
      gi_wp2
      refine⟨HOm.out.from _,HKm.out,⟨HI3.out,H11m⟩, ?_⟩
      exact Hnext.out
   case done=>
    rintro D W hD ⟨L,hF,⟨hI,h11⟩,hall⟩ hK
    obtain⟨v,xs2,h8,dI,PC, -⟩:=hI.out
    obtain⟨a2,cc2,rfl⟩:=nA dI
    have k5:=(vG.out.below hI.bl vG.out.lt)
    have k2:=(Cf.out.below hI.bl Cf.out.lt)
    have k3:=(KS.out.below hI.bl KS.out.lt)
    have k4:=(DZ.out.below hI.bl DZ.out.lt)
    have hFo:=bJ N0.out hI.bl
    have hBW:=aQ HB3.out hI.bl
    have n8:w.heap.size + 1 + 1 + 1 < P8:=by rw [← HP8.out];exact DZ.out.lt
    obtain⟨XL,hXL⟩:=nm xs2.length
    rw [hXL] at h8
    have HXL:=zq hXL
    have VY:=zq k5
    have Kj:=zq k2
    have HK3:=zq k3
    have HK4:=zq k4
    have HK8:=zq h8
    have HFo:=zq hFo
    have Sn:=zq dI
    have QW:=zq PC
    have HFn:=zq hF
    have HAl:=zq hall.out
    have HBW:=zq hBW
    have HKd:=zq hK
    have HDs:=zq (aU HI6.out.bl.size hD)
    clear k5 k2 k3 k4 h8 hFo dI PC hF hall hBW hI h11 hK hD hXL
    go_upto_region 25 with (fail)
    refine qU 0 (fun _=> .quiet) (fun _=> True) trivial ?_ (st:=fun _ _ _ _=> trivial)
    refine qT fun V hV _=> ?_
    have rU:=hV.b
    clear hV
    have k5:=VY.out.below rU VY.out.lt
    have k2:=Kj.out.below rU Kj.out.lt
    have k3:=HK3.out.below rU HK3.out.lt
    have k4:=HK4.out.below rU HK4.out.lt
    have k8:=HK8.out.below rU HK8.out.lt
    have y5:=k5.cell 0
    have y8:=k8.cell 0
    simp only [aJ,aI] at y5 y8
    have jq:=zq rU
    have n1:w.heap.size + 1≠P8:=by omega
    have m3:=k3.other (a:=⟨w.heap.size + 1,0,none⟩) (aD (some ⟨fb,fo,none⟩) M fc) (by show w.heap.size + 1 + 1≠w.heap.size + 1;omega)
    have m4:=(k4.other (a:=⟨w.heap.size + 1,0,none⟩) (aD (some ⟨fb,fo,none⟩) M fc) (by show w.heap.size + 1 + 1 + 1≠w.heap.size + 1;omega)).other (a:=⟨w.heap.size + 1 + 1,0,none⟩) (aD a2 XL cc2) (by show w.heap.size + 1 + 1 + 1≠w.heap.size + 1 + 1;omega)
    have m8:=k8.other (a:=⟨w.heap.size + 1,0,none⟩) (aD (some ⟨fb,fo,none⟩) M fc) (by show P8≠w.heap.size + 1;omega)
    have a2' :=k2.cell 0
    have a3:=m3.cell 0
    have a4:=m4.cell 0
    have a8:=m8.cell 0
    have z2:=k2.fz 0
    have z3:=m3.fz 0
    have z4:=m4.fz 0
    have f2:=((k2.set 0 (aD (some ⟨fb,fo,none⟩) M fc)).other (a:=⟨w.heap.size + 1 + 1,0,none⟩) (aD a2 XL cc2) (by show w.heap.size + 1≠w.heap.size + 1 + 1;omega)).other (a:=⟨w.heap.size + 1 + 1 + 1,0,none⟩) (aC aB 0) (by show w.heap.size + 1≠w.heap.size + 1 + 1 + 1;omega)
    have f3:=(m3.set 0 (aD a2 XL cc2)).other (a:=⟨w.heap.size + 1 + 1 + 1,0,none⟩) (aC aB 0) (by show w.heap.size + 1 + 1≠w.heap.size + 1 + 1 + 1;omega)
    have f4:=m4.set 0 (aC aB 0)
    have fK:((((V.setCell ⟨w.heap.size + 1,0,none⟩ (aD (some ⟨fb,fo,none⟩) M fc)).setCell ⟨w.heap.size + 1 + 1,0,none⟩ (aD a2 XL cc2)).setCell ⟨w.heap.size + 1 + 1 + 1,0,none⟩ (aC aB 0))).heap[D]? =some (.deferred (some [])):=
     (((dG _ _ _).trans (dG _ _ _)).trans (dG _ _ _)).same D _ ((rU.block D (Array.getElem?_eq_some_iff.1 HKd.out).1).trans HKd.out) rfl
    simp only [aJ,aI] at a2' a3 a4 a8
    have F2:=zq f2
    have F3:=zq f3
    have F4:=zq f4
    have FK:=zq fK
    have hRow:=jO (bJ Sn.out rU) HB3.out.size
    rw [HXL.out] at hRow
    have RF:bK (∀ o',(∃ fv v xs b,(bA (cK #[aD (some ⟨fb,fo,none⟩) M fc,aD a2 XL cc2,aC aB 0]):Ending)=bA (cK #[fv,v,aC aB 0])∧((((V.setCell ⟨w.heap.size + 1,0,none⟩ (aD (some ⟨fb,fo,none⟩) M fc)).setCell ⟨w.heap.size + 1 + 1,0,none⟩ (aD a2 XL cc2)).setCell ⟨w.heap.size + 1 + 1 + 1,0,none⟩ (aC aB 0)).putObj D o').ownsRow w.heap.size 58 5 fv M (iT FS)∧((((V.setCell ⟨w.heap.size + 1,0,none⟩ (aD (some ⟨fb,fo,none⟩) M fc)).setCell ⟨w.heap.size + 1 + 1,0,none⟩ (aD a2 XL cc2)).setCell ⟨w.heap.size + 1 + 1 + 1,0,none⟩ (aC aB 0)).putObj D o').ownsRow w.heap.size 34 1 v xs.length (dK xs)∧oB SS FS M b∧(∀ z,oB SS FS M z→cT b≤cT z)∧∃ L,PAll FS M L∧PIn FS M L∧Ls xs (Ky SS FS M b L) 3000)∧
     Below w.heap.size w ((((V.setCell ⟨w.heap.size + 1,0,none⟩ (aD (some ⟨fb,fo,none⟩) M fc)).setCell ⟨w.heap.size + 1 + 1,0,none⟩ (aD a2 XL cc2)).setCell ⟨w.heap.size + 1 + 1 + 1,0,none⟩ (aC aB 0)).putObj D o')):=fun o' => by
     refine⟨⟨_,_,xs2,b,rfl, ?_, ?_,HbZ.out,Hbl.out,L,HFn.out,HAl.out,QW.out.sm,QW.out.asc,by have:=QW.out.len;have:=HAl.out.2;omega,QW.out.mem⟩, ?_⟩
     ·exact kV (AQ (AQ (AQ (bJ HFo.out rU) k2 (by decide) 0 _) m3 (by decide) 0 _) m4 (by decide) 0 _) (rO _ D o') (fun r e=> by cases e;exact⟨_,fK,rfl⟩)
     ·rw [HXL.out]
      exact kV (AQ (AQ (AQ hRow k2 (by decide) 0 _) m3 (by decide) 0 _) m4 (by decide) 0 _) (rO _ D o') (fun r e=> by cases e;exact⟨_,fK,rfl⟩)
     ·refine Below.trans (((((aQ HBW.out rU).setCell (p:=⟨w.heap.size + 1,0,none⟩) (by show w.heap.size≤w.heap.size + 1;omega) _).setCell (p:=⟨w.heap.size + 1 + 1,0,none⟩) (by show w.heap.size≤w.heap.size + 1 + 1;omega) _).setCell (p:=⟨w.heap.size + 1 + 1 + 1,0,none⟩) (by show w.heap.size≤w.heap.size + 1 + 1 + 1;omega) _)) (iH (aU HB3.out.size HDs.out) fK)
    clear hRow k2 k3 k4 k5 k8 m3 m4 m8 f2 f3 f4 fK rU
    refine eI 0 [1] rfl (fun K hK=> ?_) (PU rfl (fun K hK=> ?_) eB)
    ·rw [ip (by kernel_rfl)]
     go_simp
     refine hK _ _ (pu ?_)
     clear hK
     refine eI 1 [2] rfl (fun K hK=> ?_) (PU rfl (fun K hK=> ?_) eB)
     ·rw [ip (by kernel_rfl)]
      go_simp
      refine hK _ _ (pu ?_)
      clear hK
      refine eI 2 [] rfl (fun K hK=> ?_) eB
      rw [ip (by kernel_rfl)]
      go_simp
      refine hK _ _ (pu ?_)
      clear hK
      refine eI 3 [] rfl (fun K hK=> ?_) eB
      rw [ip (by kernel_rfl)]
      go_simp
      refine hK _ _ (pu ?_)
      clear hK
      refine eI 4 [] rfl (fun K hK=> ?_) eB
      rw [ip (by kernel_rfl)]
      go_simp
      refine hK _ _ (pu ?_)
      clear hK
      refine pM (by kernel_rfl) ?_ _
      refine iM.normal ?_
      go_wp2
      refine⟨by simp, .inl ⟨_,_,rfl,nD FK.out, ?_⟩⟩
      exact⟨_,xP Oh _ _ (w.heap.size + 1) (w.heap.size + 1 + 1) (w.heap.size + 1 + 1 + 1) _ _ _ rfl rfl rfl ((F2.out.putObj _ FK.out rfl).cell 0) ((F3.out.putObj _ FK.out rfl).cell 0) ((F4.out.putObj _ FK.out rfl).cell 0) VQ KD yC,RF.out _⟩
     ·rw [ip (by kernel_rfl)]
      go_simp
      refine hK _ _ (pu ?_)
      clear hK
      refine eI 1 [] rfl (fun K hK=> ?_) eB
      rw [ip (by kernel_rfl)]
      go_simp
      refine hK _ _ (pu ?_)
      clear hK
      refine eI 3 [] rfl (fun K hK=> ?_) eB
      rw [ip (by kernel_rfl)]
      go_simp
      refine hK _ _ (pu ?_)
      clear hK
      refine eI 4 [] rfl (fun K hK=> ?_) eB
      rw [ip (by kernel_rfl)]
      go_simp
      refine hK _ _ (pu ?_)
      clear hK
      refine pM (by kernel_rfl) ?_ _
      refine iM.normal ?_
      go_wp2
      refine⟨by simp, .inl ⟨_,_,rfl,nD FK.out, ?_⟩⟩
      exact⟨_,xP Oh _ _ (w.heap.size + 1) (w.heap.size + 1 + 1) (w.heap.size + 1 + 1 + 1) _ _ _ rfl rfl rfl ((F2.out.putObj _ FK.out rfl).cell 0) ((F3.out.putObj _ FK.out rfl).cell 0) ((F4.out.putObj _ FK.out rfl).cell 0) VQ KD yC,RF.out _⟩
    ·rw [ip (by kernel_rfl)]
     go_simp
     refine hK _ _ (pu ?_)
     clear hK
     refine eI 0 [] rfl (fun K hK=> ?_) eB
     rw [ip (by kernel_rfl)]
     go_simp
     refine hK _ _ (pu ?_)
     clear hK
     refine eI 2 [] rfl (fun K hK=> ?_) eB
     rw [ip (by kernel_rfl)]
     go_simp
     refine hK _ _ (pu ?_)
     clear hK
     refine eI 3 [] rfl (fun K hK=> ?_) eB
     rw [ip (by kernel_rfl)]
     go_simp
     refine hK _ _ (pu ?_)
     clear hK
     refine eI 4 [] rfl (fun K hK=> ?_) eB
     rw [ip (by kernel_rfl)]
     go_simp
     refine hK _ _ (pu ?_)
     clear hK
     refine pM (by kernel_rfl) ?_ _
     refine iM.normal ?_
     go_wp2
     refine⟨by simp, .inl ⟨_,_,rfl,nD FK.out, ?_⟩⟩
     exact⟨_,xP Oh _ _ (w.heap.size + 1) (w.heap.size + 1 + 1) (w.heap.size + 1 + 1 + 1) _ _ _ rfl rfl rfl ((F2.out.putObj _ FK.out rfl).cell 0) ((F3.out.putObj _ FK.out rfl).cell 0) ((F4.out.putObj _ FK.out rfl).cell 0) VQ KD yC,RF.out _⟩
end
end
section
open Go Go.Lib
theorem wS{l:List Sd}(hs:nP l=true){k:Nat}(hk:k<l.length):
 ((l.getD k default).x=(fF l k).x∧(l.getD k default).y≠(fF l k).y∧EG (vA (l.getD k default) (fF l k))=true∧Wb (vA (l.getD k default) (fF l k))=if(l.getD k default).y<(fF l k).y then -1 else 1)∨
 ((l.getD k default).y=(fF l k).y∧(l.getD k default).x≠(fF l k).x∧EG (vA (l.getD k default) (fF l k))=false∧Wb (vA (l.getD k default) (fF l k))=if(l.getD k default).x<(fF l k).x then 1 else -1):=by
 obtain⟨h1,-⟩:=(jB hs).2 k hk;unfold BQ dY at h1;generalize l.getD k default=s at *;generalize fF l k=t at *;rcases DJ (t.x-s.x)with⟨a,a'⟩|⟨a,a'⟩|⟨a,a'⟩<;>rcases DJ (t.y-s.y)with⟨b,b'⟩|⟨b,b'⟩|⟨b,b'⟩<;>rw[a,b]at h1<;>first |(exfalso;revert h1;decide)|skip
 ·refine .inr ⟨by omega,by omega,?_,?_⟩
  ·unfold vA;rw[iN (by omega),iN (by omega),ip (by omega)];rfl
  ·unfold vA;rw[iN (show¬s.x<t.x by omega),iN (by omega),ip (by omega),iN (by omega)];rfl
 ·refine .inl ⟨by omega,by omega,?_,?_⟩
  ·unfold vA;rw[iN (by omega),iN (by omega),iN (by omega)];rfl
  ·unfold vA;rw[iN (by omega),iN (show¬s.y<t.y by omega),iN (by omega),iN (by omega)];rfl
 ·refine .inl ⟨by omega,by omega,?_,?_⟩
  ·unfold vA;rw[iN (by omega),ip (by omega)];rfl
  ·unfold vA;rw[iN (by omega),ip (by omega),ip (by omega)];rfl
 ·refine .inr ⟨by omega,by omega,?_,?_⟩
  ·unfold vA;rw[ip (by omega)];rfl
  ·unfold vA;rw[ip (by omega),ip (by omega)];rfl
section
variable{rs:List Rg}{N:Nat}(hl:rs.length=N)(rJ:∀r,r<N→nP (bF rs r)=true){r k:Nat}(hr:r<N)(hk:k<(bF rs r).length)
abbrev bP(rs:List Rg)(N r k:Nat):Pt:=begP (cV rs) (eX (bF rs) N) (cE (bF rs) r) (bF rs r).length k
theorem ak:(bP rs N r k).side=((cE (bF rs) r+k:Nat):Int)∧(bP rs N r k).side.toNat=cE (bF rs) r+k:=⟨rfl,rfl⟩
include hl hr hk
theorem sK:(eX (bF rs) N).getD (bP rs N r k).side.toNat default=ND ((bF rs r).getD k default) (fF (bF rs r) k):=sJ _ _ hr hk
theorem an:(bP rs N r k).fr=bG (((if EG (vA ((bF rs r).getD k default) (fF (bF rs r) k))=true then((bF rs r).getD k default).y else((bF rs r).getD k default).x:Int)):Rat):=by
 show bG ((AJ (cV rs) (eX (bF rs) N) (cE (bF rs) r+k) (cE (bF rs) r+k):Int):Rat)=_;unfold AJ;rw[sJ _ _ hr hk,wQ (by omega) hk];rfl
theorem ap:(bP rs N r k).en=bG (((if EG (vA ((bF rs r).getD k default) (fF (bF rs r) k))=true then(fF (bF rs r) k).y else(fF (bF rs r) k).x:Int)):Rat):=by
 have hm:(k+1)%(bF rs r).length<(bF rs r).length:=dB _ (by omega);show bG ((AJ (cV rs) (eX (bF rs) N) (cE (bF rs) r+k) (cE (bF rs) r+(k+1)%(bF rs r).length):Int):Rat)=_;unfold AJ;rw[sJ _ _ hr hk,wQ (by omega) hm];rfl
theorem aq:(fG (eX (bF rs) N)).getD (bP rs N r k).side.toNat []=bG (((if EG (vA ((bF rs r).getD k default) (fF (bF rs r) k))=true then((bF rs r).getD k default).x else((bF rs r).getD k default).y:Int)):Rat):=by
 have h1:=Jj hr hk;have h2:=sJ (bF rs) N hr hk;unfold fG;rw[ak.2,aG,List.getElem?_map,bN (by rw[nQ];exact h1)];rw[aG,bN (by rw[nQ];exact h1),bX]at h2;rw[Option.map_some,bX,h2];rfl
theorem rK:bW (eX (bF rs) N) (fG (eX (bF rs) N)) (bP rs N r k)=⟨bG ((((bF rs r).getD k default).x:Int):Rat),bG ((((bF rs r).getD k default).y:Int):Rat)⟩:=by
 unfold bW;rw[sK hl hr hk,aq hl hr hk,an hl hr hk];unfold ND;cases EG (vA ((bF rs r).getD k default) (fF (bF rs r) k))<;>rfl
end
theorem fwd_frS(s t:Sd):E6 (ND s t)=if EG (vA s t)=true then -Wb (vA s t)else Wb (vA s t):=rfl
theorem cmpJ(a b:Int)(ha:a.natAbs<10^11)(hb:b.natAbs<10^11):(fH (bG (a:Rat)) (bG (b:Rat))).1=if a<b then -1 else if b<a then 1 else 0:=by
 rw[(Fu ha).cmp (Fu hb),gG,gG];show nH _ _=_;unfold nH;simp only[Wp]
section
variable{rs:List Rg}{N:Nat}(hl:rs.length=N)(hC:∀r,AH (bF rs r))(rJ:∀r,r<N→nP (bF rs r)=true){r k:Nat}(hr:r<N)(hk:k<(bF rs r).length)
include hl hC rJ hr hk
theorem bP_adv:0<zC (eX (bF rs) N) (bP rs N r k):=by
 have h1:=hC r k;have hm:(k+1)%(bF rs r).length<(bF rs r).length:=dB _ (by omega);have h2:=hC r ((k+1)%(bF rs r).length);have e2:(bF rs r).getD ((k+1)%(bF rs r).length) default=fF (bF rs r) k:=rfl;rw[e2]at h2;unfold zC;rw[sK hl hr hk,an hl hr hk,ap hl hr hk,fwd_frS];rcases wS (rJ r hr) hk with⟨a,b,c,d⟩|⟨a,b,c,d⟩
 ·rw[c,ip rfl,ip rfl,ip rfl,d,cmpJ _ _ (by omega) (by omega)];(repeat' split)<;>omega
 ·rw[c,iN (by decide),iN (by decide),iN (by decide),d,cmpJ _ _ (by omega) (by omega)];(repeat' split)<;>omega
theorem bP_alt:EG (vA ((bF rs r).getD k default) (fF (bF rs r) k))≠EG (vA ((bF rs r).getD ((k+1)%(bF rs r).length) default) (fF (bF rs r) ((k+1)%(bF rs r).length))):=by
 have hm:(k+1)%(bF rs r).length<(bF rs r).length:=dB _ (by omega);have ht:=((jB (rJ r hr)).2 _ hm).2;unfold Ss at ht;rw[ai hk]at ht;unfold BQ dY at ht;rcases wS (rJ r hr) hk with⟨a,b,c,-⟩|⟨a,b,c,-⟩<;>rcases wS (rJ r hr) hm with⟨a2,b2,c2,-⟩|⟨a2,b2,c2,-⟩<;>rw[c,c2]<;>first |decide|skip
 ·exfalso;rw[a,a2,uX,uX]at ht;exact ht (by simp[tB])
 ·exfalso;rw[a,a2,uX,uX]at ht;exact ht (by simp[tB])
theorem bP_join:CF (eX (bF rs) N) (fG (eX (bF rs) N)) (bP rs N r k) (bP rs N r ((k+1)%(bF rs r).length))=true:=by
 have hm:(k+1)%(bF rs r).length<(bF rs r).length:=dB _ (by omega);have ha:=bP_alt hl hC rJ hr hk;have e2:(bF rs r).getD ((k+1)%(bF rs r).length) default=fF (bF rs r) k:=rfl;unfold CF;rw[sK hl hr hk,sK hl hr hm,ap hl hr hk,an hl hr hm,aq hl hr hk,aq hl hr hm];have hu:∀s t:Sd,(ND s t).up=EG (vA s t):=fun _ _=>rfl;rw[hu,hu,ip (by simpa using ha),bQ,beq_iff_eq,beq_iff_eq];rw[e2]at ha⊢;rcases wS (rJ r hr) hk with⟨a,b,c,-⟩|⟨a,b,c,-⟩
 ·rw[c]at ha⊢;have c2:EG (vA (fF (bF rs r) k) (fF (bF rs r) ((k+1)%(bF rs r).length)))=false:=by
   cases h:EG (vA (fF (bF rs r) k) (fF (bF rs r) ((k+1)%(bF rs r).length)))
   ·rfl
   ·rw[h]at ha;exact absurd rfl ha
  rw[c2,ip rfl,iN (by decide),iN (by decide),ip rfl,a];exact⟨rfl,rfl⟩
 ·rw[c]at ha⊢;have c2:EG (vA (fF (bF rs r) k) (fF (bF rs r) ((k+1)%(bF rs r).length)))=true:=by
   cases h:EG (vA (fF (bF rs r) k) (fF (bF rs r) ((k+1)%(bF rs r).length)))
   ·rw[h]at ha;exact absurd rfl ha
   ·rfl
  simp only[c2,if_true,if_false,bS];rw[a];exact⟨trivial,rfl⟩
omit hk
def ni(rs:List Rg)(N r:Nat)(ps:List Pt):Prop:=ps.length=(bF rs r).length∧∃m,∀i,i<(bF rs r).length→ps.getD i default=bP rs N r ((i+m)%(bF rs r).length)
theorem nj{ps:List Pt}(h:ni rs N r ps)(right:Bool):tM (eX (bF rs) N) (fG (eX (bF rs) N)) ps right =true:=by
 obtain⟨h1,m,h2⟩:=h;have h4:=(jB (rJ r hr)).1;have hm:∀i,i%(bF rs r).length<(bF rs r).length:=fun i=>dB _ (by omega);unfold tM;rw[h1,bQ,bQ,decide_eq_true_eq,dP,dP];refine⟨⟨h4,cP.2 fun i hi=>?_⟩,cP.2 fun i hi=>?_⟩
 ·unfold badP;rw[h2 i hi];have hlt:=Jj hr (hm (i+m));have ha:=bP_adv hl hC rJ hr (hm (i+m));have hs:=(ak (rs:=rs) (N:=N) (r:=r) (k:=(i+m)%(bF rs r).length)).1;unfold CG;rw[hs,nQ,decide_eq_true (by omega),decide_eq_true (by omega),decide_eq_false (by omega),decide_eq_false (by omega),Bool.and_false];rfl
 ·unfold badJ;have e:((i+1)%(bF rs r).length+m)%(bF rs r).length=((i+m)%(bF rs r).length+1)%(bF rs r).length:=by
   rw[iE,iE];congr 1;omega
  rw[h1,h2 i hi,h2 _ (hm (i+1)),e,bP_join hl hC rJ hr (hm (i+m))];rfl
end
section
variable{rs:List Rg}{N:Nat}(hl:rs.length=N)(hC:∀r,AH (bF rs r))(Ci:AH (cV rs))(rJ:∀r,r<N→nP (bF rs r)=true)
def xQ(rs:List Rg)(N:Nat):List (List Pt):=Bv (eX (bF rs) N) (fG (eX (bF rs) N)) (yU (bF rs) (cV rs) (eX (bF rs) N) N)
include rJ
theorem Na{ps:List Pt}(h:ps∈xQ rs N):∃r,r<N∧ni rs N r ps:=by
 unfold xQ Bv at h;obtain⟨qs,Tw,rfl⟩:=List.mem_map.1 ((ir _ _).1 h);obtain⟨r,hr,rfl⟩:=DM Tw;have h4:=(jB (rJ r hr)).1;have hlen:=pV (cV rs) (eX (bF rs) N) (cE (bF rs) r) (bF rs r).length (bF rs r).length;refine⟨r,hr,by rw[xM,hlen],gQ (eX (bF rs) N) (fG (eX (bF rs) N)) (qX (cV rs) (eX (bF rs) N) (cE (bF rs) r) (bF rs r).length (bF rs r).length) (bF rs r).length,fun i hi=>?_⟩;rw[GW _ (by omega) i (by omega),hlen];unfold qX;exact tX _ (dB _ (by omega))
include hl hC
theorem begA_all{los:List Lp}(h:los.map Lp.ps=xQ rs N)(right:Bool):tO (eX (bF rs) N) (fG (eX (bF rs) N)) los right =true:=by
 unfold tO;rw[dP];refine cP.2 fun i hi=>?_;have hm:(los.getD i default).ps∈xQ rs N:=by rw[←h];exact kZ (bU hi default)
 obtain⟨r,hr,hR⟩:=Na rJ hm;unfold eo;rw[nj hl hC rJ hr hR right];rfl
include Ci
theorem begA_ok{los:List Lp}(h:los.map Lp.ps=xQ rs N)(hcn:cE (bF rs) N≤24):Tp los:=by
 intro l hlm;obtain⟨r,hr,h1,m,h2⟩:=Na rJ (by rw[←h];exact kZ hlm);have sl:cE (bF rs) (r+1)≤cE (bF rs) N:=oX hr;rw[cE]at sl;refine⟨by omega,fun p hp=>?_⟩;obtain⟨i,hi,rfl⟩:=List.mem_iff_getElem.1 hp;have e:=h2 i (by omega);rw[aG,bN hi,bX]at e;rw[e];refine⟨Fu ?_,Fu ?_⟩
 ·have:=Yj (fs:=eX (bF rs) N) Ci (cE (bF rs) r+(i+m)%(bF rs r).length) (cE (bF rs) r+(i+m)%(bF rs r).length);omega
 ·have:=Yj (fs:=eX (bF rs) N) Ci (cE (bF rs) r+(i+m)%(bF rs r).length) (cE (bF rs) r+((i+m)%(bF rs r).length+1)%(bF rs r).length);omega
end
def Jl(rs:List Rg)(N:Nat):List Lp:=(dD N).map fun r=>⟨none,0,qX (cV rs) (eX (bF rs) N) (cE (bF rs) r) (bF rs r).length (bF rs r).length⟩
theorem PD(f:Nat→List Sd)(ss:List Sd)(fs:List Fr)(N:Nat):yU f ss fs N=(dD N).map fun r=>qX ss fs (cE f r) (f r).length (f r).length:=by
 induction N with
 |zero=>rfl
 |succ N ih=>rw[yU,ih,DR,eV];rfl
theorem Yy(rs:List Rg)(N:Nat):(Jl rs N).map Lp.ps=yU (bF rs) (cV rs) (eX (bF rs) N) N:=by
 unfold Jl;rw[PD,lY];rfl
theorem Lf(rs:List Rg)(N:Nat):(Jl rs N).length=N:=by simp[Jl]
theorem DP(rs:List Rg){N r:Nat}(hr:r<N):((Jl rs N).getD r default).ps=qX (cV rs) (eX (bF rs) N) (cE (bF rs) r) (bF rs r).length (bF rs r).length:=by
 unfold Jl;rw[tX _ hr]
theorem Nb{rs:List Rg}{N r k:Nat}(hk:k<(bF rs r).length):(qX (cV rs) (eX (bF rs) N) (cE (bF rs) r) (bF rs r).length (bF rs r).length).getD k default=bP rs N r k:=tX _ hk
theorem GY{rs:List Rg}{N:Nat}{p:Pt}(h:p∈(Jl rs N).flatMap Lp.ps):∃r k,r<N∧k<(bF rs r).length∧p=bP rs N r k:=by
 obtain⟨l,hl,hp⟩:=List.mem_flatMap.1 h;unfold Jl at hl;obtain⟨r,hr,rfl⟩:=List.mem_map.1 hl;obtain⟨k,hk,rfl⟩:=List.mem_map.1 hp;exact⟨r,k,List.mem_range.1 hr,List.mem_range.1 hk,rfl⟩
theorem ls0_in{rs:List Rg}{N r k:Nat}(hr:r<N)(hk:k<(bF rs r).length):bP rs N r k∈(Jl rs N).flatMap Lp.ps:=by
 refine List.mem_flatMap.2 ⟨_,bU (i:=r) (by rw[Lf];exact hr) default,?_⟩;rw[DP rs hr];exact List.mem_map.2 ⟨k,List.mem_range.2 hk,rfl⟩
theorem nk(fs:List Fr)(at':List (List UInt8))(ps:List Pt):(pP fs at' ps).Perm ps:=by
 unfold pP;refine List.perm_append_comm.trans ?_;rw[Wj]
theorem PH(fs:List Fr)(at':List (List UInt8))(L:List (List Pt)):(L.map (pP fs at')).flatten.Perm L.flatten:=by
 induction L with
 |nil=>exact .refl _
 |cons l L ih=>rw[nJ,uV,uV];exact(nk fs at' l).append ih
section
variable{rs:List Rg}{N:Nat}(hl:rs.length=N)(JY:0<N)(hC:∀r,AH (bF rs r))(Ci:AH (cV rs))(rJ:∀r,r<N→nP (bF rs r)=true)(sl:Db (bF rs) N=false)(Er:zJ (bF rs) N=true)
abbrev gX(rs:List Rg)(N:Nat):List (List UInt8):=Kr (eX (bF rs) N) (fG (eX (bF rs) N)) (Jl rs N)
abbrev gY(rs:List Rg)(N:Nat):List (List UInt8):=Ks (eX (bF rs) N) (fG (eX (bF rs) N)) (Jl rs N)
def vZ(xs:List (List UInt8))(i:Nat):Int:=(cT (xs.getD i [])).num
include hl hC Ci
theorem Vu{p:Pt}(h:p∈(Jl rs N).flatMap Lp.ps):uS (eX (bF rs) N) (fG (eX (bF rs) N)) p:=by
 obtain⟨r,k,hr,hk,rfl⟩:=GY h;exact beg_ok Ci hC hr hk
theorem Yz:sI (gX rs N)∧∀z,z∈gX rs N↔∃r k,r<N∧k<(bF rs r).length∧z=bG ((((bF rs r).getD k default).x:Int):Rat):=by
 obtain⟨a,b⟩:=mZ (ds:=((Jl rs N).flatMap Lp.ps).map fun p=>(bW (eX (bF rs) N) (fG (eX (bF rs) N)) p).x) fun s hs=>by
  obtain⟨p,hp,rfl⟩:=List.mem_map.1 hs;exact(Vu hl hC Ci hp).x
 refine⟨a,fun z=>(b z).trans ?_⟩;constructor
 ·intro h;obtain⟨p,hp,rfl⟩:=List.mem_map.1 h;obtain⟨r,k,hr,hk,rfl⟩:=GY hp;exact⟨r,k,hr,hk,by rw[rK hl hr hk]⟩
 ·rintro⟨r,k,hr,hk,rfl⟩;exact List.mem_map.2 ⟨_,ls0_in hr hk,by rw[rK hl hr hk]⟩
theorem YA:sI (gY rs N)∧∀z,z∈gY rs N↔∃r k,r<N∧k<(bF rs r).length∧z=bG ((((bF rs r).getD k default).y:Int):Rat):=by
 obtain⟨a,b⟩:=mZ (ds:=((Jl rs N).flatMap Lp.ps).map fun p=>(bW (eX (bF rs) N) (fG (eX (bF rs) N)) p).y) fun s hs=>by
  obtain⟨p,hp,rfl⟩:=List.mem_map.1 hs;exact(Vu hl hC Ci hp).y
 refine⟨a,fun z=>(b z).trans ?_⟩;constructor
 ·intro h;obtain⟨p,hp,rfl⟩:=List.mem_map.1 h;obtain⟨r,k,hr,hk,rfl⟩:=GY hp;exact⟨r,k,hr,hk,by rw[rK hl hr hk]⟩
 ·rintro⟨r,k,hr,hk,rfl⟩;exact List.mem_map.2 ⟨_,ls0_in hr hk,by rw[rK hl hr hk]⟩
omit hl hC Ci
theorem PI{xs:List (List UInt8)}{n:Int}(h:bG (n:Rat)∈xs):vZ xs (uZ xs (bG (n:Rat)))=n:=by
 unfold vZ;rw[qO h,gG,pA]
theorem au{xs:List (List UInt8)}(ha:sI xs)(hi:∀z∈xs,∃n:Int,z=bG (n:Rat)):∀i,i<xs.length-1→vZ xs i<vZ xs (i+1):=fun i h=>by
 have h1:=(List.pairwise_iff_getElem.1 ha) i (i+1) (by omega) (by omega) (by omega)
 obtain⟨a,ea⟩:=hi _ (gL (h:=show i<xs.length by omega))
 obtain⟨b,eb⟩:=hi _ (gL (h:=show i+1<xs.length by omega))
 unfold vZ
 rw[aG,aG,bN (by omega),bN (by omega),bX,bX]
 rw[ea,eb,gG,gG,Wp]at h1
 rw[ea,eb,gG,gG,pA,pA]
 exact h1
include hl hC Ci rJ
theorem bP_in{r k:Nat}(hr:r<N)(hk:k<(bF rs r).length):Bq (eX (bF rs) N) (fG (eX (bF rs) N)) (gX rs N) (gY rs N) (bP rs N r k):=by
 have hm:(k+1)%(bF rs r).length<(bF rs r).length:=dB _ (by omega);have e2:(bF rs r).getD ((k+1)%(bF rs r).length) default=fF (bF rs r) k:=rfl;have hx:=(Yz hl hC Ci).2;have hy:=(YA hl hC Ci).2;refine⟨⟨_,rfl,by rw[nQ];exact Jj hr hk⟩,?_,?_,?_,?_,Int.le_of_lt (bP_adv hl hC rJ hr hk)⟩
 ·rw[rK hl hr hk];exact(hx _).2 ⟨r,k,hr,hk,rfl⟩
 ·rw[rK hl hr hk];exact(hy _).2 ⟨r,k,hr,hk,rfl⟩
 ·rw[sK hl hr hk,ap hl hr hk];show _∈if EG (vA ((bF rs r).getD k default) (fF (bF rs r) k))=true then gY rs N else gX rs N;by_cases c:EG (vA ((bF rs r).getD k default) (fF (bF rs r) k))=true
  ·rw[ip c,ip c];exact(hy _).2 ⟨r,_,hr,hm,by rw[e2]⟩
  ·rw[iN c,iN c];exact(hx _).2 ⟨r,_,hr,hm,by rw[e2]⟩
 ·rw[sK hl hr hk];show Wb _=1∨Wb _= -1;unfold Wb;split
  ·exact .inl rfl
  ·exact .inr rfl
theorem bP_emb{r:Nat}(hr:r<N):PA (vZ (gX rs N)) (vZ (gY rs N)) ((gX rs N).length-1) ((gY rs N).length-1) (bF rs r) ((iQ (eX (bF rs) N) (fG (eX (bF rs) N)) (gX rs N) (gY rs N) (Jl rs N)).getD r []):=by
 have hx:=(Yz hl hC Ci).2;have hy:=(YA hl hC Ci).2;have hE:∀j,j<(bF rs r).length→((iQ (eX (bF rs) N) (fG (eX (bF rs) N)) (gX rs N) (gY rs N) (Jl rs N)).getD r []).getD j default=gT (eX (bF rs) N) (fG (eX (bF rs) N)) (gX rs N) (gY rs N) (bP rs N r j):=fun j hj=>by
  rw[BH,DP rs hr,DO _ _ (by rw[pV];exact hj),Nb hj]
 have hlen:((iQ (eX (bF rs) N) (fG (eX (bF rs) N)) (gX rs N) (gY rs N) (Jl rs N)).getD r []).length=(bF rs r).length:=by rw[BH,DP rs hr,aZ,pV]
 have hm:∀j,j<(bF rs r).length→(j+1)%(bF rs r).length<(bF rs r).length:=fun j hj=>dB _ (by omega);have mx:∀j,j<(bF rs r).length→bG ((((bF rs r).getD j default).x:Int):Rat)∈gX rs N:=fun j hj=>(hx _).2 ⟨r,j,hr,hj,rfl⟩;have my:∀j,j<(bF rs r).length→bG ((((bF rs r).getD j default).y:Int):Rat)∈gY rs N:=fun j hj=>(hy _).2 ⟨r,j,hr,hj,rfl⟩;have nx:∀j,j<(bF rs r).length→bG (((fF (bF rs r) j).x:Int):Rat)∈gX rs N:=fun j hj=>mx _ (hm j hj);have ny:∀j,j<(bF rs r).length→bG (((fF (bF rs r) j).y:Int):Rat)∈gY rs N:=fun j hj=>my _ (hm j hj);have hseg:∀j,j<(bF rs r).length→gT (eX (bF rs) N) (fG (eX (bF rs) N)) (gX rs N) (gY rs N) (bP rs N r j)=
  if EG (vA ((bF rs r).getD j default) (fF (bF rs r) j))=true then⟨(bP rs N r j).side,true,uZ (gX rs N) (bG ((((bF rs r).getD j default).x:Int):Rat)),uZ (gY rs N) (bG ((((bF rs r).getD j default).y:Int):Rat)),uZ (gY rs N) (bG (((fF (bF rs r) j).y:Int):Rat))⟩
  else⟨(bP rs N r j).side,false,uZ (gY rs N) (bG ((((bF rs r).getD j default).y:Int):Rat)),uZ (gX rs N) (bG ((((bF rs r).getD j default).x:Int):Rat)),uZ (gX rs N) (bG (((fF (bF rs r) j).x:Int):Rat))⟩:=fun j hj=>by
  unfold gT;rw[sK hl hr hj,aq hl hr hj,an hl hr hj,ap hl hr hj];show(if EG (vA ((bF rs r).getD j default) (fF (bF rs r) j))=true then _ else _)=_;by_cases c:EG (vA ((bF rs r).getD j default) (fF (bF rs r) j))=true
  ·simp only[c,if_true]
  ·have c:EG (vA ((bF rs r).getD j default) (fF (bF rs r) j))=false:=by simpa using c
   simp only[c,if_false,bS]
 refine⟨hlen,fun j hj=>?_,fun s hs=>?_,fun j hj hu=>?_,fun j hj hu=>?_⟩
 ·rw[hE j hj,hseg j hj];rcases wS (rJ r hr) hj with⟨a,b,c,-⟩|⟨a,b,c,-⟩
  ·rw[ip c,a];simp
  ·rw[iN (by rw[c];decide)];simpa using b
 ·obtain⟨j,hj,rfl⟩:=List.mem_iff_getElem.1 hs;rw[hlen]at hj;have e:=hE j hj;rw[aG,bN (by rw[hlen];exact hj),bX]at e;rw[e,hseg j hj];have a1:=vM (mx j hj);have a2:=vM (my j hj);have a3:=vM (nx j hj);have a4:=vM (ny j hj);by_cases c:EG (vA ((bF rs r).getD j default) (fF (bF rs r) j))=true
  ·rw[ip c];exact⟨by simp only;omega,by simp only;omega,by simp only;omega,fun _=>⟨by simp only;omega,by simp only;omega,by simp only;omega⟩,fun h=>by cases h⟩
  ·rw[iN c];exact⟨by simp only;omega,by simp only;omega,by simp only;omega,(fun h=>by cases h),fun _=>⟨by simp only;omega,by simp only;omega,by simp only;omega⟩⟩
 ·rw[hE j hj,hseg j hj]at hu⊢;by_cases c:EG (vA ((bF rs r).getD j default) (fF (bF rs r) j))=true
  ·rw[ip c];simp only[nX];exact⟨PI (mx j hj),PI (my j hj),PI (ny j hj)⟩
  ·rw[iN c]at hu;cases hu
 ·rw[hE j hj,hseg j hj]at hu⊢;rcases wS (rJ r hr) hj with⟨a,b,c,-⟩|⟨a,b,c,-⟩
  ·rw[ip c]at hu;cases hu
  ·rw[iN (by rw[c];decide)];simp only[nX];exact⟨PI (my j hj),PI (mx j hj),PI (nx j hj),a.symm⟩
include JY sl Er
theorem aw:oZ (iQ (eX (bF rs) N) (fG (eX (bF rs) N)) (gX rs N) (gY rs N) (Jl rs N)) (gX rs N).length (gY rs N).length:=by
 have hx:=Yz hl hC Ci
 have hy:=YA hl hC Ci
 have hlen:(iQ (eX (bF rs) N) (fG (eX (bF rs) N)) (gX rs N) (gY rs N) (Jl rs N)).length=N:=by unfold iQ;rw[aZ,Lf]
 have h4:=(jB (rJ 0 JY)).1
 have x0:=sX ((hx.2 _).2 ⟨0,0,JY,by omega,rfl⟩)
 have y0:=sX ((hy.2 _).2 ⟨0,0,JY,by omega,rfl⟩)
 have:=nc (f:=bF rs) (ls:=iQ (eX (bF rs) N) (fG (eX (bF rs) N)) (gX rs N) (gY rs N) (Jl rs N)) (by rw[hlen];exact JY)
  (au hx.1 fun z hz=>by obtain⟨r,k,-,-,e⟩:=(hx.2 z).1 hz;exact⟨_,e⟩) (au hy.1 fun z hz=>by obtain⟨r,k,-,-,e⟩:=(hy.2 z).1 hz;exact⟨_,e⟩)
  (fun r hr=>bP_emb hl hC Ci rJ (by rw[←hlen];exact hr)) (fun r hr=>rJ r (by rw[←hlen];exact hr)) (by rw[hlen];exact sl) (by rw[hlen];exact Er)
 rwa[show(((gX rs N).length-1:Nat):Int)+1=((gX rs N).length:Int) by omega,show(((gY rs N).length-1:Nat):Int)+1=((gY rs N).length:Int) by omega]at this
theorem YB{los:List Lp}(h:los.map Lp.ps=xQ rs N):Bv (eX (bF rs) N) (fG (eX (bF rs) N)) (tT (eX (bF rs) N) (fG (eX (bF rs) N)) los)=xQ rs N:=by
 have Vv:(los.flatMap Lp.ps).Perm ((Jl rs N).flatMap Lp.ps):=by
  rw[pQ,pQ,h,Yy]
  unfold xQ Bv
  exact(VR (qY _)).trans (PH _ _ _)
 rw[Ph Vv fun p hp=>by
  have:=Vu hl hC Ci (Vv.mem_iff.1 hp)
  exact⟨this.x,this.y⟩]
 have hg:∀r k,r<N→k<((Jl rs N).getD r default).ps.length→((Jl rs N).getD r default).ps.getD k default=bP rs N r k∧k<(bF rs r).length:=fun r k hr hk=>by
  rw[DP rs hr,pV]at hk
  exact⟨by rw[DP rs hr,Nb hk],hk⟩
 have:=trc_arr (fs:=eX (bF rs) N) (at':=fG (eX (bF rs) N)) (ls:=Jl rs N) (xs:=gX rs N) (ys:=gY rs N)
  (fun p hp=>by obtain⟨r,k,hr,hk,rfl⟩:=GY hp;exact bP_in hl hC Ci rJ hr hk) (aw hl JY hC Ci rJ sl Er)
  (fun l hlm=>by
   unfold Jl at hlm
   obtain⟨r,hr,rfl⟩:=List.mem_map.1 hlm
   have h4:=(jB (rJ r (List.mem_range.1 hr))).1
   refine⟨by show 0<(qX _ _ _ _ _).length;rw[pV];omega,fun p hp=>Vu hl hC Ci (List.mem_flatMap.2 ⟨_,kZ hr,hp⟩)⟩)
  (fun r i q k hr hq hi hk iC=>by
   rw[Lf]at hr hq
   obtain⟨e1,i1⟩:=hg r i hr hi
   obtain⟨e2,k1⟩:=hg q k hq hk
   rw[e1,e2]
   show((cE (bF rs) r+i:Nat):Int)≠((cE (bF rs) q+k:Nat):Int)
   intro e
   have e:cE (bF rs) r+i=cE (bF rs) q+k:=by omega
   rcases Nat.lt_trichotomy r q with c|c|c
   ·have:cE (bF rs) (r+1)≤cE (bF rs) q:=oX c
    rw[cE]at this;omega
   ·subst c;rcases iC with h|h
    ·exact h rfl
    ·omega
   ·have:cE (bF rs) (q+1)≤cE (bF rs) r:=oX c
    rw[cE]at this;omega)
 rw[Yy]at this
 exact this
end
def Dl(l:List Rat):Rat:=l.foldr (·+·) 0
theorem Nc(l m:List Rat):Dl (l++m)=Dl l+Dl m:=by
 unfold Dl;induction l with
 |nil=>simp[Rat.zero_add]
 |cons x l ih=>rw[cJ,wD,wD,ih,Rat.add_assoc]
theorem PJ{l m:List Rat}(h:l.Perm m):Dl l=Dl m:=by
 unfold Dl;induction h with
 |nil=>rfl
 |cons x _ ih=>rw[wD,wD,ih]
 |swap x y l=>simp only[wD];grind
 |trans _ _ h1 h2=>rw[h1,h2]
theorem sR_take(l:List Rat):∀n,n≤l.length→sR l n=Dl (l.take n):=by
 intro n;induction n with
 |zero=>intro _;simp[sR,Dl]
 |succ n ih=>
  intro h;rw[sR,ih (by omega),cN (by omega),Nc];simp[Dl,aG,show n<l.length by omega,Wq]
theorem sR_sum(l:List Rat):sR l l.length=Dl l:=by rw[sR_take l _ (aH _),List.take_length]
theorem Vw(g:Nat→Int)(n:Nat):Dl ((dD n).map fun k=>(g k:Rat))=(eS g n:Rat):=by
 induction n with
 |zero=>rfl
 |succ n ih=>rw[DR,eV,Nc,ih,eS,Rat.intCast_add];simp[Dl,Wq]
theorem rot_perm{α:Type}(g:Nat→α)(n m:Nat)(h:0<n):((dD n).map fun i=>g ((i+m)%n)).Perm ((dD n).map g):=by
 have e:((dD n).map fun i=>g ((i+m)%n))=((dD n).map fun i=>(i+m)%n).map g:=by rw[lY];rfl
 rw[e];refine List.Perm.map g ((List.perm_ext_iff_of_nodup ?_ List.nodup_range).2 fun z=>?_)
 ·rw[List.nodup_iff_pairwise_ne,List.pairwise_map];refine PP (fun{a b}ha hb hab=>?_) List.pairwise_lt_range;rw[uW]at ha hb;intro e;have h1:=Nat.mod_add_div (a+m) n;have h2:=Nat.mod_add_div (b+m) n;have h3:b-a=n*((b+m)/n-(a+m)/n):=by
   rw[Nat.mul_sub];have:n*((a+m)/n)≤n*((b+m)/n):=Nat.mul_le_mul_left _ (Nat.div_le_div_right (by omega));omega
  rcases Nat.eq_zero_or_pos ((b+m)/n-(a+m)/n)with c|c
  ·rw[c]at h3;omega
  ·have:=Nat.le_mul_of_pos_right n c;omega
 ·rw[List.mem_map,uW];constructor
  ·rintro⟨i,hi,rfl⟩;exact dB _ h
  ·intro hz;have hm:=dB m h;refine⟨(z+(n-m%n))%n,List.mem_range.2 (dB _ h),?_⟩;rw[iE,←Nat.add_mod_mod,show z+(n-m%n)+m%n=z+n by omega,Nat.add_mod_right,Nat.mod_eq_of_lt hz]
section
variable{rs:List Rg}{N:Nat}(hl:rs.length=N)(rJ:∀r,r<N→nP (bF rs r)=true)
def trmI(l:List Sd)(j:Nat):Int:=(l.getD j default).x*(fF l j).y-(fF l j).x*(l.getD j default).y
include hl rJ
theorem ns{ps:List Pt}{r:Nat}(hr:r<N)(h:ni rs N r ps):(lU (ps.map (bW (eX (bF rs) N) (fG (eX (bF rs) N))))).Perm ((dD (bF rs r).length).map fun k=>(trmI (bF rs r) k:Rat)):=by
 obtain⟨h1,m,h2⟩:=h;have h4:=(jB (rJ r hr)).1;have hm:∀i,i%(bF rs r).length<(bF rs r).length:=fun i=>dB _ (by omega);have hc:∀i,i<(bF rs r).length→(ps.map (bW (eX (bF rs) N) (fG (eX (bF rs) N)))).getD i default=⟨bG ((((bF rs r).getD ((i+m)%(bF rs r).length) default).x:Int):Rat),bG ((((bF rs r).getD ((i+m)%(bF rs r).length) default).y:Int):Rat)⟩:=fun i hi=>by
  rw[DO _ _ (by omega),h2 i hi,rK hl hr (hm _)]
 have e:lU (ps.map (bW (eX (bF rs) N) (fG (eX (bF rs) N))))=(dD (bF rs r).length).map fun i=>(trmI (bF rs r) ((i+m)%(bF rs r).length):Rat):=by
  unfold lU;rw[aZ,h1];refine iX fun i hi=>?_;rw[uW]at hi;rw[hc i hi,hc _ (hm _),iE,show i+1+m=(i+m)+1 by omega];unfold OS trmI fF;simp only;rw[gG,gG,gG,gG,iE,Rat.intCast_sub,lX,lX]
 rw[e];exact rot_perm (fun k=>(trmI (bF rs r) k:Rat)) _ m (by omega)
omit hl rJ
theorem RK{α:Type}(g:α→List Rat)(L:List α):Dl (L.flatMap g)=Dl (L.map fun a=>Dl (g a)):=by
 induction L with
 |nil=>rfl
 |cons a L ih=>rw[kT,Nc,ih];rfl
theorem RM{α β:Type}{f g:α→List β}{L:List α}(h:∀a∈L,(f a).Perm (g a)):(L.flatMap f).Perm (L.flatMap g):=by
 induction L with
 |nil=>exact .refl _
 |cons a L ih=>rw[kT,kT];exact(h a (cW ..)).append (ih fun b hb=>h b (dA _ hb))
def arrR(rs:List Rg)(N r:Nat):List Pt:=pP (eX (bF rs) N) (fG (eX (bF rs) N)) (qX (cV rs) (eX (bF rs) N) (cE (bF rs) r) (bF rs r).length (bF rs r).length)
theorem Jm(rs:List Rg)(N:Nat):(xQ rs N).Perm ((dD N).map (arrR rs N)):=by
 unfold xQ Bv;refine(qY _).trans ?_;rw[PD,lY];exact .refl _
include rJ
theorem Vx{r:Nat}(hr:r<N):ni rs N r (arrR rs N r):=by
 have h4:=(jB (rJ r hr)).1;have hlen:=pV (cV rs) (eX (bF rs) N) (cE (bF rs) r) (bF rs r).length (bF rs r).length;refine⟨by unfold arrR;rw[xM,hlen],gQ (eX (bF rs) N) (fG (eX (bF rs) N)) (qX (cV rs) (eX (bF rs) N) (cE (bF rs) r) (bF rs r).length (bF rs r).length) (bF rs r).length,fun i hi=>?_⟩;unfold arrR;rw[GW _ (by omega) i (by omega),hlen];unfold qX;exact tX _ (dB _ (by omega))
include hl
theorem nt{los:List Lp}(h:los.map Lp.ps=xQ rs N):TN (eU (eX (bF rs) N) (fG (eX (bF rs) N)) los)=mkRat (eS (fun r=>jL (bF rs r) (bF rs r).length) N) 2:=by
 have e1:jT (eU (eX (bF rs) N) (fG (eX (bF rs) N)) los)=(los.map Lp.ps).flatMap fun ps=>lU (ps.map (bW (eX (bF rs) N) (fG (eX (bF rs) N)))):=by
  unfold jT eU;rw[KH,KH]
 have e2:Dl (jT (eU (eX (bF rs) N) (fG (eX (bF rs) N)) los))=(eS (fun r=>jL (bF rs r) (bF rs r).length) N:Rat):=by
  rw[e1,h,PJ ((Jm rs N).flatMap_right _),KH];rw[PJ (RM (g:=fun r=>(dD (bF rs r).length).map fun k=>(trmI (bF rs r) k:Rat)) fun r hr=>ns hl rJ (List.mem_range.1 hr) (Vx rJ (List.mem_range.1 hr)))];rw[RK,←Vw];congr 1;refine iX fun r _=>?_;rw[Vw,ah];rfl
 unfold TN;rw[sR_sum,e2,Rat.mkRat_eq_div];rfl
theorem YC{los:List Lp}(h:los.map Lp.ps=xQ rs N):(los.flatMap Lp.ps).length=cE (bF rs) N∧los.length=N:=by
 constructor
 ·rw[pQ,h,((Jm rs N).flatten).length_eq,←pQ];have:∀n,n≤N→((dD n).flatMap (arrR rs N)).length=cE (bF rs) n:=by
   intro n;induction n with
   |zero=>intro _;rfl
   |succ n ih=>
    intro hn;rw[DR,lK,bO,ih (by omega),cE];simp only[kT,List.flatMap_nil,pZ];rw[(Vx rJ (show n<N by omega)).1]
  exact this N (aH _)
 ·have:=congrArg List.length h;rw[aZ,(Jm rs N).length_eq,aZ,kO]at this;exact this
theorem begA_iz(hC:∀r,AH (bF rs r)){los:List Lp}(h:los.map Lp.ps=xQ rs N):IzP (eU (eX (bF rs) N) (fG (eX (bF rs) N)) los):=by
 intro ps nL p hp;unfold eU at nL;obtain⟨l,hlm,rfl⟩:=List.mem_map.1 nL;obtain⟨q,hq,rfl⟩:=List.mem_map.1 hp;obtain⟨r,hr,h1,m,h2⟩:=Na rJ (by rw[←h];exact kZ hlm);obtain⟨i,hi,rfl⟩:=List.mem_iff_getElem.1 hq;have e:=h2 i (by omega);rw[aG,bN hi,bX]at e;rw[e,rK hl hr (dB _ (by omega))];have:=hC r ((i+m)%(bF rs r).length);exact⟨⟨_,this.1,this.2.1,rfl⟩,⟨_,this.2.2.1,this.2.2.2,rfl⟩⟩
theorem begA_amb(hC:∀r,AH (bF rs r))(z:List UInt8){Fh:List (List Pt)}(h:∀ps∈Fh,∃r,r<N∧ni rs N r ps):XN (eX (bF rs) N) z Fh=false:=by
 unfold XN;refine cP.2 fun i hi=>?_;obtain⟨r,hr,h1,m,h2⟩:=h _ (bU hi []);unfold jb;refine cP.2 fun k hk=>?_;have h4:=(jB (rJ r hr)).1;have hm:∀i,i%(bF rs r).length<(bF rs r).length:=fun i=>dB _ (by omega);have ha:=bP_alt hl hC rJ hr (hm (k+m));unfold N4;rw[h1]at hk⊢;have e:((k+1)%(bF rs r).length+m)%(bF rs r).length=((k+m)%(bF rs r).length+1)%(bF rs r).length:=by
  rw[iE,iE];congr 1;omega
 rw[h2 k hk,h2 _ (hm (k+1)),e,sK hl hr (hm _),sK hl hr (hm _)];rw[show((ND ((bF rs r).getD ((k+m)%(bF rs r).length) default) (fF (bF rs r) ((k+m)%(bF rs r).length))).up==(ND ((bF rs r).getD (((k+m)%(bF rs r).length+1)%(bF rs r).length) default) (fF (bF rs r) (((k+m)%(bF rs r).length+1)%(bF rs r).length))).up)=false from beq_false_of_ne ha,Bool.false_and]
end
end
section
open Go Go.RowKit Go.Lib
theorem lev_head{ss:List Sd}{fs:List Fr}{n m:Nat}{b:List UInt8}{L:List (Nat×Nat)}{xs:List (List UInt8)}(h:Ls xs (Ky ss fs n b L) m)(hb:oB ss fs n b)(hl:∀z,oB ss fs n z→cT b≤cT z):0<xs.length∧xs.getD 0 []=b:=by
 have hm:=(h.mem b).2 (.inl hb);have h0:=sX hm;refine⟨h0,?_⟩;have h1:∀z∈xs,cT b≤cT z:=fun z hz=>by
  rcases(h.mem z).1 hz with k|⟨x,_,q,_,e,k⟩
  ·exact hl z k
  ·rw[e,gG];grind
 obtain⟨j,hj,e⟩:=fI hm;have hx:=h1 _ (gL h0);have e0:xs.getD 0 []=xs[0]:=by rw[aG,bN h0,bX]
 rw[e0];by_cases h:j=0
 ·subst h;exact e
 ·have:=(List.pairwise_iff_getElem.1 (Ls.asc ‹_›)) 0 j h0 hj (by omega);rw[e]at this;grind
section
variable(a:Option cO)(N cap:Nat)(rs:List Rg)(w:aF)(hl:rs.length=N)(hN:N≤1000)(hn:∀r,(bF rs r).length≤1000)(rr:GN w a rs)(h0:oW (bF rs) N=0)(hE:mN w)
include hl hN hn rr h0 hE
theorem lv_Base(hD:MU w)(hng:∃i,i<(cV rs).length∧((cV rs).getD i default).gable=false):
 bE aE 8 #[cF #[aD a N cap]] w fun e w'=>(∃b,e=bA (cK #[aA (bs b),aC aB 0])∧oB (cV rs) (eX (bF rs) N) (cE (bF rs) N) b∧∀z,oB (cV rs) (eX (bF rs) N) (cE (bF rs) N) z→cT b≤cT z)∧Below w.heap.size w w':=by
 have H:=zq (fun W(hW:Below w.heap.size w W)=>nh a N cap rs W hl hN hn (rr.below hW) h0 (hE.below hW) (hD.below hW) hng);clear hl hn rr h0 hE hD hng;have fE:=(aL w.heap.size w).alloc (aH _) (aN #[aD a N cap] 24);have q0:=bT.new w #[aD a N cap] 24;obtain⟨W0,eY⟩:=nm (w.alloc (aN #[aD a N cap] 24));rw[eY]at fE q0;have HW:=zq eY;have b0:=q0.cell 0;simp only[aJ,aI]at b0;have fV:=zq fE;clear eY fE q0;go_enter func8,ntmps8;go_upto_region 1 with(fail)
 rw[HW.out];clear HW;go_wp2_with fail
 refine(H.out W0 fV.out).mono ?_;rintro e W1⟨⟨fv,v,xs,b,rfl,-,ho,hs,ia,L,-,-,PC⟩,hb1⟩;obtain⟨hx0,hx⟩:=lev_head PC hs ia;obtain⟨ga,gc,rfl⟩:=nA ho;obtain⟨g0,go0,rfl,qg⟩:=(RJ rfl ho) 0 hx0;rw[hx,oG]at qg;have hx0i:(0:Int)<xs.length:=by omega
 have R:=zq (And.intro hs ia);have eC:=zq (aQ fV.out hb1);clear hs ia PC ho hb1 hx fV H;go_wp2;go_ret2;exact⟨⟨b,rfl,R.out⟩,eC.out⟩
theorem pl_Area:bE aE 10 #[cF #[aD a N cap]] w fun e w' => e=bA (cK #[aA (bs (bG (mkRat (eS (fun r=> jL (bF rs r) (bF rs r).length) N) 2))),aC aB 0])∧Below w.heap.size w w' :=by
 obtain⟨c0,c1,c2,c3, -⟩:=rI h0;have hC:∀ r,AH (bF rs r):=DH (fun r hr=> BD (by omega)) c3;have GQ:∀ k,k≤N→cE (bF rs) k≤24:=fun k hk=> aU (oX hk) c2;have rt:∀ k,k≤N→ -(4294967296 * (cE (bF rs) k:Int))≤eS (fun r=> jL (bF rs r) (bF rs r).length) k∧eS (fun r=> jL (bF rs r) (bF rs r).length) k≤4294967296 * (cE (bF rs) k:Int):=by
  intro k;induction k with
  | zero=> intro _;simp [eS,cE]
  | succ k ih=>
   intro hk;have h1:=ih (by omega);have h2:=GO (hC k) (bF rs k).length;rw [eS,cE];omega
 have KP:=zq (fun W (hW:Below w.heap.size w W)=> DK a N cap rs W hl hN hn (rr.below hW) h0);have HA:=zq (fun k (hk:k < N) W (hW:Below w.heap.size w W)=> ZN (rs.getD k default).a (bF rs k).length (rs.getD k default).cap (bF rs k) W rfl (hn k) (hC k) (((rr.below hW).at (i:=k) (by rw [hl];exact hk) rfl).choose_spec.choose_spec.2.2));have HOf:=zq (fun W (hW:Below w.heap.size w W)=> Y9 (eS (fun r=> jL (bF rs r) (bF rs r).length) N) 2 W (hE.below hW) (by have:=rt N (aH _);omega) (by decide) (by decide));have Hbd:bK (∀ k,k≤N→ -(4294967296 * 24)≤eS (fun r=> jL (bF rs r) (bF rs r).length) k∧eS (fun r=> jL (bF rs r) (bF rs r).length) k≤4294967296 * 24):=fun k hk=> by
  have:=rt k hk;have:=GQ k hk;omega
 have Hst:bK (∀ k,eS (fun r=> jL (bF rs r) (bF rs r).length) (k + 1)=eS (fun r=> jL (bF rs r) (bF rs r).length) k + jL (bF rs k) (bF rs k).length):=fun _=> rfl;have H00:bK (eS (fun r=> jL (bF rs r) (bF rs r).length) 0=0):=rfl;have HR:=zq rr;have HL:=zq hl;clear hl hn rr h0 hE c0 c1 c2 c3 hC GQ rt;generalize eS (fun r=> jL (bF rs r) (bF rs r).length)=S at *;obtain⟨ss,hss⟩:∃ s,bF rs=s:=⟨_,rfl⟩;have fE:=(aL w.heap.size w).alloc (aH _) (aN #[aD a N cap] 24);have q0:=bT.new w #[aD a N cap] 24;obtain⟨W0,eY⟩:=nm (w.alloc (aN #[aD a N cap] 24));rw [eY] at fE q0;have HW:=zq eY;have b0:=q0.cell 0;simp only [aJ,aI] at b0;have fV:=zq fE;clear eY fE q0;go_enter func10,ntmps10;go_upto_region 1 with (fail)
 rw [HW.out];clear HW;go_wp2_with fail
 refine ka (KP.out W0 fV.out) fun W1 hb1=> ?_;have b0:=bR hb1 b0;have lb:=bB W1 _ b0;have eC:=zq (aQ fV.out hb1);clear hb1 fV;go_wp2;go_loopw [4,13] (fun t i wr=> ∃ k:Nat,i=aC aB k∧k≤N∧t=aC aB (S k)∧bK (Below w.heap.size w wr)) (fun _ i _=> N - (aK i).toNat);case atStart=> exact⟨0,rfl,bM _,by rw [H00.out],eC.out⟩
 case round=>
  obtain⟨k,rfl,hk,rfl,HB⟩:=hrel;by_cases hlt:k < N
  ·obtain⟨rb,ro,rfl,r0, -⟩:=(HR.out.below HB.out).at (i:=k) (by rw [HL.out];exact hlt) rfl;have OB:=zq (HA.out k hlt _ HB.out);have e:=Hst.out k;have gt:=Hbd.out (k + 1) hlt;have hw:IntKind.i64.wrap (S k + jL (bF rs k) (bF rs k).length)=S (k + 1):=by rw [← e];exact bI _ (by omega)
   have hlen:(rs.getD k default).ss=bF rs k:=rfl;try rw [hlen] at r0
   have Hw:=zq hw;have hki:(k:Int) < N:=by omega
   clear e gt hw hlen;generalize (bF rs k).length=m at *;generalize jL (bF rs k) m=T at *;go_wp2_with fail
   refine ka OB.out fun W2 hb2=> ?_;have eT:=zq (aQ HB.out hb2);have hw:=Hw.out;clear hb2 OB;go_wp2;go_roundw;case rel=> exact⟨k + 1,by go_num,by omega,rfl,eT.out⟩
   case measure=> simp only [aK];omega
  ·obtain rfl:N=k:=by omega
   have hki:¬ ((N:Int) < N):=by omega
   go_wp2_with fail
   refine ka (HOf.out _ HB.out) fun W2 hb2=> ?_;have eT:=zq (aQ HB.out hb2);clear hb2;go_wp2;go_ret2;exact⟨rfl,eT.out⟩
end
theorem tr_Check(a b:Option cO)(nf n ca cb:Nat)(fs:List Fr)(ls:List Lp)(z:List UInt8)(w:aF)(hE:mN w)(hT:Kf w a b nf n fs ls)(hz:Lz z)(hA:tO fs (fR fs z) ls true=true):
 bE aE 13 #[aD a nf ca,aD b n cb,aA (bs z)] w fun e w'=>e=bA (aC aB 0)∧Below w.heap.size w w':=by
 have fE:=(aL w.heap.size w).alloc (aH _) (aN #[aA (bs z)] 34);have HC:=zq (sF a b (some ⟨w.heap.size,0,none⟩) nf n 1 ca cb 1 fs ls [z] _ (hE.below fE) (hT.below fE) rfl (by decide) (fun x hx=>by rw[eJ]at hx;subst hx;exact hz) (yJ.one w z));obtain⟨hf,hl,eu,hn,NQ,Ns,rf,rl⟩:=hT;have IN:bK (∀b2 c2 W,Below w.heap.size w W→yJ W b2 (fR fs z)→bE aE 33 #[cF #[aD a nf ca,aD b2 nf c2],aD b n cb,aV true] W fun e w'=>e=bA (aV true)∧Below W.heap.size W w'):=fun b2 c2 W hW ha=>
  Qr a b2 b nf n ca c2 cb fs (fR fs z) ls true W (hE.below hW) hf (by rw[uA];exact hf) hl hn (fun f hm=>(NQ f hm).dir) Ns (rf.below hW) ha (rl.below hW) hA
 have fV:=zq fE;clear hE hf hl NQ Ns hz rf rl fE hA;have hL':fR fs (([z]:List (List UInt8)).getD 0 [])=fR fs z:=rfl;generalize hL:fR fs z=L at *;generalize bs z=Z at *;clear hL;unfold dr at HC;rw[hL']at HC;go_enter func13,ntmps13;go_wp2_with fail
 refine HC.out.mono ?_;rintro e W1⟨⟨a2,n2,c2,rfl,hk⟩,hb1⟩;obtain⟨h4,ha⟩:=hk (by first |exact Nat.zero_lt_one|trivial|simp);obtain rfl:=h4.symm;have eC:=zq (aQ fV.out hb1);have WR:=zq (eC.out.alloc eC.out.size (aN #[aD a nf ca,aD a2 nf c2] 64));have Ha:=zq (ha.below ((aL W1.heap.size W1).alloc (aH _) (aN #[aD a nf ca,aD a2 nf c2] 64)));clear ha hb1 HC fV;go_wp2_with fail
 refine(IN.out _ _ _ WR.out Ha.out).mono ?_;rintro e W3⟨rfl,hb2⟩;have HB3:=zq (aQ WR.out hb2);clear hb2;go_wp2;go_ret;exact⟨rfl,HB3.out⟩
end
section
open Go Go.Lib
section
variable{rs:List Rg}{N:Nat}(hl:rs.length=N)(JY:0<N)(hC:∀r,AH (bF rs r))(Ci:AH (cV rs))(hsb:∀r k,r<N→k<(bF rs r).length→vV ((bF rs r).getD k default)=true)
 {b:List UInt8}(hb:oB (cV rs) (eX (bF rs) N) (cE (bF rs) N) b)(hmin:∀z,oB (cV rs) (eX (bF rs) N) (cE (bF rs) N) z→cT b≤cT z)
include hC hsb
theorem fr_ok{i:Nat}(hi:i<cE (bF rs) N):((eX (bF rs) N).getD i default).Ok:=by
 obtain⟨r,k,h1,h2,rfl⟩:=Ft (bF rs) N i hi;rw[sJ _ _ h1 h2];exact(frS_ok (hsb r k h1 h2) (hC r k)).1
theorem frs_ok:∀ f∈eX (bF rs) N,f.Ok:=fun f hf=> by
 obtain⟨i,hi,rfl⟩:=List.mem_iff_getElem.1 hf
 have:=fr_ok hC hsb (i:=i) (by rw [← nQ];exact hi)
 rwa [aG,bN hi,bX] at this
include hb
theorem base_lz:Lz b:=by
 obtain⟨i,hi,-,rfl⟩:=hb;have h:=fr_ok hC hsb hi;have e:((eX (bF rs) N).getD i default).st=bG ((eX (bF rs) N).getD i default).q.t:=by
  have:=congrArg Fr.st h.good.2;rw[←this];rfl
 rw[e];exact Lz.of (Dz h.good.1)
omit hb hC hsb
include hl hmin
theorem base_at:fR (eX (bF rs) N) b=fG (eX (bF rs) N):=by
 unfold fR fG;refine iX fun f hf=>?_;obtain⟨i,hi,rfl⟩:=List.mem_iff_getElem.1 hf;rw[nQ]at hi;obtain⟨r,k,h1,h2,rfl⟩:=Ft (bF rs) N i hi;have e:=sJ (bF rs) N h1 h2;rw[aG,bN (by rw[nQ];exact hi),bX]at e;have es:=wQ (rs:=rs) (by omega) h2;rw[e];unfold Qn;congr 1;unfold FQ.pos;split
 ·rfl
 ·rename_i ia;by_cases hg:((bF rs r).getD k default).gable=true
  ·have hv:(ND ((bF rs r).getD k default) (fF (bF rs r) k)).q.v=0:=by
    show cT (if((bF rs r).getD k default).gable=true then[48]else _)=0;rw[ip hg];have:=gG 0;rw[Dx]at this;exact this
   rw[hv,Rat.mul_zero,Rat.zero_mul,Wq];rfl
  ·exfalso;refine ia ?_;have:=hmin (ND ((bF rs r).getD k default) (fF (bF rs r) k)).st ⟨_,hi,by rw[es];simpa using hg,by rw[sJ _ _ h1 h2]⟩;exact this
end
section
variable{rs:List Rg}{N:Nat}(hl:rs.length=N)(JY:0<N)(hC:∀r,AH (bF rs r))(Ci:AH (cV rs))(rJ:∀r,r<N→nP (bF rs r)=true)(sl:Db (bF rs) N=false)(Er:zJ (bF rs) N=true)
include hl JY hC Ci rJ sl Er
theorem trcL_rot {los:List Lp} (h:los.map Lp.ps=xQ rs N):∀ ps∈tT (eX (bF rs) N) (fG (eX (bF rs) N)) los,∃ r,r < N∧ni rs N r ps:=by
 have Vv:(los.flatMap Lp.ps).Perm ((Jl rs N).flatMap Lp.ps):=by
  rw [pQ,pQ,h,Yy];unfold xQ Bv;exact(VR (qY _)).trans (PH _ _ _)
 rw [Ph Vv fun p hp=> by
  have:=Vu hl hC Ci (Vv.mem_iff.1 hp);exact⟨this.x,this.y⟩]
 obtain⟨rl,h1,h2⟩:=Vk (fs:=eX (bF rs) N) (at' :=fG (eX (bF rs) N)) (ls:=Jl rs N) (xs:=gX rs N) (ys:=gY rs N)
  (fun p hp=> by obtain⟨r,k,hr,hk,rfl⟩:=GY hp;exact bP_in hl hC Ci rJ hr hk) (aw hl JY hC Ci rJ sl Er)
 intro ps nL;unfold tT at nL;rw [h2] at nL;obtain⟨y,hy,rfl⟩:=List.mem_map.1 nL;have rj:y.1 < N:=by
  have:=h1.mem_iff.1 (kZ hy);rwa [uW,Lf] at this
 rw [DP rs rj,pV];have h4:=(jB (rJ y.1 rj)).1;refine⟨y.1,rj,by simp,y.2,fun i hi=> ?_⟩;rw [tX _ hi,Nb (dB _ (by omega))]
theorem begA_val{los:List Lp}(h:los.map Lp.ps=xQ rs N){b:List UInt8}(zG:fR (eX (bF rs) N) b=fG (eX (bF rs) N)):qQ (eX (bF rs) N) los b=0∧vJ (eX (bF rs) N) los b=xQ rs N:=by
 have h1:=begA_amb hl rJ hC b (trcL_rot hl JY hC Ci rJ sl Er h);have h2:=YB hl JY hC Ci rJ sl Er h;have e:qQ (eX (bF rs) N) los b=0:=by unfold qQ;rw[zG,h1];rfl
 refine⟨e,?_⟩;unfold vJ;rw[ip e,zG];exact h2
end
end
section
open Go Go.RowKit Go.Lib
theorem cnt_ge{f:Nat→List Sd}{N:Nat}(h:∀r,r<N→4≤(f r).length):∀k,k≤N→4*k≤cE f k
 |0,_=>by omega
 |k+1,hk=>by
  have:=cnt_ge h k (by omega)
  have:=h k (by omega)
  rw[cE];omega
structure BegF (rs:List Rg) (N:Nat):Prop where
 n12:N≤12
 some:∃ i,i < (cV rs).length∧((cV rs).getD i default).gable=false
 fs:∀ f∈eX (bF rs) N,f.Ok
 ls:∀ los:List Lp,los.map Lp.ps=xQ rs N→Tp los∧(los.flatMap Lp.ps).length=cE (bF rs) N∧los.length=N
 at' :∀ b,oB (cV rs) (eX (bF rs) N) (cE (bF rs) N) b→(∀ z,oB (cV rs) (eX (bF rs) N) (cE (bF rs) N) z→cT b≤cT z)→Lz b∧∀ los:List Lp,los.map Lp.ps=xQ rs N→
  (∀ right,tO (eX (bF rs) N) (fR (eX (bF rs) N) b) los right=true)∧IzP (eU (eX (bF rs) N) (fR (eX (bF rs) N) b) los)∧TN (eU (eX (bF rs) N) (fR (eX (bF rs) N) b) los)=mkRat (eS (fun r=> jL (bF rs r) (bF rs r).length) N) 2∧qQ (eX (bF rs) N) los b=0∧vJ (eX (bF rs) N) los b=xQ rs N
theorem nu{rs:List Rg}{N:Nat}(hl:rs.length=N)(h0:oW (bF rs) N=0)(kj:cE (bF rs) N≤12):BegF rs N:=by
 obtain⟨c0,c1,c2,c3,c4,c5,c6,c7⟩:=rI h0;have hC:∀r,AH (bF rs r):=DH (fun r hr=>BD (by omega)) c3;have rJ:∀r,r<N→nP (bF rs r)=true:=fun r hr=>by
  have:=cP.1 c4 r hr;unfold D0 at this;simpa using this
 have hp:∀r,r<N→4≤(bF rs r).length:=fun r hr=>by
  have:=rJ r hr;unfold nP at this;simp only[bQ,decide_eq_true_eq]at this;omega
 have BM:cE (bF rs) N=(cV rs).length:=by rw[←hl];exact wP
 have Ci:AH (cV rs):=fun i=>by
  rcases Nat.lt_or_ge i (cV rs).length with h|h
  ·obtain⟨r,k,h1,h2,rfl⟩:=Ft (bF rs) N i (by omega);rw[wQ (by omega) h2];exact hC r k
  ·rw[aG,List.getElem?_eq_none h];exact⟨by decide,by decide,by decide,by decide⟩
 have hsb:∀r k,r<N→k<(bF rs r).length→vV ((bF rs r).getD k default)=true:=fun r k hr hk=>by
  have h3:=cP.1 (cP.1 c3 r hr) k hk;unfold Jh at h3;simpa using h3
 have JY:0<N:=by omega
 refine⟨?_,?_,frs_ok hC hsb,fun los h=>⟨begA_ok hl hC Ci rJ h c2,YC hl rJ h⟩,fun b hb hm=>?_⟩
 ·have:=cnt_ge hp N (aH _);omega
 ·unfold Fo at c7;rw[bQ]at c7;obtain⟨r,hr,h⟩:=eA.1 c7.2;obtain⟨k,hk,h⟩:=eA.1 h;have hlt:=Jj hr hk;refine⟨cE (bF rs) r+k,by omega,?_⟩;rw[wQ (by omega) hk];unfold B8 at h;simpa using h
 ·have zG:=base_at hl hm;refine⟨base_lz hC hsb hb,fun los h=>?_⟩;have hv:=begA_val hl JY hC Ci rJ c5 c6 h zG;rw[zG];refine⟨begA_all hl hC rJ h,begA_iz hl rJ hC h,nt hl rJ h,hv⟩
end
section
open Go Go.RowKit Go.Shelf Go.Lib
def D3(ls:List Lp)(k:Nat):Nat:=((ls.take k).flatMap Lp.ps).length
theorem nw{ls:List Lp}{k:Nat}(h:k<ls.length):D3 ls (k+1)=D3 ls k+(ls.getD k default).ps.length:=by
 unfold D3;rw[List.take_add_one,bN h,aG,bN h,lK,bO];simp[kT]
theorem sumP_le(ls:List Lp)(k:Nat):D3 ls k≤(ls.flatMap Lp.ps).length:=by
 have h:ls.flatMap Lp.ps=(ls.take k).flatMap Lp.ps++(ls.drop k).flatMap Lp.ps:=by rw[←lK,Wj]
 unfold D3;rw[h,bO];omega
theorem sumP_all{ls:List Lp}{k:Nat}(h:ls.length=k):D3 ls k=(ls.flatMap Lp.ps).length:=by
 unfold D3;rw[eM (by omega)]
theorem Nd (a:Option cO) (N cap:Nat) (rs:List Rg) (w:aF) (hE:mN w) (hD:MU w) (hl:rs.length=N) (qJ:N≤40→cE (bF rs) N≤9223372036854775807) (hN:N≤9223372036854775807) (rr:GN w a rs) :
 bE aE 3 #[cF #[aD a N cap]] w fun e w' => e=bA (aV true)∧Below w.heap.size w w' :=by
 have HFi:=zq (fun W (hW:Below w.heap.size w W)=> law_fine a N cap rs W hl qJ hN (rr.below hW));have HAw:bK (∀ W,Below w.heap.size w W→bE aE 5 #[] W fun e w' => e=bA (aV true)∧Below W.heap.size W w'):=fun W hW=> mj W (hE.below hW);have fE:=(aL _ w).alloc (aH _) (aN #[aD a N cap] 24);have tN:=bT.new w #[aD a N cap] 24;obtain⟨W0,eY⟩:=nm (w.alloc (aN #[aD a N cap] 24));rw [eY] at fE tN;have fV:=zq fE;have nO:=zq tN;have b0:=tN.cell 0;simp only [aJ,aI] at b0;have HW:=zq eY;have H1:=zq (HFi.out _ fE);clear fE tN eY HFi;cases hfp:Vd (bF rs) N with
 | false=>
  rw [hfp] at H1;clear hfp hE hD rr qJ hN hl;refine dM func3 rfl ?_;simp only [ntmps3,cD,bD,bV,dQ,dR,cA,cB,cR,cH,dF,cJ];go_upto_region 1 with (fail)
  rw [HW.out];clear HW;go_wp2_with fail
  refine H1.out.mono ?_;rintro e W1 ⟨rfl,hb⟩;have eC:=zq (aQ fV.out hb);have H2:=zq (HAw.out _ eC.out);clear hb H1 fV b0;go_wp2_with fail
  refine H2.out.mono ?_;rintro e W2 ⟨rfl,hb⟩;have eT:=zq (aQ eC.out hb);clear hb H2;go_wp2;exact oC (iS Tryz.results3 _ _ _) rfl ⟨rfl,eT.out⟩
 | true=>
  rw [hfp] at H1;unfold Vd at hfp;simp only [bQ,dP,decide_eq_true_eq] at hfp;obtain⟨hg,h0⟩:=hfp;obtain⟨g1,g2⟩:=Pq hg;have hn:∀ r,(bF rs r).length≤1000:=fun r=> Z8 hl (by omega);have c2:=(rI h0).2.2.1;have kj:cE (bF rs) N≤12:=by omega
  have HF:=zq (nu hl h0 kj);have Ie:=nQ (bF rs) N;have U8:=zq Ie;have HFA:=zq (fun W (hW:Below w.heap.size w W)=> Yi a N cap rs W hl (by omega) hn (rr.below hW) h0 (hE.below hW) (hD.below hW) fun V hV=> DK a N cap rs V hl (by omega) hn (rr.below (aQ hW hV)) h0);have HBg:=zq (fun W (hW:Below w.heap.size w W)=> tr_Begin a N cap rs W hl (by omega) hn (rr.below hW) h0 (hE.below hW) (hD.below hW));have HBa:=zq (fun W (hW:Below w.heap.size w W)=> lv_Base a N cap rs W hl (by omega) hn (rr.below hW) h0 (hE.below hW) (hD.below hW) HF.out.some);have HPA:=zq (fun W (hW:Below w.heap.size w W)=> pl_Area a N cap rs W hl (by omega) hn (rr.below hW) h0 (hE.below hW));have qu:bK (∀ W,Below w.heap.size w W→mN W):=fun W hW=> hE.below hW;have HM12:=zq kj;clear hE hD rr qJ hN hl hg h0 g1 g2 hn c2 Ie kj;refine dM func3 rfl ?_;simp only [ntmps3,cD,bD,bV,dQ,dR,cA,cB,cR,cH,dF,cJ];go_upto_region 1 with (fail)
  rw [HW.out];clear HW;go_wp2_with fail
  refine H1.out.mono ?_;rintro e W1 ⟨rfl,hb⟩;have eC:=zq (aQ fV.out hb);have zW:=zq (nO.out.below hb nO.out.lt);have b0:=bR hb b0;have H2:=zq (HFA.out _ eC.out);clear hb H1 fV nO HFA;go_wp2_with fail
  refine H2.out.mono ?_;rintro e W2 ⟨⟨v1,rfl,Py⟩,hb⟩;obtain⟨fa,fc,rfl⟩:=Dg Py;have Mr:=zq (vT.own Py);have eT:=zq (aQ eC.out hb);have b0:=bR hb b0;have H3:=zq (HBg.out _ eT.out);clear hb Py H2 eC zW HBg;go_wp2_with fail
  refine H3.out.mono ?_;rintro e W3 ⟨⟨v2,los,rfl,ho2,QM⟩,hb⟩;obtain⟨la,lc,rfl⟩:=Dg ho2.1;have N0:=zq (Mr.out.below hb);have HB3:=zq (aQ eT.out hb);have b0:=bR hb b0;have HL3:=zq (gJ.reads ho2);have HM3:bK (los.map Lp.ps=xQ rs N):=QM;have H4:=zq (HBa.out _ HB3.out);clear hb ho2 QM H3 Mr eT HBa;go_wp2_with fail
  refine H4.out.mono ?_;rintro e W4 ⟨⟨b,rfl,S8,hmn⟩,hb⟩;have KU:=zq (N0.out.below hb);have HL4:=zq (HL3.out.below hb);have rT:=zq (aQ HB3.out hb);have b0:=bR hb b0;obtain⟨l1,l2,l3⟩:=HF.out.ls los HM3.out;obtain⟨hz,zG⟩:=HF.out.at' b S8 hmn;obtain⟨hal,hiz,har,hte,htv⟩:=zG los HM3.out;have Nx:∀ l∈los,l.ps.length≤1000000:=fun l h=> by have:=(l1 l h).1;omega
  have hla:=l3;have hN12:=HF.out.n12;have hT:∀ W,Below W4.heap.size W4 W→Kf W fa la (cE (bF rs) N) los.length (eX (bF rs) N) los:=fun W hW=>
   ⟨U8.out,rfl,by have:=HM12.out;omega,by omega,HF.out.fs,l1,KU.out.below hW,HL4.out.below hW⟩
  have hfc:cE (bF rs) N≤24:=by have:=HM12.out;omega
  have HTA:bK (∀ W,Below W4.heap.size W4 W→bE aE 9 #[aD fa (cE (bF rs) N) fc,aD la los.length lc,aA (bs b)] W fun e w' => e=bA (cK #[aA (bs (bG (mkRat (eS (fun r=> jL (bF rs r) (bF rs r).length) N) 2))),aC aB 0])∧Below W.heap.size W w'):=fun W hW=> by
   have:=tr_Area fa la (cE (bF rs) N) los.length fc lc (eX (bF rs) N) los b W (qu.out _ (aQ rT.out hW)) (hT W hW) hz (hal false) hiz;rwa [har] at this
  have HTT:bK (∀ W,Below W4.heap.size W4 W→bE aE 11 #[aD fa (cE (bF rs) N) fc,aD la los.length lc,aA (bs b)] W fun e w' => (∃ a' m c',∃ mR:List Lp,e=bA (cK #[aD a' m c',aC aB 0])∧mR.map Lp.ps=xQ rs N∧mR.length=m∧E5 w' a' mR)∧Below W.heap.size W w'):=fun W hW=> by
   have kj:=HM12.out;have:=Vc fa la (cE (bF rs) N) los.length fc lc (eX (bF rs) N) los b W (qu.out _ (aQ rT.out hW)) (hT W hW) kj (by omega) hz (hal false);unfold Kk at this;rw [hte,htv] at this;refine Calls.mono this ?_;rintro e w' ⟨⟨a',c',mR,rfl,hm,hr⟩,hb⟩;exact⟨⟨a',_,c',mR,rfl,hm,by rw [← hm,aZ],hr⟩,hb⟩
  have HTC:bK (∀ W,Below W4.heap.size W4 W→bE aE 13 #[aD fa (cE (bF rs) N) fc,aD la los.length lc,aA (bs b)] W fun e w' => e=bA (aC aB 0)∧Below W.heap.size W w'):=fun W hW=>
   tr_Check fa la (cE (bF rs) N) los.length fc lc (eX (bF rs) N) los b W (qu.out _ (aQ rT.out hW)) (hT W hW) hz (hal true)
  have HTS:bK (∀ W,Below W4.heap.size W4 W→∀ (a' :Option cO) (m c' :Nat) (mR:List Lp),mR.map Lp.ps=xQ rs N→mR.length=m→E5 W a' mR→bE aE 12 #[aD la los.length lc,aD a' m c'] W fun e w' => e=bA (aV true)∧Below W.heap.size W w'):=fun W hW a' m c' mR hm hlen hr=> by
   have h2:=HF.out.ls mR hm;have:=NY la a' los.length m lc c' los mR W rfl hlen (by omega) (by omega) Nx (fun l h=> by have:=(h2.1 l h).1;omega) (HL4.out.below hW) hr;rw [show CK los mR=true from decide_eq_true (by rw [hm,HM3.out])] at this;exact this
  have HSu:bK (D3 los los.length=cE (bF rs) N):=by rw [← l2];exact sumP_all rfl
  have HSl:bK (∀ k,D3 los k≤12):=fun k=> by have:=sumP_le los k;have:=HM12.out;omega
  have HK12:bK (los.length≤12):=by show _≤_;omega
  clear hla hN12 hb S8 hmn l1 l2 l3 hz zG hal hiz har hte htv Nx hT hfc H4 N0 HL3 HB3 HF U8;generalize hAR:mkRat (eS (fun r=> jL (bF rs r) (bF rs r).length) N) 2=AR at *;clear hAR;generalize bs (bG AR)=SA at *;generalize bs b=SB at *;have H5:=zq (HTA.out _ (aL _ _));clear HTA;generalize hK:los.length=K at *;have HKl:bK (los.length=K):=hK;clear hK;generalize eX (bF rs) N=FS at *;generalize hM:cE (bF rs) N=M at *;clear hM;go_wp2_with fail
  refine H5.out.mono ?_;rintro e W5 ⟨rfl,hb5⟩;have HC5:=zq hb5;have b0:=bR hb5 b0;have H6:=zq (HPA.out _ (aQ rT.out hb5));clear hb5 H5 HPA;go_wp2_with fail
  refine H6.out.mono ?_;rintro e W6 ⟨rfl,hb6⟩;have HC6:=zq (aQ HC5.out hb6);have H7:=zq (HTT.out _ HC6.out);clear hb6 H6 HC5 HTT b0;go_wp2_with fail
  refine H7.out.mono ?_;rintro e W7 ⟨⟨ta,tm,tc,mR,rfl,tm1,tm2,tr⟩,hb7⟩;have HC7:=zq (aQ HC6.out hb7);have H8:=zq (HTS.out _ HC7.out ta tm tc mR tm1 tm2 tr);clear hb7 H7 HC6 HTS tm1 tm2 tr;have HS0:bK (D3 los 0=0):=rfl;go_wp2;go_loopw [15,58] (fun t i wr=> ∃ k:Nat,t=aC aB (D3 los k)∧i=aC aB k∧k≤K∧wr=W7) (fun _ i _=> K - (aK i).toNat);case atStart=> exact⟨0,rfl,rfl,bM _,rfl⟩
  case round=>
   obtain⟨k,rfl,rfl,hk,rfl⟩:=hrel;by_cases hkK:k < K
   ·obtain⟨lb,lo,rfl,l0, -⟩:=(HL4.out.below HC7.out).at (i:=k) (by rw [HKl.out];exact hkK) rfl;have hkI:(k:Int) < K:=by omega
    have hK12:K≤12:=HK12.out;have hs:=nw (ls:=los) (k:=k) (by rw [HKl.out];exact hkK);have hs12:=HSl.out (k + 1);obtain⟨n,hn⟩:=nm (los.getD k default).ps.length;rw [hn] at l0 hs;clear hn;generalize (los.getD k default)=L0 at *;have L7:bK (D3 los (k + 1)=D3 los k + n):=hs;obtain⟨s,Zf⟩:=nm (D3 los k);obtain⟨s1,tL⟩:=nm (D3 los (k + 1));have HS2:=zq Zf;have HS3:=zq tL;rw [Zf,tL] at hs;rw [tL] at hs12;rw [Zf];clear Zf tL;go_wp2;go_roundw;case rel=> exact⟨k + 1,by rw [HS3.out,hs];go_num,by go_num,by omega,by first | rfl | trivial⟩
    case measure=> simp only [aK];omega
   ·obtain rfl:K=k:=by omega
    have E1:D3 los K=M:=HSu.out;rw [E1];go_wp2_with fail
    refine H8.out.mono ?_;rintro e W8 ⟨rfl,hb8⟩;have HC8:=zq (aQ HC7.out hb8);have H9:=zq (HTC.out _ HC8.out);clear hb8 H8;go_wp2_with fail
    refine H9.out.mono ?_;rintro e W9 ⟨rfl,O7⟩;have HC9:=zq (aQ HC8.out O7);have H10:=zq (HAw.out _ (aQ rT.out HC9.out));clear O7 H9;go_wp2_with fail
    refine H10.out.mono ?_;rintro e W10 ⟨rfl,hb10⟩;have HC10:=zq (aQ rT.out (aQ HC9.out hb10));clear hb10 H10;go_wp2;exact oC (iS Tryz.results3 _ _ _) rfl ⟨rfl,HC10.out⟩
end
section
open Go Go.RowKit Go.Lib Go.Deep
section
variable{H:Type}{enc:dT×aP→H}{w:aF}{cL:Nat}{GZ:Nat→Bool}{wW:Bool}
theorem addp(b off n:Nat):(⟨b,off,none⟩:cO).add n=⟨b,off+n,none⟩:=by unfold Addr.add;split <;>simp_all
theorem PL{a:cO}{v:aP}(h:w.cell? (a.add 0)=some v):∃b off,a=⟨b,off,none⟩:=by
 obtain⟨b,off,sp⟩:=a;have h:w.cell? ⟨b,off,sp⟩=some v:=h;unfold World.cell? at h;split at h
 ·split at h
  ·cases h
  ·rename_i h2;cases sp with
   |none=>exact⟨b,off,rfl⟩
   |some x=>exact absurd rfl h2
 ·cases h
theorem c_bool:Tryz.prog.cellsOf 4=1:=by kernel_rfl
theorem Nf:Tryz.prog.cellsOf 3=1:=by kernel_rfl
theorem az{α:Type}[Inhabited α]{n:Nat}(F:Nat→α):∃l:List α,l.length=n∧∀i,i<n→l.getD i default=F i:=
 ⟨(dD n).map F,by simp,fun i hi=>by simp[aG,hi]⟩
theorem rows_at{a:cO}{len m c:Nat}(hm:len≤m)(qg:0<c){G:Nat→Array aP}(hG:∀i,(G i).size=c)(h:∀i,i<m→w.cells? cL (a.add (i*c)) c=some (G i).toList):
 ∀i,i<len→∃b off,some a=some ⟨b,off,none⟩∧∀j,j<c→w.cell? ⟨b,off+i*c+j,none⟩=some ((G i).getD j aO):=by
 intro i hi;obtain⟨-,-,k0⟩:=In (h 0 (by omega));have k0:=k0 0 qg;rw[yW]at k0;have ha0:(a.add 0).add 0=a.add 0:=rfl;rw[ha0]at k0;have hs:∃v,(G 0).toList[0]? =some v:=⟨_,bN (by simp[hG];omega)⟩;obtain⟨v,hv⟩:=hs;obtain⟨b,off,rfl⟩:=PL (k0.trans hv);refine⟨b,off,rfl,fun j hj=>?_⟩;obtain⟨-,-,ki⟩:=In (h i (by omega));have:=ki j hj;rw[addp,addp]at this;rw[this];have BX:j<(G i).size:=by rw[hG];exact hj
 simp[BX]
end
section
variable{H:Type}{enc:dT×aP→H}{w:aF}{cL:Nat}{GZ:Nat→Bool}{wW:Bool}
theorem c_sd:Tryz.prog.cellsOf 56=7:=by kernel_rfl
theorem c_ss:Tryz.prog.cellsOf 54=1:=by kernel_rfl
theorem c_rr:Tryz.prog.cellsOf 22=1:=by kernel_rfl
theorem c_pn:Tryz.prog.cellsOf 24=1:=by kernel_rfl
theorem by_sd:Tryz.prog.bytesOf 56=56:=by kernel_rfl
theorem nz{fuel:Nat}{cs:List aP}{x:Sz H×List Oi}(h:jD enc aE w cL GZ wW fuel 56 cs=some x):∃s:Sd,cs=s.cells.toList:=by
 obtain⟨xs,n,-,-,hl,V0,hf⟩:=Io underlying56 h;rw[c_sd]at hl;match cs,hl with
 |[v0,v1,v2,v3,v4,v5,v6],_=>
  have V0:xs.length=7:=V0;match xs,V0 with
  |[x0,x1,x2,x3,x4,x5,x6],_=>
   have h0:jD enc aE w cL GZ wW n 3 (([v0,v1,v2,v3,v4,v5,v6].drop 0).take (Tryz.prog.cellsOf 3))=some x0:=hf 0 _ rfl;have h1:jD enc aE w cL GZ wW n 3 (([v0,v1,v2,v3,v4,v5,v6].drop 1).take (Tryz.prog.cellsOf 3))=some x1:=hf 1 _ rfl;have h2:jD enc aE w cL GZ wW n 3 (([v0,v1,v2,v3,v4,v5,v6].drop 2).take (Tryz.prog.cellsOf 3))=some x2:=hf 2 _ rfl;have h3:jD enc aE w cL GZ wW n 3 (([v0,v1,v2,v3,v4,v5,v6].drop 3).take (Tryz.prog.cellsOf 3))=some x3:=hf 3 _ rfl;have h4:jD enc aE w cL GZ wW n 4 (([v0,v1,v2,v3,v4,v5,v6].drop 4).take (Tryz.prog.cellsOf 4))=some x4:=hf 4 _ rfl;have h5:jD enc aE w cL GZ wW n 3 (([v0,v1,v2,v3,v4,v5,v6].drop 5).take (Tryz.prog.cellsOf 3))=some x5:=hf 5 _ rfl;have h6:jD enc aE w cL GZ wW n 3 (([v0,v1,v2,v3,v4,v5,v6].drop 6).take (Tryz.prog.cellsOf 3))=some x6:=hf 6 _ rfl;obtain⟨i0,e0,-⟩:=pB dL (by rw[Nf]at h0;exact h0);obtain⟨i1,e1,-⟩:=pB dL (by rw[Nf]at h1;exact h1);obtain⟨i2,e2,-⟩:=pB dL (by rw[Nf]at h2;exact h2);obtain⟨i3,e3,-⟩:=pB dL (by rw[Nf]at h3;exact h3);obtain⟨b,e4,-⟩:=DataW.trod_bool fM (by rw[c_bool]at h4;exact h4);obtain⟨i5,e5,-⟩:=pB dL (by rw[Nf]at h5;exact h5);obtain⟨i6,e6,-⟩:=pB dL (by rw[Nf]at h6;exact h6);cases e0;cases e1;cases e2;cases e3;cases e4;cases e5;cases e6;exact⟨⟨i0,i1,i2,i3,b,i5,i6⟩,rfl⟩
theorem oe{fuel:Nat}{cs:List aP}{x:Sz H×List Oi}(h:jD enc aE w cL (fun _=>true) wW fuel 54 cs=some x):
 ∃r:Rg,cs=[r.v]∧kY w r.a r.ss∧((∀n∈x.1.weights aE 54,n≤nK)→r.ss.length*56≤nK):=by
 rcases Wr KK h with⟨rfl,-⟩|⟨a,len,cap,m,n,D,Pl,rfl,-,hl,hm,qv,rfl,hx⟩
 ·exact⟨⟨none,0,[]⟩,rfl,fun i hi=>absurd hi (by simp),fun _=>by simp⟩
 ·rw[c_sd]at hx;obtain⟨F,hF⟩:=choose_lt (α:=Sd) (p:=fun i f=>w.cells? cL (a.add (i*7)) 7=some f.cells.toList) (fun i hi=>by
   obtain⟨cs',h1,h2⟩:=hx i hi;obtain⟨f,rfl⟩:=nz h2;exact⟨f,h1⟩)
  obtain⟨ss,h1,h2⟩:=az (n:=len) F;have hlm:len≤m:=by rw[qv];simp;exact hl
  refine⟨⟨some a,cap,ss⟩,by unfold Rg.v;rw[h1],fun i hi=>?_,fun hw=>?_⟩
  ·obtain⟨b,off,e,hc⟩:=rows_at (G:=fun i=>(F i).cells) hlm (by decide) (fun i=>rfl) hF i (by rw[←h1];exact hi);refine⟨b,off,e,fun j hj=>?_⟩;rw[hc j hj];show _=some ((ss.getD i default).cells.getD j aO);rw[h2 i (by rw[←h1];exact hi)]
  ·have hm:(((dD len).map D).length+((dD (m-len)).map fun j=>D (len+j)).length)*Tryz.prog.bytesOf 56≤nK:=hw _ (by
    simp only[Qa,KK];exact cW)
   rw[by_sd,aZ,aZ,kO,kO]at hm;show ss.length*56≤nK;rw[h1];omega
theorem EH{P:Program}{e:dT}:∀{l:List (Sz H)} {d:Sz H},d∈l→∀n∈d.weights P e,n∈uf P e l
 |x::r,d,h,n,hn=>by
  rw[uf]
  rcases List.mem_cons.1 h with rfl|h
  ·exact iL _ hn
  ·exact vP _ (EH h n hn)
theorem YD{fuel:Nat}{cs:List aP}{x:Sz H×List Oi}(h:jD enc aE w cL (fun _=>true) wW fuel 22 cs=some x):
 ∃(a:Option cO)(n ca:Nat)(rs:List Rg),cs=[aD a n ca]∧rs.length=n∧n≤ca∧ca≤maxLen∧GN w a rs∧((∀k∈x.1.weights aE 22,k≤nK)→∀r∈rs,r.ss.length*56≤nK):=by
 rcases Wr ug h with⟨rfl,-⟩|⟨a,len,cap,m,n,D,Pl,rfl,-,hl,hm,qv,rfl,hx⟩
 ·exact⟨none,0,0,[],rfl,rfl,aH _,by decide,fun i hi=>absurd hi (by simp),fun _ r hr=>absurd hr (by simp)⟩
 ·rw[c_ss]at hx;obtain⟨F,hF⟩:=choose_lt (α:=Rg) (p:=fun i r=>w.cell? (a.add i)=some r.v∧kY w r.a r.ss∧((∀n∈(D i).weights aE 54,n≤nK)→r.ss.length*56≤nK)) (fun i hi=>by
   obtain⟨cs',h1,h2⟩:=hx i hi;obtain⟨r,rfl,h3,h4⟩:=oe h2;obtain⟨-,-,k0⟩:=In h1;have k:=k0 0 (by decide);rw[Nat.mul_one]at k;exact⟨r,k,h3,h4⟩)
  obtain⟨rs,h1,h2⟩:=az (n:=len) F;have hlm:len≤m:=by rw[qv];simp;exact hl
  refine⟨some a,len,cap,rs,rfl,h1,hl,hm,fun i hi=>?_,fun hw r hr=>?_⟩
  ·have Zg:i<len:=by rw[←h1];exact hi
   obtain⟨b,off,rfl⟩:=PL (hF 0 (by omega)).1;refine⟨b,off,rfl,?_,?_⟩
   ·rw[h2 i Zg];have:=(hF i (by omega)).1;rwa[addp]at this
   ·rw[h2 i Zg];exact(hF i (by omega)).2.1
  ·obtain⟨i,hi,rfl⟩:=fI hr;rw[show rs[i]=rs.getD i default by simp[aG,hi],h2 i (by omega)];refine(hF i (by omega)).2.2 fun k hk=>hw k ?_;simp only[Qa,ug];exact dA _ (iL _ (EH (List.mem_map.2 ⟨i,List.mem_range.2 (by omega),rfl⟩) k hk))
theorem og{fuel:Nat}{cs:List aP}{x:Sz H×List Oi}(h:jD enc aE w cL (fun _=>true) wW fuel 24 cs=some x)(hw:∀k∈x.1.weights aE 24,k≤nK):
 ∃(a:Option cO)(n ca:Nat)(rs:List Rg),cs=[aD a n ca]∧rs.length=n∧n≤ca∧ca≤maxLen∧GN w a rs∧∀r∈rs,r.ss.length*56≤nK:=by
 obtain⟨xs,n,-,rfl,hl,V0,hf⟩:=Io uh h;rw[c_pn]at hl;match cs,hl with
 |[v0],_=>
  have V0:xs.length=1:=V0;match xs,V0 with
  |[x0],_=>
   have h0:jD enc aE w cL (fun _=>true) wW n 22 (([v0].drop 0).take (Tryz.prog.cellsOf 22))=some x0:=hf 0 _ rfl;rw[c_rr]at h0;obtain⟨a,n',ca,rs,e,h1,h2,h3,h4,h5⟩:=YD h0;have e:[v0]=[aD a n' ca]:=e;refine⟨a,n',ca,rs,e,h1,h2,h3,h4,h5 fun k hk=>hw k ?_⟩;simp only[Qa,uh];show k∈sZ aE [22] [x0.1];simp only[sZ,pZ];exact hk
end
def dirN:String:=String.ofList ([107,105,110,103,112,111,115,116,47,102,114,111,110,116,46,100,105,114,101,99,116,105,111,110,115].map Char.ofNat)
def Vy(u:Bool)(d:Int):Sz Unit:=ui [Sf (Lit.bool u),Sf (Lit.int aB d)]
theorem c_dr:Tryz.prog.cellsOf 102=2:=by kernel_rfl
theorem c_dt:Tryz.prog.cellsOf 103=8:=by kernel_rfl
theorem DQ{H:Type}{enc:dT×aP→H}{w:aF}{cL:Nat}{sp:Nat→Bool}{wW:Bool}{fuel:Nat}{cs:List aP}{x:Sz H×List Oi}{u:Bool}{d:Int}
 (h:jD enc aE w cL sp wW fuel 102 cs=some x)(hx:x.1=ui [Sf (Lit.bool u),Sf (Lit.int aB d)]):cs=[aV u,aC aB d]:=by
 obtain⟨xs,n,-,rfl,hl,V0,hf⟩:=Io underlying102 h;rw[c_dr]at hl;match cs,hl with
 |[v0,v1],_=>
  have V0:xs.length=2:=V0;match xs,V0 with
  |[x0,x1],_=>
   have h0:jD enc aE w cL sp wW n 4 (([v0,v1].drop 0).take (Tryz.prog.cellsOf 4))=some x0:=hf 0 _ rfl;have h1:jD enc aE w cL sp wW n 3 (([v0,v1].drop 1).take (Tryz.prog.cellsOf 3))=some x1:=hf 1 _ rfl;obtain⟨b,e0,k0⟩:=DataW.trod_bool fM (by rw[c_bool]at h0;exact h0);obtain⟨i,e1,k1,-⟩:=pB dL (by rw[Nf]at h1;exact h1);subst k0 k1;simp only[nJ,yE,YM,Ip,DataW.lit.injEq,Lit.bool.injEq,Lit.int.injEq,and_true,true_and]at hx;cases e0;cases e1;rw[hx.1,hx.2]
theorem dir_of{W:aF}{rest:List (String×Sz Unit)}(hg:Tryz.prog.globalNamed dirN=some 0)(hty:(Tryz.prog.globals[0]?).map (·.type)=some 103)
 (h:laidMet aE ((dirN,ui [Vy false 1,Vy true (-1),Vy false (-1),Vy true 1])::rest) W):MU W:=by
 obtain⟨ps,⟨g',t',cs,fuel,p,q,hg',ht',hvar,hd,_,_⟩,_⟩:=h;obtain rfl:=eG (hg.symm.trans hg');obtain rfl:=eG (hty.symm.trans ht');obtain⟨xs,n,-,e,hl,V0,hf⟩:=DataW.trod_array underlying103 hd;rw[c_dt]at hl;rw[c_dr]at hf;match xs,V0 with
 |[x0,x1,x2,x3],_=>
  simp only[nJ,yE,KG,YM,Ip,and_true]at e;obtain⟨⟨e0,e1,e2,e3⟩,-⟩:=e;have k0:=DQ (hf 0 (by decide)) e0.symm;have k1:=DQ (hf 1 (by decide)) e1.symm;have k2:=DQ (hf 2 (by decide)) e2.symm;have k3:=DQ (hf 3 (by decide)) e3.symm;have BM:cs.toList=[aV false,aC aB 1,aV true,aC aB (-1),aV false,aC aB (-1),aV true,aC aB 1]:=by
   match hcl:cs.toList,hl with
   |[v0,v1,v2,v3,v4,v5,v6,v7],_=>
    rw[hcl]at k0 k1 k2 k3;simp only[yW,Nat.one_mul,List.drop_zero,List.take_succ_cons,List.take_zero,List.drop_succ_cons,Ip,and_true,Nat.reduceMul]at k0 k1 k2 k3;rw[k0.1,k0.2,k1.1,k1.2,k2.1,k2.2,k3.1,k3.2]
  intro h4 hh;have hc:=fun i=>World.var?_cell hg hvar i;have hg':∀i,cs[i]? =cs.toList[i]? :=fun i=>by rw[Array.getElem?_toList]
  rw[hc,hc,hg',hg',BM];obtain rfl|rfl|rfl|rfl:h4=0∨h4=1∨h4=2∨h4=3:=by omega
  all_goals exact⟨rfl,rfl⟩
end
end Go.Proofs.YtkchhginppjaiaaGreatDoor
