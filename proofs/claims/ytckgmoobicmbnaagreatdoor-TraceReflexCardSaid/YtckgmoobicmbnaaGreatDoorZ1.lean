import Derived.WalkKit
import Derived.OrdersIn
import Derived.OwnWalkIn
import Derived.RangeFuncCalls
import Derived.Deep.RegionHeld3
import Derived.Test.YtckgmoobicmbnaaGreatDoorProg
import Derived.WalkSpells
import Derived.WalkLawsBesides
import Derived.RegionTactic
import Derived.ChangeAlike
import Derived.Deep.QuietTactic
import Derived.BigQuiet
import Derived.Lib.Hide
import Derived.Deep.DeepCutAuto
import Derived.OwnWalk
import Derived.Lib.Strings
import Derived.Lib.SlTrimSet
import Derived.Lib.Atoi
import Derived.Lib.Repeat
import Derived.Outline
import Derived.Test.YtckgmoobicmbnaaGreatDoorZ0
namespace Go.Proofs.YtckgmoobicmbnaaGreatDoor
set_option maxRecDepth 100000
set_option maxHeartbeats 8000000
set_option linter.all false
open Go.Proofs.Tryz
open _root_.Array renaming replicate->fY,getElem_mem_toList->Pd
open _root_.Bool renaming and_eq_true->bK,or_eq_false_iff->dO,or_eq_true->fJ,not_eq_true'->iH,true_and->kN,not_false->vM
open _root_.Classical renaming byContradiction->vD
open _root_.Go renaming World->aF,undef->aP,Value->aS,Calls->aW,bodyPost_ret->cI,below_drewN->cK,maxLen->dL,Program->dP,Oper->gL,KeepsFrom->gP,results->gR,Act->kZ,Operand->qV,OwnFrom->rK,run_string_add_lists->tN,callFunc->uQ,Code->vK,wpAnyIn->vO,Exit->yK,Fence->Kh,run_endLoop->Ki,wpIn_mono->Pa,wpIn_wide->iq
open Go.ByteArray renaming toList_eq->cJ
open Go.Code renaming region->oF,rangeFunc->qX
open Go.Ending renaming returned->aQ
open Go.Fence renaming wide->dG
open Go.Instr renaming endRound->NK
open Go.IntKind renaming i64->aE
open Go.IntWalk renaming i64_in->aX,u8_in->ma
open Go.Lib renaming itoa->cM,decDigits->dN,extract_to_end->sJ,hasPrefix->AY,trimPrefix->JI,atoi->UJ,digitVal->mc,decFrom->zr
open Go.Obj renaming cells->aJ
open Go.Op renaming stringOp->Jh
open Go.Oper renaming semAt_plain->lL,wpIn->rL,wp->ir
open Go.Proofs.Tryz renaming prog->aC,results212->iA,results55->D4,ntmps198->FK,ntmps200->FL,func198->Ji,func200->Jj,ntmps56->UK,func56->XJ
open Go.Region renaming Mode->gU
open Go.RowKit renaming intOf->aK,Hid->bH
open Go.RowKit.Below renaming refl->aH,setCell->iV,alloc->lA,heap_alloc->vS
open Go.Value renaming string->aA,int->aD,bool->aN,tuple->cC,agg->cN
open Go.World renaming size_alloc->bB,putObj_heap_other->cH,putObj_heap_same->iZ,alloc_heap_new->kE
open _root_.Int renaming natAbs_natCast->cA,toNat_natCast->iF,tmod_eq_emod_of_nonneg->jI,natCast_nonneg->Kk,natCast_ediv->NN,natAbs_neg->Pe
open _root_.List renaming getD_eq_getElem?_getD->aO,length_cons->bF,replicate->bV,cons_append->bZ,length_append->cP,take_succ_eq_append_getElem->dU,getElem_of_mem->eU,length_take->fG,take_of_length_le->fM,eq_nil_of_length_eq_zero->fW,all_cons->jT,length_drop->jU,mem_cons_self->oJ,append_nil->pP,mem_cons_of_mem->pX,drop_of_length_le->uS,all_eq_true->vL,drop_eq_getElem_cons->AV,takeWhile_sublist->Dh,all_append->DE,dropWhile_cons->Ft,drop_zero->QK,length->XI,replicate_succ->Y9,take_succ_cons->Za
open _root_.Nat renaming le_refl->aG,lt_of_lt_of_le->bL,zero_le->bN,pow_le_pow_right->bO,gcd->dR,mul_le_mul_right->eV,pow_succ->fC,eq_zero_or_pos->fF,lt_of_le_of_lt->fO,mod_lt->fU,mul_le_mul_left->lQ,pow_add->pE,gcd_comm->sI,mul_lt_mul''->De,add_comm->MI,gcd_zero_right->mb,pos_of_ne_zero->mg
open _root_.Option.some renaming injEq->rC
open _root_.Rat renaming divInt->Pc,num_mkRat->RI,den_mkRat->RJ
open _root_.Trans renaming trans->cB
section
open Go Go.RowKit
section
variable{P:dP}
theorem dE{f:FuncId}{fn:Func}{c:vK}{args:Array aS}{w:aF}{R:Ending→aF→Prop}(hf:P.funcs[f]? =some fn)(hb:fn.body=some c)
 (h:c.wp P (bodyPostM dG 9 P fn R) {tmps:=args++fY (fn.ntmps-args.size) aP,defers:=[]} w):aW P f args w R:=
 callsIn_wide.1 (callsIn_of_wp_marks (F:=dG) (n:=9) hf hb trivial (wpIn_wide.2 h) rfl)
theorem Bn{g:qV}{ps:Array Tmp}{assign body:vK}{Q:yK→kZ→aF→Prop}{a:kZ}{w:aF}
 {gf:Nat}{lb:Array aS}(hg:a.eval g=.func (.func gf) #[] lb)(eg:∀args w,(uQ gf args).run P w=.ok (.enter gf args) w)
 {mB:Nat→Array aS}{Kp:aF→aF→Prop}{N:Nat}(Bk:VG dG 8 P gf lb mB Kp N w)
 (JP:∀{A B C:aF},Kp A B→Kp B C→Kp A C)(Kn:∀(W:aF)(l:Nat)(o o':Obj),w.heap.size≤l→W.heap[l]? =some o→o.isCells=false→o.isWalk=false→Kp W (W.putObj l o'))(wG:∀k,(mB k).size=ps.size)
 (I:Nat→aF→Prop)(Ix:vK→Nat→aF→Prop)(hI:rK w.heap.size I)(Cf:∀c,rK w.heap.size (Ix c))(h0:I 0 w)(tZ:Nat→kZ)
 (jM:∀(l:Nat)(k:Nat)(W:aF)(K:kZ→aF→Prop),K (tZ k) W→
  assign.wpIn (Fence.wide.inRound l) 7 P (Exit.then K (fun _ _ _=>False)) {tmps:=(ps.zip (mB k)).foldl (fun t(p,v)=>t.setIfInBounds p v) a.tmps,defers:=[]} W)
 (qH:∀(l:Nat)(k:Nat)(W:aF),k<N→I k W→body.wpIn (Fence.wide.inRound l) 7 P (pJ w.heap.size Kp I Ix (k+1) W) (tZ k) W)
 (oS:∀(D:Nat)(W:aF),w.heap.size≤D→I N W→W.heap[D]? =some (.deferred (some []))→Q .normal {a with defers:={target:=.collected D,args:= #[]}::a.defers} W)
 (qI:∀(D:Nat)(c:vK)(k:Nat)(W:aF),w.heap.size≤D→k≤N→Ix c k W→W.heap[D]? =some (.deferred (some []))→c.wp P Q {a with defers:={target:=.collected D,args:= #[]}::a.defers} W):
 (qX g ps assign body).wp P Q a w:=
 (iq (n:=9)).1 (FP (F:=dG) rfl (by decide) hg trivial eg Bk (aH _ _) JP Kn wG I Ix hI Cf h0 tZ jM qH oS (fun D c k W h1 h2 h3 h4=>wpIn_wide.2 (qI D c k W h1 h2 h3 h4)))
theorem Calls.round{f:FuncId}{args:Array aS}{w:aF}{R:Ending→aF→Prop}(h:aW P f args w R)(l n:Nat):CallsIn (Fence.wide.inRound l) n P f args w R:=
 (callsIn_wide.2 h).inRound l
theorem gA{fn:Func}{p u:Tmp}{ty:TypeId}(h:fn.results= #[.cell p ty,.tmp u])(tmps:Array aS)(w:aF)(g:Nat)(v:aS)
 (hp:tmps.getD p aP=.pointer (some ⟨g,0,none⟩))(hc:w.cell? ⟨g,0,none⟩=some v)(ha:(isAgg ty).run P w=.ok false w):
 (gR fn tmps).run P w=.ok (cC #[v,tmps.getD u aP]) w:=by
 have RY:tmps[p]?.getD aP=.pointer (some ⟨g,0,none⟩):=by simpa using hp
 simp[gR,h,go_sem,RY,hc,ha]
def Bo(cR:Array gL):Bool:=cR.all fun o=>match o.op with |.defer _=>false|_=>true
theorem KV{cR:Array gL}(h:Bo cR=true){i:Nat}{o:gL}(ho:cR[i]? =some o):∀c,o.op≠.defer c:=by
 intro c hc;obtain⟨hi,rfl⟩:=Array.getElem?_eq_some_iff.1 ho;have:=Array.all_eq_true.1 h i hi;rw[hc]at this;cases this
theorem Sj{F:Kh}{n:Nat}{md:gU}{cR:Array gL}{Q:yK→kZ→aF→Prop}(l:Nat)(hd:Bo cR=true):
 ∀(fuel:Nat)(jE:Array Bool)(a:kZ)(w:aF),vO F n P md cR Q fuel jE a w→vO (F.inRound l) n P md cR Q fuel jE a w:=by
 intro fuel;induction fuel with
 |zero=>exact fun _ _ _ h=>h
 |succ fuel ih=>
  intro jE a w h;refine⟨h.1,fun i hi=>?_⟩;have hop:=h.2 i hi;unfold wpOpIn at hop⊢;cases ho:cR[i]? with
  |none=>rw[ho]at hop;exact ih _ _ _ hop
  |some o=>
   rw[ho]at hop;simp only at hop⊢;split
   ·rename_i hw;rw[ip hw]at hop;have hm:=Oper.wpIn_mono (K':=vO (F.inRound l) n P md cR Q fuel (jE.setIfInBounds i true)) (fun a w=>ih _ a w) hop;unfold rL at hm⊢;refine⟨hm.1,?_⟩;have h2:=hm.2;rw[lL F _ _ (KV hd ho)]at h2;rw[lL (F.inRound l) _ _ (KV hd ho)];exact h2
   ·rename_i hw;rw[iN hw]at hop;exact⟨hop.1,ih _ _ _ hop.2⟩
theorem pK{n:Nat}{id:Nat}{cR:Array gL}{Q:yK→kZ→aF→Prop}{a:kZ}{w:aF}{l:Nat}(hm:P.follows .mixedOrders=true)(hd:Bo cR=true)
 (h:vO dG n P .any cR Q cR.size (fY cR.size false) a w.drew):(oF id cR true).wpIn (Fence.wide.inRound l) n P Q a w:=
 wpIn_region_any hm (Sj l hd _ _ _ _ h)
theorem Cx{id:Nat}{cR:Array gL}{Q:yK→kZ→aF→Prop}{a:kZ}{w:aF}(hm:P.follows .mixedOrders=true)
 (h:vO dG 9 P .any cR Q cR.size (fY cR.size false) a w.drew):(oF id cR true).wp P Q a w:=
 (iq (n:=9)).1 (wpIn_region_any hm h)
end
section
variable{P:dP}
theorem Zy{n:Nat}{o:gL}{a:kZ}{w:aF}{K:kZ→aF→Prop}{Q:yK→kZ→aF→Prop}(h:ir P o a w K Q):rL dG n P o a w K Q:=by
 refine⟨fun _ _=>trivial,?_⟩;unfold ir at h;show Oper.uponIn _ _ _ _ _ _ _ ((Oper.semAt none a.eval o).run P w);rw[Oper.semAt_none];generalize(execOp a.eval o).run P w=r at h⊢;unfold Oper.upon at h;split at h
 ·exact h
 ·exact h
 ·exact h
 ·refine⟨fun h=>(by cases h),(callsIn_wide.2 h).mono ?_⟩;intro e w' he;exact he
 ·refine⟨fun h=>(by cases h),?_⟩;intro c cs _;obtain⟨v,w',r,s⟩:=h c cs;exact⟨v,w',r,stepsIn_wide.2 s⟩
 ·exact h
 ·exact h.elim
theorem F8{n:Nat}{cR:Array gL}{Q:yK→kZ→aF→Prop}{i:Nat}{K:kZ→aF→Prop}{a:kZ}{w:aF}(hQ:¬LetsOut Q)(h:wpOp P cR Q i K a w):wpOpIn dG n P cR Q i K a w:=by
 unfold wpOp at h;unfold wpOpIn;cases ho:cR[i]? with
 |none=>rw[ho]at h;exact h
 |some o=>
  rw[ho]at h;simp only at h⊢;split
  ·rename_i hw;rw[ip hw]at h;rcases h with h|⟨_,h⟩
   ·exact Zy h
   ·exact absurd h hQ
  ·rename_i hw;rw[iN hw]at h;exact⟨fun _ _=>trivial,h⟩
theorem Ec{n:Nat}{md:gU}{cR:Array gL}{Q:yK→kZ→aF→Prop}{S:aF→Prop}(hQ:¬LetsOut Q):
 ∀(fuel:Nat)(jE:Array Bool)(a:kZ)(w:aF),wpAnyH P md cR Q S fuel jE a w→vO dG n P md cR Q fuel jE a w
 |0,_,_,_,h=>h
 |fuel+1,_,_,_,h=>⟨h.1,fun i hi=>F8 hQ (wpOp_mono (fun a' w' h'=>Ec hQ fuel _ a' w' h'.2) (h.2 i hi))⟩
theorem F9{n:Nat}{id:Nat}{cR:Array gL}{Q:yK→kZ→aF→Prop}{a:kZ}{w:aF}{l:Nat}{S:aF→Prop}(hm:P.follows .mixedOrders=true)(hd:Bo cR=true)(hQ:¬LetsOut Q)(hS:S w.drew)
 (h:S w.drew→wpAnyH P .any cR Q S cR.size (fY cR.size false) a w.drew):(oF id cR true).wpIn (Fence.wide.inRound l) n P Q a w:=
 pK hm hd (Ec hQ _ _ _ _ (h hS))
def mR(Q:yK→kZ→aF→Prop):yK→kZ→aF→Prop
 |.normal,a,w=>Q .normal a w
 |_,_,_=>False
theorem mR.normal{Q:yK→kZ→aF→Prop}{a:kZ}{w:aF}(h:Q .normal a w):mR Q .normal a w:=h
theorem mR.imp{Q:yK→kZ→aF→Prop}:∀(e:yK)(a:kZ)(w:aF),mR Q e a w→Q e a w:=fun e a w h=>by
 cases e<;>first |exact h|exact(h:False).elim
theorem mR.no{Q:yK→kZ→aF→Prop}:¬LetsOut (mR Q):=fun⟨_,_,h⟩=>(h:False).elim
theorem xH{n:Nat}{id:Nat}{cR:Array gL}{Q:yK→kZ→aF→Prop}{a:kZ}{w:aF}{l:Nat}{S:aF→Prop}(hm:P.follows .mixedOrders=true)(hd:Bo cR=true)(hS:S w.drew)
 (h:S w.drew→wpAnyH P .any cR (mR Q) S cR.size (fY cR.size false) a w.drew):(oF id cR true).wpIn (Fence.wide.inRound l) n P Q a w:=
 Pa (F9 hm hd mR.no hS h) mR.imp
end
section
def Sk(F:Kh)(n:Nat)(P:dP)(gf:Nat)(lb:Array aS)(mB:Nat→Array aS)(Kp:aF→aF→Prop)(N:Nat)(w:aF):Prop:=
 ∀(l:Nat)(J Jx:Nat→aF→Prop)(W:aF),Below w.heap.size w W→(∀k V V',J k V→Below V.heap.size V V'→J k V')→
  (∀k V,k<N→J k V→YieldAt F (n-1) P l (mB k) V fun e V'=>(e=aQ (aN true)∧J (k+1) V'∧Kp V V')∨(e=aQ (aN false)∧Jx (k+1) V'))→
  J 0 W→CallsIn F n P gf (#[.func (.yield l) #[] #[]]++lb) W fun e W'=>(∃v,e=aQ v)∧(J N W'∨∃k,k≤N∧Jx k W')
theorem sK{W W':aF}(h:Below W.heap.size W W'):W.grownBy W' none:=⟨h.os,h.tape,h.output,h.size,fun k hk _=>h.block k hk⟩
variable{F:Kh}{n:Nat}{P:dP}
theorem Pw{g:qV}{ps:Array Tmp}{assign body:vK}{Q:yK→kZ→aF→Prop}{a:kZ}{w:aF}
 (Ia:F.round=none)(h1:1≤n){gf:Nat}{lb:Array aS}(hg:a.eval g=.func (.func gf) #[] lb)(hFg:F.fn gf)(eg:∀args w,(uQ gf args).run P w=.ok (.enter gf args) w)
 {mB:Nat→Array aS}{Kp:aF→aF→Prop}{N:Nat}{w0:aF}(Bk:Sk F (n-1) P gf lb mB Kp N w0)(hb0:Below w0.heap.size w0 w)
 (JP:∀{A B C:aF},Kp A B→Kp B C→Kp A C)(Kn:∀(W:aF)(l:Nat)(o o':Obj),w.heap.size≤l→W.heap[l]? =some o→o.isCells=false→o.isWalk=false→Kp W (W.putObj l o'))(wG:∀k,(mB k).size=ps.size)
 (I:Nat→aF→Prop)(Ix:vK→Nat→aF→Prop)(hI:rK w.heap.size I)(Cf:∀c,rK w.heap.size (Ix c))(h0:I 0 w)(tZ:Nat→kZ)
 (jM:∀(l:Nat)(k:Nat)(W:aF)(K:kZ→aF→Prop),K (tZ k) W→
  assign.wpIn (F.inRound l) (n-1-1) P (Exit.then K (fun _ _ _=>False)) {tmps:=(ps.zip (mB k)).foldl (fun t(p,v)=>t.setIfInBounds p v) a.tmps,defers:=[]} W)
 (qH:∀(l:Nat)(k:Nat)(W:aF),k<N→I k W→body.wpIn (F.inRound l) (n-1-1) P (pJ w.heap.size Kp I Ix (k+1) W) (tZ k) W)
 (oS:∀(D:Nat)(W:aF),w.heap.size≤D→I N W→W.heap[D]? =some (.deferred (some []))→Q .normal {a with defers:={target:=.collected D,args:= #[]}::a.defers} W)
 (qI:∀(D:Nat)(c:vK)(k:Nat)(W:aF),w.heap.size≤D→k≤N→Ix c k W→W.heap[D]? =some (.deferred (some []))→c.wpIn F n P Q {a with defers:={target:=.collected D,args:= #[]}::a.defers} W):
 (qX g ps assign body).wpIn F n P Q a w:=by
 refine wpIn_rangeFunc ?_
 intro fn Zt
 rw[Ia]
 have hD:=kE w (.deferred (some []))
 obtain⟨V,hV⟩:∃V,(w.alloc (.deferred (some []))).alloc (.loop (eA fn a ps assign body w.heap.size .ready none))=V:=⟨_,rfl⟩
 have kD:V.heap[w.heap.size]? =some (.deferred (some [])):=by rw[←hV];exact(vS _ _ _ (by simp)).trans hD
 have kL:V.heap[w.heap.size+1]? =some (.loop (eA fn a ps assign body w.heap.size .ready none)):=by
  rw[←hV]
  have:=kE (w.alloc (.deferred (some []))) (.loop (eA fn a ps assign body w.heap.size .ready none))
  rwa[bB]at this
 have kI:I 0 V:=by rw[←hV];exact hI.alloc _ (hI.alloc _ h0)
 have kB:Below w0.heap.size w0 V:=by
  rw[←hV];exact hb0.trans ((((aH _ w).alloc (aG _) _).alloc (by simp) _).mono hb0.size)
 refine⟨w.heap.size+1,[{target:=.collected w.heap.size,args:= #[]}],V,{target:=.fn (.func gf) lb,args:= #[.func (.yield (w.heap.size+1)) #[] #[]]},V,gf,
  #[.func (.yield (w.heap.size+1)) #[] #[]]++lb,V,?_,?_,?_,?_,fun _=>h1,?_⟩
 ·rw[←hV];exact run_enterLoop_outer _ _ _ _ _
 ·simp only[resolve,hg]
  simp[go_sem]
 ·intro f hf
  simp[Target.leads]at hf
  subst hf;exact hFg
 ·simp[invoke,go_sem,eg]
 ·have uA:=Bk (w.heap.size+1)
   (fun k W=>I k W∧W.heap[w.heap.size+1]? =some (.loop (eA fn a ps assign body w.heap.size .ready none))∧W.heap[w.heap.size]? =some (.deferred (some [])))
   (fun k W=>∃c,Ix c k W∧W.heap[w.heap.size+1]? =some (.loop (eA fn a ps assign body w.heap.size .done (some c)))∧W.heap[w.heap.size]? =some (.deferred (some [])))
   V kB (fun k A B⟨h1,h2,h3⟩hb=>⟨hI k A B none h1 (sK hb) (fun r e=>by cases e),(hb.block _ (Array.getElem?_eq_some_iff.1 h2).1).trans h2,(hb.block _ (Array.getElem?_eq_some_iff.1 h3).1).trans h3⟩) ?round ⟨kI,kL,kD⟩
  case round=>
   rintro k W hk⟨hi,hl,hd⟩
   have hlt:w.heap.size+1<W.heap.size:=(Array.getElem?_eq_some_iff.1 hl).1
   have hy:=run_yield (P:=P) (args:=mB k) hl (by exact wG k)
   refine⟨fn,_,assign,body,hy,roundIn_of_wpIn Zt (jM _ k W _ ⟨_,run_beginRound hl rfl,?_⟩)⟩
   obtain⟨U,hU⟩:∃U,W.putObj (w.heap.size+1) (.loop (eA fn a ps assign body w.heap.size .busy none))=U:=⟨_,rfl⟩
   have uL:U.heap[w.heap.size+1]? =some (.loop (eA fn a ps assign body w.heap.size .busy none)):=by rw[←hU];exact iZ hlt
   have uD:U.heap[w.heap.size]? =some (.deferred (some [])):=by rw[←hU];exact(cH (by omega)).trans hd
   have uK:Kp W U:=by rw[←hU];exact Kn _ _ _ _ (by omega) hl rfl rfl
   have uI:I k U:=by rw[←hU];exact hI.putObj _ hi (by omega) hl rfl
   have FU:∀(j:Option vK)(X:aF),gP w.heap.size U X→
    X.heap[w.heap.size+1]? =some (.loop (eA fn a ps assign body w.heap.size .busy none))∧
    (NK (w.heap.size+1) j).run P X=.ok (aN j.isNone) (X.putObj (w.heap.size+1) (.loop (eA fn a ps assign body w.heap.size (if j.isNone then .ready else .done) j)))∧
    (X.putObj (w.heap.size+1) (.loop (eA fn a ps assign body w.heap.size (if j.isNone then .ready else .done) j))).heap[w.heap.size+1]? =some (.loop (eA fn a ps assign body w.heap.size (if j.isNone then .ready else .done) j))∧
    (X.putObj (w.heap.size+1) (.loop (eA fn a ps assign body w.heap.size (if j.isNone then .ready else .done) j))).heap[w.heap.size]? =some (.deferred (some [])):=by
    intro j X hX
    have xL:=hX.same _ _ (by omega) uL rfl
    exact⟨xL,run_endRound (P:=P) j xL,iZ (Array.getElem?_eq_some_iff.1 xL).1,(cH (by omega)).trans (hX.same _ _ (aG _) uD rfl)⟩
   show Code.wpIn _ _ _ _ _ _ (W.putObj (w.heap.size+1) (.loop (eA fn a ps assign body w.heap.size .busy none)))
   rw[hU]
   refine Pa (qH _ k U hk uI) ?_
   intro e a3 X hp
   have Bl:∀c:vK,gP w.heap.size U X∧Ix c (k+1) X→_:=fun c hc=>(FU (some c) X hc.1)
   cases e with
   |normal=>
    obtain⟨xL,xr,yL,yD⟩:=FU none X hp.1
    exact⟨_,_,xr,.inl ⟨rfl,⟨hI.putObj _ hp.2.2 (by omega) xL rfl,yL,yD⟩,JP (JP uK hp.2.1) (Kn _ _ _ _ (by omega) xL rfl rfl)⟩⟩
   |ret=>
    obtain⟨xL,xr,yL,yD⟩:=Bl .ret hp
    exact⟨_,_,xr,.inr ⟨rfl,.ret,(Cf _).putObj _ hp.2 (by omega) xL rfl,yL,yD⟩⟩
   |exit id=>
    obtain⟨xL,xr,yL,yD⟩:=Bl (.exit id) hp
    exact⟨_,_,xr,.inr ⟨rfl,.exit id,(Cf _).putObj _ hp.2 (by omega) xL rfl,yL,yD⟩⟩
   |goto t=>
    obtain⟨xL,xr,yL,yD⟩:=Bl (.goto t) hp
    exact⟨_,_,xr,.inr ⟨rfl,.goto t,(Cf _).putObj _ hp.2 (by omega) xL rfl,yL,yD⟩⟩
   |panic ch=>exact hp.elim
   |outgrown=>exact hp.elim
  refine uA.mono ?_
  rintro e W2⟨⟨v,rfl⟩,(⟨hi,hl,hd⟩|⟨k,hk,c,hi,hl,hd⟩)⟩
  ·exact⟨none,_,Ki (P:=P) hl (by simp[eA]),oS _ _ (aG _) (hI.putObj _ hi (by omega) hl rfl) ((cH (by omega)).trans hd)⟩
  ·exact⟨some c,_,Ki (P:=P) hl (by simp[eA]),qI _ c k _ (aG _) hk ((Cf c).putObj _ hi (by omega) hl rfl) ((cH (by omega)).trans hd)⟩
theorem VL{g:qV}{ps:Array Tmp}{assign body:vK}{Q:yK→kZ→aF→Prop}{a:kZ}{w:aF}
 {gf:Nat}{lb:Array aS}(hg:a.eval g=.func (.func gf) #[] lb)(eg:∀args w,(uQ gf args).run P w=.ok (.enter gf args) w)
 {mB:Nat→Array aS}{Kp:aF→aF→Prop}{N:Nat}(Bk:Sk dG 8 P gf lb mB Kp N w)
 (JP:∀{A B C:aF},Kp A B→Kp B C→Kp A C)(Kn:∀(W:aF)(l:Nat)(o o':Obj),w.heap.size≤l→W.heap[l]? =some o→o.isCells=false→o.isWalk=false→Kp W (W.putObj l o'))(wG:∀k,(mB k).size=ps.size)
 (I:Nat→aF→Prop)(Ix:vK→Nat→aF→Prop)(hI:rK w.heap.size I)(Cf:∀c,rK w.heap.size (Ix c))(h0:I 0 w)(tZ:Nat→kZ)
 (jM:∀(l:Nat)(k:Nat)(W:aF)(K:kZ→aF→Prop),K (tZ k) W→
  assign.wpIn (Fence.wide.inRound l) 7 P (Exit.then K (fun _ _ _=>False)) {tmps:=(ps.zip (mB k)).foldl (fun t(p,v)=>t.setIfInBounds p v) a.tmps,defers:=[]} W)
 (qH:∀(l:Nat)(k:Nat)(W:aF),k<N→I k W→body.wpIn (Fence.wide.inRound l) 7 P (pJ w.heap.size Kp I Ix (k+1) W) (tZ k) W)
 (oS:∀(D:Nat)(W:aF),w.heap.size≤D→I N W→W.heap[D]? =some (.deferred (some []))→Q .normal {a with defers:={target:=.collected D,args:= #[]}::a.defers} W)
 (qI:∀(D:Nat)(c:vK)(k:Nat)(W:aF),w.heap.size≤D→k≤N→Ix c k W→W.heap[D]? =some (.deferred (some []))→c.wp P Q {a with defers:={target:=.collected D,args:= #[]}::a.defers} W):
 (qX g ps assign body).wp P Q a w:=
 (iq (n:=9)).1 (Pw (F:=dG) rfl (by decide) hg trivial eg Bk (aH _ _) JP Kn wG I Ix hI Cf h0 tZ jM qH oS (fun D c k W h1 h2 h3 h4=>wpIn_wide.2 (qI D c k W h1 h2 h3 h4)))
end
section
variable{F:Kh}{n:Nat}{P:dP}
theorem VG.m{gf:Nat}{lb:Array aS}{mB:Nat→Array aS}{Kp:aF→aF→Prop}{N:Nat}{w:aF}(h:VG F n P gf lb mB Kp N w):Sk F n P gf lb mB Kp N w:=fun l J Jx W hW _ hY h0=>h l J Jx W hW hY h0
theorem Px{g:qV}{ps:Array Tmp}{assign body:vK}{Q:yK→kZ→aF→Prop}{a:kZ}{w:aF}
 (Ia:F.round=none)(h1:1≤n){gf:Nat}{lb:Array aS}(hg:a.eval g=.func (.func gf) #[] lb)(hFg:F.fn gf)(eg:∀args w,(uQ gf args).run P w=.ok (.enter gf args) w)
 {mB:Nat→Array aS}{Kp:aF→aF→Prop}{N:Nat}{w0:aF}(Bk:Sk F (n-1) P gf lb mB Kp N w0)(hb0:Below w0.heap.size w0 w)
 (JP:∀{A B C:aF},Kp A B→Kp B C→Kp A C)(Kn:∀(W:aF)(l:Nat)(o o':Obj),w.heap.size≤l→W.heap[l]? =some o→o.isCells=false→o.isWalk=false→Kp W (W.putObj l o'))(wG:∀k,(mB k).size=ps.size)
 (I:Nat→aF→Prop)(Ix:vK→Nat→aF→Prop)(hI:rK w.heap.size I)(Cf:∀c,rK w.heap.size (Ix c))(h0:I 0 w)(I1:kZ→Nat→aF→Prop)(hI1:∀a',rK w.heap.size (I1 a'))
 (jM:∀(l:Nat)(k:Nat)(W:aF)(K:kZ→aF→Prop),k<N→I k W→(∀a' W',gP w.heap.size W W'→Kp W W'→I1 a' k W'→K a' W')→
  assign.wpIn (F.inRound l) (n-1-1) P (Exit.then K (fun _ _ _=>False)) {tmps:=(ps.zip (mB k)).foldl (fun t(p,v)=>t.setIfInBounds p v) a.tmps,defers:=[]} W)
 (qH:∀(l:Nat)(k:Nat)(a':kZ)(W:aF),k<N→I1 a' k W→body.wpIn (F.inRound l) (n-1-1) P (pJ w.heap.size Kp I Ix (k+1) W) a' W)
 (oS:∀(D:Nat)(W:aF),w.heap.size≤D→I N W→W.heap[D]? =some (.deferred (some []))→Q .normal {a with defers:={target:=.collected D,args:= #[]}::a.defers} W)
 (qI:∀(D:Nat)(c:vK)(k:Nat)(W:aF),w.heap.size≤D→k≤N→Ix c k W→W.heap[D]? =some (.deferred (some []))→c.wpIn F n P Q {a with defers:={target:=.collected D,args:= #[]}::a.defers} W):
 (qX g ps assign body).wpIn F n P Q a w:=by
 refine wpIn_rangeFunc ?_
 intro fn Zt
 rw[Ia]
 have hD:=kE w (.deferred (some []))
 obtain⟨V,hV⟩:∃V,(w.alloc (.deferred (some []))).alloc (.loop (eA fn a ps assign body w.heap.size .ready none))=V:=⟨_,rfl⟩
 have kD:V.heap[w.heap.size]? =some (.deferred (some [])):=by rw[←hV];exact(vS _ _ _ (by simp)).trans hD
 have kL:V.heap[w.heap.size+1]? =some (.loop (eA fn a ps assign body w.heap.size .ready none)):=by
  rw[←hV]
  have:=kE (w.alloc (.deferred (some []))) (.loop (eA fn a ps assign body w.heap.size .ready none))
  rwa[bB]at this
 have kI:I 0 V:=by rw[←hV];exact hI.alloc _ (hI.alloc _ h0)
 have kB:Below w0.heap.size w0 V:=by
  rw[←hV];exact hb0.trans ((((aH _ w).alloc (aG _) _).alloc (by simp) _).mono hb0.size)
 refine⟨w.heap.size+1,[{target:=.collected w.heap.size,args:= #[]}],V,{target:=.fn (.func gf) lb,args:= #[.func (.yield (w.heap.size+1)) #[] #[]]},V,gf,
  #[.func (.yield (w.heap.size+1)) #[] #[]]++lb,V,?_,?_,?_,?_,fun _=>h1,?_⟩
 ·rw[←hV];exact run_enterLoop_outer _ _ _ _ _
 ·simp only[resolve,hg]
  simp[go_sem]
 ·intro f hf
  simp[Target.leads]at hf
  subst hf;exact hFg
 ·simp[invoke,go_sem,eg]
 ·have uA:=Bk (w.heap.size+1)
   (fun k W=>I k W∧W.heap[w.heap.size+1]? =some (.loop (eA fn a ps assign body w.heap.size .ready none))∧W.heap[w.heap.size]? =some (.deferred (some [])))
   (fun k W=>∃c,Ix c k W∧W.heap[w.heap.size+1]? =some (.loop (eA fn a ps assign body w.heap.size .done (some c)))∧W.heap[w.heap.size]? =some (.deferred (some [])))
   V kB (fun k A B⟨h1,h2,h3⟩hb=>⟨hI k A B none h1 (sK hb) (fun r e=>by cases e),(hb.block _ (Array.getElem?_eq_some_iff.1 h2).1).trans h2,(hb.block _ (Array.getElem?_eq_some_iff.1 h3).1).trans h3⟩) ?round ⟨kI,kL,kD⟩
  case round=>
   rintro k W hk⟨hi,hl,hd⟩
   have hy:=run_yield (P:=P) (args:=mB k) hl (by exact wG k)
   refine⟨fn,_,assign,body,hy,roundIn_of_wpIn Zt (jM _ k W _ hk hi (fun a' W' hkf hkp hi1=>?_))⟩
   have ji:=hkf.same _ _ (by omega) hl rfl
   have hd':=hkf.same _ _ (aG _) hd rfl
   have hlt:w.heap.size+1<W'.heap.size:=(Array.getElem?_eq_some_iff.1 ji).1
   refine⟨_,run_beginRound ji rfl,?_⟩
   obtain⟨U,hU⟩:∃U,W'.putObj (w.heap.size+1) (.loop (eA fn a ps assign body w.heap.size .busy none))=U:=⟨_,rfl⟩
   have uL:U.heap[w.heap.size+1]? =some (.loop (eA fn a ps assign body w.heap.size .busy none)):=by rw[←hU];exact iZ hlt
   have uD:U.heap[w.heap.size]? =some (.deferred (some [])):=by rw[←hU];exact(cH (by omega)).trans hd'
   have uK:Kp W U:=by rw[←hU];exact JP hkp (Kn _ _ _ _ (by omega) ji rfl rfl)
   have uI:I1 a' k U:=by rw[←hU];exact(hI1 a').putObj _ hi1 (by omega) ji rfl
   have FU:∀(j:Option vK)(X:aF),gP w.heap.size U X→
    X.heap[w.heap.size+1]? =some (.loop (eA fn a ps assign body w.heap.size .busy none))∧
    (NK (w.heap.size+1) j).run P X=.ok (aN j.isNone) (X.putObj (w.heap.size+1) (.loop (eA fn a ps assign body w.heap.size (if j.isNone then .ready else .done) j)))∧
    (X.putObj (w.heap.size+1) (.loop (eA fn a ps assign body w.heap.size (if j.isNone then .ready else .done) j))).heap[w.heap.size+1]? =some (.loop (eA fn a ps assign body w.heap.size (if j.isNone then .ready else .done) j))∧
    (X.putObj (w.heap.size+1) (.loop (eA fn a ps assign body w.heap.size (if j.isNone then .ready else .done) j))).heap[w.heap.size]? =some (.deferred (some [])):=by
    intro j X hX
    have xL:=hX.same _ _ (by omega) uL rfl
    exact⟨xL,run_endRound (P:=P) j xL,iZ (Array.getElem?_eq_some_iff.1 xL).1,(cH (by omega)).trans (hX.same _ _ (aG _) uD rfl)⟩
   show Code.wpIn _ _ _ _ _ _ (W'.putObj (w.heap.size+1) (.loop (eA fn a ps assign body w.heap.size .busy none)))
   rw[hU]
   refine Pa (qH _ k a' U hk uI) ?_
   intro e a3 X hp
   have Bl:∀c:vK,gP w.heap.size U X∧Ix c (k+1) X→_:=fun c hc=>(FU (some c) X hc.1)
   cases e with
   |normal=>
    obtain⟨xL,xr,yL,yD⟩:=FU none X hp.1
    exact⟨_,_,xr,.inl ⟨rfl,⟨hI.putObj _ hp.2.2 (by omega) xL rfl,yL,yD⟩,JP (JP uK hp.2.1) (Kn _ _ _ _ (by omega) xL rfl rfl)⟩⟩
   |ret=>
    obtain⟨xL,xr,yL,yD⟩:=Bl .ret hp
    exact⟨_,_,xr,.inr ⟨rfl,.ret,(Cf _).putObj _ hp.2 (by omega) xL rfl,yL,yD⟩⟩
   |exit id=>
    obtain⟨xL,xr,yL,yD⟩:=Bl (.exit id) hp
    exact⟨_,_,xr,.inr ⟨rfl,.exit id,(Cf _).putObj _ hp.2 (by omega) xL rfl,yL,yD⟩⟩
   |goto t=>
    obtain⟨xL,xr,yL,yD⟩:=Bl (.goto t) hp
    exact⟨_,_,xr,.inr ⟨rfl,.goto t,(Cf _).putObj _ hp.2 (by omega) xL rfl,yL,yD⟩⟩
   |panic ch=>exact hp.elim
   |outgrown=>exact hp.elim
  refine uA.mono ?_
  rintro e W2⟨⟨v,rfl⟩,(⟨hi,hl,hd⟩|⟨k,hk,c,hi,hl,hd⟩)⟩
  ·exact⟨none,_,Ki (P:=P) hl (by simp[eA]),oS _ _ (aG _) (hI.putObj _ hi (by omega) hl rfl) ((cH (by omega)).trans hd)⟩
  ·exact⟨some c,_,Ki (P:=P) hl (by simp[eA]),qI _ c k _ (aG _) hk ((Cf c).putObj _ hi (by omega) hl rfl) ((cH (by omega)).trans hd)⟩
theorem KW{g:qV}{ps:Array Tmp}{assign body:vK}{Q:yK→kZ→aF→Prop}{a:kZ}{w:aF}
 {gf:Nat}{lb:Array aS}(hg:a.eval g=.func (.func gf) #[] lb)(eg:∀args w,(uQ gf args).run P w=.ok (.enter gf args) w)
 {mB:Nat→Array aS}{Kp:aF→aF→Prop}{N:Nat}(Bk:Sk dG 8 P gf lb mB Kp N w)
 (JP:∀{A B C:aF},Kp A B→Kp B C→Kp A C)(Kn:∀(W:aF)(l:Nat)(o o':Obj),w.heap.size≤l→W.heap[l]? =some o→o.isCells=false→o.isWalk=false→Kp W (W.putObj l o'))(wG:∀k,(mB k).size=ps.size)
 (I:Nat→aF→Prop)(Ix:vK→Nat→aF→Prop)(hI:rK w.heap.size I)(Cf:∀c,rK w.heap.size (Ix c))(h0:I 0 w)(I1:kZ→Nat→aF→Prop)(hI1:∀a',rK w.heap.size (I1 a'))
 (jM:∀(l:Nat)(k:Nat)(W:aF)(K:kZ→aF→Prop),k<N→I k W→(∀a' W',gP w.heap.size W W'→Kp W W'→I1 a' k W'→K a' W')→
  assign.wpIn (Fence.wide.inRound l) 7 P (Exit.then K (fun _ _ _=>False)) {tmps:=(ps.zip (mB k)).foldl (fun t(p,v)=>t.setIfInBounds p v) a.tmps,defers:=[]} W)
 (qH:∀(l:Nat)(k:Nat)(a':kZ)(W:aF),k<N→I1 a' k W→body.wpIn (Fence.wide.inRound l) 7 P (pJ w.heap.size Kp I Ix (k+1) W) a' W)
 (oS:∀(D:Nat)(W:aF),w.heap.size≤D→I N W→W.heap[D]? =some (.deferred (some []))→Q .normal {a with defers:={target:=.collected D,args:= #[]}::a.defers} W)
 (qI:∀(D:Nat)(c:vK)(k:Nat)(W:aF),w.heap.size≤D→k≤N→Ix c k W→W.heap[D]? =some (.deferred (some []))→c.wp P Q {a with defers:={target:=.collected D,args:= #[]}::a.defers} W):
 (qX g ps assign body).wp P Q a w:=
 (iq (n:=9)).1 (Px (F:=dG) rfl (by decide) hg trivial eg Bk (aH _ _) JP Kn wG I Ix hI Cf h0 I1 hI1 jM qH oS (fun D c k W h1 h2 h3 h4=>wpIn_wide.2 (qI D c k W h1 h2 h3 h4)))
end
end
section
def mD(p:Nat→Bool):Nat→Int
 |0=> -1
 |n+1=>if mD p n= -1 then(if p n=true then(n:Int)else -1)else mD p n
def anyN(p:Nat→Bool):Nat→Bool
 |0=>false
 |n+1=>anyN p n||p n
theorem Ai{p:Nat→Bool}{k:Nat}(h:mD p k= -1)(hp:p k=false):mD p (k+1)= -1:=by rw[mD,ip h,hp];rfl
theorem Aj{p:Nat→Bool}{k:Nat}(h:mD p k= -1)(hp:p k=true):∀{n:Nat},k<n→mD p n=k
 |0,hn=>by omega
 |n+1,hn=>by
  rcases Nat.lt_succ_iff_lt_or_eq.1 hn with h1|rfl
  ·rw[mD,Aj h hp h1,iN (by omega)]
  ·rw[mD,ip h,ip hp]
theorem XZ(p:Nat→Bool):∀n,mD p n= -1∨0≤mD p n
 |0=>.inl rfl
 |n+1=>by
  rw[mD]
  split
  ·split
   ·right;omega
   ·exact .inl rfl
  ·rcases XZ p n with h|h
   ·contradiction
   ·exact .inr h
theorem Ak(p:Nat→Bool):∀n,anyN p n=decide (0≤mD p n)
 |0=>rfl
 |n+1=>by
  rw[anyN,mD,Ak p n]
  rcases XZ p n with h|h
  ·rw[ip h,h]
   cases p n
   ·rfl
   ·simp
  ·rw[iN (by omega),decide_eq_true h,Bool.true_or]
theorem eJ{p:Nat→Bool}:∀{n:Nat},anyN p n=true↔∃k,k<n∧p k=true
 |0=>⟨fun h=>(by cases h),fun⟨k,h,_⟩=>by omega⟩
 |n+1=>by
  rw[anyN,fJ,eJ]
  constructor
  ·rintro(⟨k,h1,h2⟩|h)
   ·exact⟨k,by omega,h2⟩
   ·exact⟨n,by omega,h⟩
  ·rintro⟨k,h1,h2⟩
   rcases Nat.lt_succ_iff_lt_or_eq.1 h1 with h|rfl
   ·exact .inl ⟨k,h,h2⟩
   ·exact .inr h2
theorem dC{p:Nat→Bool}{n:Nat}:anyN p n=false↔∀k,k<n→p k=false:=by
 rw[←Bool.not_eq_true,eJ];constructor
 ·intro h k hk;cases e:p k
  ·rfl
  ·exact absurd ⟨k,hk,e⟩ h
 ·rintro h⟨k,hk,e⟩;rw[h k hk]at e;cases e
theorem gO{p:Nat→Bool}{k:Nat}(h:anyN p k=false)(hp:p k=false):anyN p (k+1)=false:=by rw[anyN,h,hp];rfl
theorem eB{α:Type}{xs:List α}{i:Nat}(h:i<xs.length)(d:α):xs.getD i d∈xs:=by simp[aO,h]
end
section
open Go Go.Lib
def nS(s:List UInt8):List UInt8:=s.takeWhile (·!=47)
def dS(s:List UInt8):List UInt8:=(s.dropWhile (·!=47)).tail
def sL(s:List UInt8):Bool:=s.any (·==47)
theorem yY(c:UInt8)(s:List UInt8)(h:c≠47):nS (c::s)=c::nS s∧dS (c::s)=dS s∧sL (c::s)=sL s:=by
 have h1:(c !=47)=true:=by simpa using h
 have h2:(c==47)=false:=by simpa using h
 simp[nS,dS,sL,h1,h2]
theorem xI(s:List UInt8):nS (47::s)=[]∧dS (47::s)=s∧sL (47::s)=true:=by
 simp[nS,dS,sL]
theorem VM:∀(n d:List UInt8),(∀c∈n,c≠47)→nS (n++47::d)=n∧dS (n++47::d)=d∧sL (n++47::d)=true
 |[],d,_=>xI d
 |c::n,d,h=>by
  obtain⟨h1,h2,h3⟩:=yY c (n++47::d) (h c (oJ ..))
  obtain⟨i1,i2,i3⟩:=VM n d fun x hx=>h x (pX _ hx)
  rw[bZ,h1,h2,h3,i1,i2,i3]
  exact⟨rfl,rfl,rfl⟩
theorem KX:∀(n:List UInt8),(∀c∈n,c≠47)→nS n=n∧dS n=[]∧sL n=false
 |[],_=>⟨rfl,rfl,rfl⟩
 |c::n,h=>by
  obtain⟨h1,h2,h3⟩:=yY c n (h c (oJ ..))
  obtain⟨i1,i2,i3⟩:=KX n fun x hx=>h x (pX _ hx)
  rw[h1,h2,h3,i1,i2,i3]
  exact⟨rfl,rfl,rfl⟩
theorem Al:∀(s:List UInt8),sL s=true→s=nS s++47::dS s
 |[],h=>by cases h
 |c::s,h=>by
  by_cases e:c=47
  ·subst e
   obtain⟨h1,h2,_⟩:=xI s
   rw[h1,h2];rfl
  ·obtain⟨h1,h2,h3⟩:=yY c s e
   rw[h1,h2,bZ,←Al s (by rw[←h3];exact h)]
theorem oV:∀(s:List UInt8),sL s=false→nS s=s∧dS s=[]
 |[],_=>⟨rfl,rfl⟩
 |c::s,h=>by
  by_cases e:c=47
  ·subst e;rw[(xI s).2.2]at h;cases h
  ·obtain⟨h1,h2,h3⟩:=yY c s e
   obtain⟨i1,i2⟩:=oV s (by rw[←h3];exact h)
   rw[h1,h2,i1,i2];exact⟨rfl,rfl⟩
def Sn(s:List UInt8):Bool:=DJ (nS s)&&(!sL s||(pG (dS s)&&dS s !=[48]&&dS s !=[49]))
def yZ(s:List UInt8):Bool:=decide (300<(mag (nS s)).length)||decide (300<(dS s).length)
def qN(s:List UInt8):Int:=fQ (nS s)
def qD(s:List UInt8):Nat:=if sL s=true then num (dS s)else 1
def eH(s:List UInt8):Int:=
 if Sn s=true then(if yZ s=true then 4 else if dR (qN s).natAbs (qD s)=1 then 0 else 11)else 11
def dD(s:List UInt8):Rat:=mkRat (qN s) (qD s)
def bJ(q:Rat):List UInt8:=if q.den=1 then cM q.num else cM q.num++47::dN q.den
theorem So{c:UInt8}(h:eE c=true):c≠47:=by rintro rfl;revert h;decide
theorem BV{l:List UInt8}(h:l.all eE=true):∀c∈l,c≠47:=fun c hc=>So (List.all_eq_true.1 h c hc)
theorem Ed(n:Int):∀c∈cM n,c≠47:=by
 intro c hc;by_cases h:n<0
 ·rw[Ag h]at hc;rcases List.mem_cons.1 hc with rfl|hc
  ·decide
  ·exact BV (mK _) c hc
 ·rw[nK (by omega)]at hc;exact BV (mK _) c hc
theorem pL{s:List UInt8}(h:eH s=0):Sn s=true∧yZ s=false∧dR (qN s).natAbs (qD s)=1:=by
 unfold eH at h;split at h
 ·split at h
  ·cases h
  ·split at h
   ·exact⟨‹_›,by simpa using‹¬yZ s=true›,‹_›⟩
   ·cases h
 ·cases h
theorem jV{s:List UInt8}(h:Sn s=true):DJ (nS s)=true∧(sL s=true→pG (dS s)=true∧dS s≠[48]∧dS s≠[49]):=by
 simp only[Sn,bK,fJ,iH,bne_iff_ne,ne_eq]at h;refine⟨h.1,fun e=>?_⟩;rcases h.2 with h|h
 ·rw[e]at h;cases h
 ·exact⟨h.1.1,h.1.2,h.2⟩
theorem jY{l:List UInt8}(h:pG l=true):l.all eE=true:=by
 simp only[pG,bK]at h;exact h.1.2
theorem Cy{l:List UInt8}(h:pG l=true)(h0:l≠[48]):num l≠0:=by
 intro e;have:=nW l h;rw[e,jO]at this;exact h0 this.symm
theorem uW:dN 1=[49]:=by rw[jX (by decide)];rfl
theorem KY{l:List UInt8}(h:pG l=true)(h0:l≠[49]):num l≠1:=by
 intro e;have:=nW l h;rw[e,uW]at this;exact h0 this.symm
theorem qD_pos{s:List UInt8}(h:Sn s=true):qD s≠0:=by
 unfold qD;split
 ·obtain⟨h1,h2,-⟩:=(jV h).2 ‹_›;exact Cy h1 h2
 ·decide
theorem Nc{n:Int}{d:Nat}(hd:d≠0)(h:dR n.natAbs d=1):(mkRat n d).num=n∧(mkRat n d).den=d:=by
 rw[RI,RJ,iN hd,iN hd,sI,h];exact⟨by simp,by simp⟩
theorem rF{s:List UInt8}(h:eH s=0):(dD s).num=qN s∧(dD s).den=qD s:=
 Nc (qD_pos (pL h).1) (pL h).2.2
theorem Iv{s:List UInt8}(h:eH s=0):bJ (dD s)=s:=by
 obtain⟨h1,h2⟩:=rF h;obtain⟨k1,k2⟩:=jV (pL h).1;rw[bJ,h1,h2,qN,Dj _ k1,qD];by_cases hs:sL s=true
 ·obtain⟨e1,e2,e3⟩:=k2 hs;rw[ip hs,iN (KY e1 e3),nW _ e1];exact(Al s hs).symm
 ·rw[iN hs,ip rfl];exact(oV s (by simpa using hs)).1
theorem okZ_len{n:Int}(h:n.natAbs<10^300):(mag (cM n)).length≤300:=by
 rw[nP,cS _ _ (by decide)];exact h
theorem uF(q:Rat):nS (bJ q)=cM q.num∧qN (bJ q)=q.num∧qD (bJ q)=q.den∧(sL (bJ q)=false→q.den=1)∧(sL (bJ q)=true→dS (bJ q)=dN q.den∧q.den≠1):=by
 unfold bJ;by_cases h:q.den=1
 ·rw[ip h];obtain⟨h1,h2,h3⟩:=KX _ (Ed q.num);refine⟨h1,by rw[qN,h1,iT],by rw[qD,h3,iN (by decide),h],fun _=>h,fun e=>?_⟩;rw[h3]at e;cases e
 ·rw[iN h];obtain⟨h1,h2,h3⟩:=VM _ (dN q.den) (Ed q.num);refine⟨h1,by rw[qN,h1,iT],by rw[qD,h3,ip rfl,h2,jK],fun e=>?_,fun _=>⟨h2,h⟩⟩;rw[h3]at e;cases e
theorem Ga(q:Rat)(h1:q.num.natAbs<10^300)(h2:q.den<10^300):eH (bJ q)=0:=by
 obtain⟨e1,e2,e3,e4,e5⟩:=uF q;have hok:Sn (bJ q)=true:=by
  simp only[Sn,bK,fJ,iH,bne_iff_ne,ne_eq];refine⟨by rw[e1];exact KG _,?_⟩;by_cases hs:sL (bJ q)=true
  ·obtain⟨d1,d2⟩:=e5 hs;right;rw[d1];refine⟨⟨D7 _,fun e=>?_⟩,fun e=>?_⟩
   ·have:=congrArg num e;rw[jK]at this;exact q.den_nz this
   ·have:=congrArg num e;rw[jK]at this;exact d2 this
  ·left;simpa using hs
 have hl:yZ (bJ q)=false:=by
  simp only[yZ,dO,decide_eq_false_iff_not];refine⟨by rw[e1];have:=okZ_len h1;omega,?_⟩;by_cases hs:sL (bJ q)=true
  ·rw[(e5 hs).1];have:=(cS q.den 300 (by decide)).2 h2;omega
  ·rw[(oV _ (by simpa using hs)).2];decide
 rw[eH,ip hok,iN (by rw[hl];decide),e2,e3,ip q.reduced]
theorem jZ(q:Rat):dD (bJ q)=q:=by
 obtain⟨e1,e2,e3,-⟩:=uF q;rw[dD,e2,e3,Rat.mkRat_self]
theorem ns{p q:Rat}(h:bJ p=bJ q):p=q:=by rw[←jZ p,←jZ q,h]
theorem Zz{s:List UInt8}(h:eH s=0):(dD s).num.natAbs<10^300∧(dD s).den<10^300:=by
 obtain⟨h1,h2⟩:=rF h;obtain⟨k0,kl,-⟩:=pL h;obtain⟨k1,k2⟩:=jV k0;simp only[yZ,dO,decide_eq_false_iff_not]at kl;rw[h1,h2];constructor
 ·rw[qN,mC];exact Pm 300 (nZ _ (nM k1)) (by omega)
 ·unfold qD;split
  ·exact Pm 300 (nZ _ (jY (k2 ‹_›).1)) (by omega)
  ·exact one_pow 300 (by decide)
def gC(s t:List UInt8):Int:=if eH s=0 then eH t else eH s
def tS(n:Int):Bool:=decide (n.natAbs<10^300)
def kQ(x y:Rat):Bool:=tS (x.num*y.den)&&tS (y.num*x.den)
def NY(x y:Rat):Bool:=kQ x y&&tS (x.num*y.den+y.num*x.den)&&tS (x.den*y.den)
def K7(x y:Rat):Bool:=kQ x y&&tS (x.num*y.den-y.num*x.den)&&tS (x.den*y.den)
def NZ(x y:Rat):Bool:=tS (x.num*y.num)&&tS (x.den*y.den)
def tG(x y:Rat):Int:=if x<y then -1 else if y<x then 1 else 0
def K8(s t:List UInt8):List UInt8×Int:=if gC s t=0 then(if NY (dD s) (dD t)=true then(bJ (dD s+dD t),0)else([],4))else([],gC s t)
def K9(s t:List UInt8):List UInt8×Int:=if gC s t=0 then(if K7 (dD s) (dD t)=true then(bJ (dD s-dD t),0)else([],4))else([],gC s t)
def La(s t:List UInt8):List UInt8×Int:=if gC s t=0 then(if NZ (dD s) (dD t)=true then(bJ (dD s*dD t),0)else([],4))else([],gC s t)
def Cz(s t:List UInt8):List UInt8×Int:=
 if gC s t=0 then(if dD t=0 then([],12)else if kQ (dD s) (dD t)=true then(bJ (dD s/dD t),0)else([],4))else([],gC s t)
def iE(s t:List UInt8):Int×Int:=if gC s t=0 then(if kQ (dD s) (dD t)=true then(tG (dD s) (dD t),0)else(0,4))else(0,gC s t)
theorem uG{s t:List UInt8}(h:gC s t=0):eH s=0∧eH t=0:=by
 unfold gC at h;split at h
 ·exact⟨‹_›,h⟩
 ·exact absurd h ‹_›
theorem Iw(x y:Rat):mkRat (x.num*y.den+y.num*x.den) (x.den*y.den)=x+y:=(Rat.add_def' x y).symm
theorem Iy(x y:Rat):mkRat (x.num*y.den-y.num*x.den) (x.den*y.den)=x-y:=(Rat.sub_def' x y).symm
theorem Iz(x y:Rat):mkRat (x.num*y.num) (x.den*y.den)=x*y:=(Rat.mul_def' x y).symm
theorem Lb(x y:Rat):Pc (x.num*y.den) (y.num*x.den)=x/y:=by
 have h:x/y=Pc x.num x.den*Pc y.den y.num:=by rw[Rat.div_def,Rat.inv_def,Rat.num_divInt_den]
 rw[h,Rat.divInt_mul_divInt,Int.mul_comm y.num]
theorem Sp(x y:Rat):tG x y=EF (x.num*y.den-y.num*x.den):=by
 have h1:=Rat.lt_iff x y;have h2:=Rat.lt_iff y x;generalize x.num*y.den=a at *;generalize y.num*x.den=b at *;unfold tG EF;by_cases h:x<y
 ·have:=h1.1 h;rw[ip h,ip (by omega)]
 ·have k:¬a<b:=fun e=>h (h1.2 e);have k0:¬a-b<0:=by omega
  rw[iN h,iN k0];by_cases g:y<x
  ·have:=h2.1 g;rw[ip g,ip (by omega)]
  ·have k2:¬b<a:=fun e=>g (h2.2 e);have k3:¬0<a-b:=by omega
   rw[iN g,iN k3]
theorem CA(n:Int)(d:Nat)(hd:d≠0):(mkRat n d).num=n/(dR n.natAbs d:Nat)∧(mkRat n d).den=d/dR n.natAbs d:=by
 rw[RI,RJ,iN hd,iN hd,sI];exact⟨rfl,rfl⟩
def HQ(k:Nat)(q:Rat):Prop:=q.num.natAbs<10^k∧q.den<10^k
theorem HQ.mono{j k:Nat}{q:Rat}(h:HQ j q)(hk:j≤k):HQ k q:=
 ⟨bL h.1 (bO (by decide) hk),bL h.2 (bO (by decide) hk)⟩
theorem Gb(n:Int)(d:Nat)(hd:d≠0):(mkRat n d).num.natAbs≤n.natAbs∧(mkRat n d).den≤d:=by
 obtain⟨h1,h2⟩:=CA n d hd;rw[h1,h2];refine⟨?_,Nat.div_le_self _ _⟩;have hg:((dR n.natAbs d:Nat):Int)∣n:=Int.natAbs_dvd_natAbs.1 (by rw[cA];exact Nat.gcd_dvd_left _ _);have:=Int.ediv_mul_cancel hg;by_cases h0:n=0
 ·subst h0;simp
 ·have hd':(n/((dR n.natAbs d:Nat):Int))∣n:=⟨_,this.symm⟩;exact Nat.le_of_dvd (by omega) (Int.natAbs_dvd_natAbs.2 hd')
theorem nA{x y:Int}{a b:Nat}(h1:x.natAbs<10^a)(h2:y.natAbs<10^b):(x*y).natAbs<10^(a+b):=by
 rw[Int.natAbs_mul,pE];exact De h1 h2
theorem CD{n:Int}{k:Nat}(h:n.natAbs<10^k)(hk:k≤300):tS n=true:=by
 simp only[tS,decide_eq_true_eq];exact Pm 300 h hk
theorem CE{x y:Int}{k:Nat}(h1:x.natAbs<10^k)(h2:y.natAbs<10^k):(x+y).natAbs<10^(k+1):=by
 rw[fC];omega
theorem CF{x y:Int}{k:Nat}(h1:x.natAbs<10^k)(h2:y.natAbs<10^k):(x-y).natAbs<10^(k+1):=by
 rw[fC];omega
section
variable{a b:Nat}{x y:Rat}
theorem HQ.n(h:HQ a x):x.num.natAbs<10^a:=h.1
theorem HQ.d(h:HQ a x):((x.den:Nat):Int).natAbs<10^a:=by rw[cA];exact h.2
theorem HQ.cross(h1:HQ a x)(h2:HQ b y):(x.num*y.den).natAbs<10^(a+b)∧(y.num*x.den).natAbs<10^(a+b):=
 ⟨nA h1.n h2.d,by rw[MI];exact nA h2.n h1.d⟩
theorem HQ.dens(h1:HQ a x)(h2:HQ b y):((x.den:Int)*y.den).natAbs<10^(a+b):=nA h1.d h2.d
theorem uH(h1:HQ a x)(h2:HQ b y)(h:a+b≤300):kQ x y=true:=by
 simp only[kQ,bK];exact⟨CD (h1.cross h2).1 h,CD (h1.cross h2).2 h⟩
theorem Sq(h1:HQ a x)(h2:HQ b y)(h:a+b+1≤300):NY x y=true:=by
 simp only[NY,bK];exact⟨⟨uH h1 h2 (by omega),CD (CE (h1.cross h2).1 (h1.cross h2).2) h⟩,CD (h1.dens h2) (by omega)⟩
theorem Sr(h1:HQ a x)(h2:HQ b y)(h:a+b+1≤300):K7 x y=true:=by
 simp only[K7,bK];exact⟨⟨uH h1 h2 (by omega),CD (CF (h1.cross h2).1 (h1.cross h2).2) h⟩,CD (h1.dens h2) (by omega)⟩
theorem Ss(h1:HQ a x)(h2:HQ b y)(h:a+b≤300):NZ x y=true:=by
 simp only[NZ,bK];exact⟨CD (nA h1.n h2.n) h,CD (h1.dens h2) h⟩
theorem Gc(x y:Rat):x.den*y.den≠0:=Nat.mul_ne_zero x.den_nz y.den_nz
theorem HQ.mk{n:Int}{d k:Nat}(hd:d≠0)(h1:n.natAbs<10^k)(h2:d<10^k):HQ k (mkRat n d):=
 ⟨fO (Gb n d hd).1 h1,fO (Gb n d hd).2 h2⟩
theorem Lc(h1:HQ a x)(h2:HQ b y):x.den*y.den<10^(a+b):=by
 rw[pE];exact De h1.2 h2.2
theorem HQ.add(h1:HQ a x)(h2:HQ b y):HQ (a+b+1) (x+y):=by
 rw[←Iw];exact HQ.mk (Gc x y) (CE (h1.cross h2).1 (h1.cross h2).2) (bL (Lc h1 h2) (bO (by decide) (by omega)))
theorem HQ.sub(h1:HQ a x)(h2:HQ b y):HQ (a+b+1) (x-y):=by
 rw[←Iy];exact HQ.mk (Gc x y) (CF (h1.cross h2).1 (h1.cross h2).2) (bL (Lc h1 h2) (bO (by decide) (by omega)))
theorem HQ.mul(h1:HQ a x)(h2:HQ b y):HQ (a+b) (x*y):=by
 rw[←Iz];exact HQ.mk (Gc x y) (nA h1.n h2.n) (Lc h1 h2)
theorem HQ.inv(h1:HQ a x)(h0:x≠0):HQ a x⁻¹:=by
 have hn:x.num≠0:=fun e=>h0 (Rat.num_eq_zero.1 e);refine⟨?_,?_⟩
 ·rw[Rat.num_inv,Int.natAbs_mul,cA];have:x.num.sign.natAbs≤1:=by rw[Int.natAbs_sign];split <;>omega
  exact fO (eV _ this) (by rw[Nat.one_mul];exact h1.2)
 ·rw[Rat.den_inv,iN hn];exact h1.1
theorem HQ.div(h1:HQ a x)(h2:HQ b y)(h0:y≠0):HQ (a+b) (x/y):=by
 rw[Rat.div_def];exact h1.mul (h2.inv h0)
theorem HQ.int{n:Int}{k:Nat}(h:n.natAbs<10^k)(hk:1≤k):HQ k (n:Rat):=by
 refine⟨by rw[Rat.num_intCast];exact h,?_⟩;rw[Rat.den_intCast];exact bL (by decide:1<10^1) (bO (by decide) hk)
end
theorem HQ.of_length{s:List UInt8}(h:eH s=0){k:Nat}(hk:s.length≤k)(h1:1≤k):HQ k (dD s):=by
 obtain⟨e1,e2⟩:=rF h;obtain⟨k0,-,-⟩:=pL h;obtain⟨k1,k2⟩:=jV k0;have hm:=mL (nS s);refine⟨?_,?_⟩
 ·rw[e1,qN,mC];have hn:(nS s).length≤s.length:=by
   unfold nS;exact(Dh _).length_le
  exact bL (nZ _ (nM k1)) (bO (by decide) (by omega))
 ·rw[e2];unfold qD;split
  ·have hd:=congrArg XI (Al s ‹_›);rw[cP,bF]at hd;exact bL (nZ _ (jY (k2 ‹_›).1)) (bO (by decide) (by omega))
  ·exact bL (by decide:1<10^1) (bO (by decide) h1)
theorem pM{q:Rat}{k:Nat}(h:HQ k q)(hk:k≤300):eH (bJ q)=0:=Ga q (h.mono hk).1 (h.mono hk).2
section
variable{a b:Nat}{x y:Rat}
theorem Gd(h1:HQ a x)(h2:HQ b y)(ha:a≤300)(hb:b≤300):gC (bJ x) (bJ y)=0:=by
 rw[gC,ip (pM h1 ha)];exact pM h2 hb
theorem addQ_T(h1:HQ a x)(h2:HQ b y)(h:a+b+1≤300):K8 (bJ x) (bJ y)=(bJ (x+y),0):=by
 rw[K8,ip (Gd h1 h2 (by omega) (by omega)),jZ,jZ,ip (Sq h1 h2 h)]
theorem subQ_T(h1:HQ a x)(h2:HQ b y)(h:a+b+1≤300):K9 (bJ x) (bJ y)=(bJ (x-y),0):=by
 rw[K9,ip (Gd h1 h2 (by omega) (by omega)),jZ,jZ,ip (Sr h1 h2 h)]
theorem mulQ_T(h1:HQ a x)(h2:HQ b y)(h:a+b≤300):La (bJ x) (bJ y)=(bJ (x*y),0):=by
 rw[La,ip (Gd h1 h2 (by omega) (by omega)),jZ,jZ,ip (Ss h1 h2 h)]
theorem divQ_T(h1:HQ a x)(h2:HQ b y)(h:a+b≤300)(h0:y≠0):Cz (bJ x) (bJ y)=(bJ (x/y),0):=by
 rw[Cz,ip (Gd h1 h2 (by omega) (by omega)),jZ,jZ,iN h0,ip (uH h1 h2 h)]
theorem IA(h1:HQ a x)(h2:HQ b y)(h:a+b≤300):iE (bJ x) (bJ y)=(tG x y,0):=by
 rw[iE,ip (Gd h1 h2 (by omega) (by omega)),jZ,jZ,ip (uH h1 h2 h)]
end
end
section
open Go Go.RowKit
theorem N0{s:ByteArray}(h:s.size=0):pG s.data.toList=false:=by
 have:s.data.toList=[]:=fW h;rw[this];rfl
theorem Dm(s:ByteArray)(h:0<s.size):s.data.toList.head? =some s[0]:=by
 have h':0<s.data.toList.length:=h;rw[List.head?_eq_getElem?,List.getElem?_eq_getElem h'];rfl
theorem St{s:ByteArray}(h:0<s.size)(h0:s[0].toNat=48)(h1:1<s.size):pG s.data.toList=false:=by
 have e:s[0]=48:=UInt8.toNat_inj.1 h0;have hl:(s.data.toList.length==1)=false:=by
  have:s.data.toList.length=s.size:=rfl;simp;omega
 simp only[pG,Dm s h,e,hl];simp
theorem X7{s:ByteArray}{i:Nat}(h:i<s.size)(hd:¬eE s[i]=true):pG s.data.toList=false:=by
 have:s.data.toList.all eE=false:=by
  rw[List.all_eq_false];exact⟨s[i],Pd (xs:=s.data) h,hd⟩
 simp only[pG,this];simp
theorem all_dg{s:ByteArray}(h:∀i(h:i<s.size),0≤i→i<s.size→eE s[i]=true):s.data.toList.all eE=true:=by
 rw[vL];intro x hx;obtain⟨i,hi,rfl⟩:=eU hx;exact h i hi (bN _) hi
theorem Su {s : ByteArray} (h : 0 < s.size) (h0 : ¬ (s[0].toNat = 48 ∧ 1 < s.size)) (hd : ∀ i (h : i < s.size), 0 ≤ i → i < s.size → eE s[i] = true) : pG s.data.toList = true := by
  have ha := all_dg hd
  have jC : s.data.toList.isEmpty = false := by
    cases e : s.data.toList with
    | nil => have : s.data.toList.length = s.size := rfl
             rw [e] at this; simp at this; omega
    | cons _ _ => rfl
  have hl : s.data.toList.length = s.size := rfl
  simp only [pG, ha, jC, Dm s h, hl, vM, kN, fJ, bne_iff_ne, ne_eq, rC, beq_iff_eq]
  by_cases h48 : s[0] = 48
  · right
    by_cases h1 : 1 < s.size
    · exact absurd ⟨by rw [h48]; rfl, h1⟩ h0
    · omega
  · exact .inl h48
theorem Ld(s:ByteArray)(w:aF)(hs:s.size≤dL):
 aW aC 56 #[aA s] w fun e w'=>e=aQ (aN (pG s.data.toList))∧w=w':=by
 unfold dL at hs;by_cases hz:s.size=0
 ·have ho:=zq (N0 hz);have hb:((s.size:Int)==0)=true:=by simp[hz]
  clear hz;go_enter XJ,UK;go_wp2;go_ret;exact⟨FN ho.out.symm,rfl⟩
 ·have hp:0<s.size:=by omega
  have hb:((s.size:Int)==0)=false:=by rw[beq_eq_false_iff_ne];omega
  clear hz;by_cases h1:1<s.size∧s[0].toNat=48
  ·have ho:=zq (St hp h1.2 h1.1);obtain⟨h1,h2⟩:=h1;have h1i:decide ((1:Int)<(s.size:Int))=true:=by simp;omega
   have e2:((s[0].toNat:Int)==48)=true:=by simp[h2]
   clear h2;go_enter XJ,UK;go_wp2;go_ret;exact⟨FN ho.out.symm,rfl⟩
  ·have hg:=zq (fun hd=>Su hp (fun h=>h1 ⟨h.2,h.1⟩) hd);have hR:∀(K:Prop),(1<s.size→((s[0].toNat:Int)==48)=false→K)→(¬1<s.size→K)→K:=by
    intro K k1 k2;by_cases h:1<s.size
    ·have h9:¬s[0].toNat=48:=fun e=>h1 ⟨h,e⟩;exact k1 h (by rw[beq_eq_false_iff_ne];exact fun e=>h9 (Int.ofNat_inj.1 (e:((s[0].toNat:Nat):Int)=((48:Nat):Int))))
    ·exact k2 h
   have HR:=zq hR;clear h1 hR;refine HR.out _ (fun a1 a2=>?_) (fun a1=>?_);all_goals
    clear HR;go_enter XJ,UK;go_wp2;go_loop [3] (fun v=>∃k:Nat,v=aD aE k∧k≤s.size∧bH (∀i(h:i<s.size),0≤i→i<k→eE s[i]=true)) (fun v=>s.size-(aK v).toNat);case atStart=>exact⟨0,rfl,bN _,fun i h h1 h2=>by omega⟩
    case round=>
     obtain⟨k,rfl,hk2,hk3⟩:=hrel;by_cases hk:k<s.size
     ·by_cases hd:eE s[k]=true
      ·have h48:48≤(s[k].toNat:Int)∧(s[k].toNat:Int)≤57:=by simp only[eE,bK,decide_eq_true_eq]at hd;omega
       obtain⟨h48,h57⟩:=h48;have Hd:=zq hd;clear hd;go_wp2;go_round;case rel=>exact⟨k+1,by go_num,by omega,dg_step s 0 k hk3.out Hd.out⟩
       case measure=>(simp only[aK];omega)
      ·have h11:=zq (X7 hk hd);have Hd:=zq hd;clear hd;go_wp2;all_goals first
        |(go_ret;exact⟨FN h11.out.symm,rfl⟩)
        |(exfalso;exact dg_no (by assumption) (by omega) Hd.out)
     ·obtain rfl:k=s.size:=by omega
      have ho:=zq (hg.out hk3.out);go_wp2;go_ret;exact⟨FN ho.out.symm,rfl⟩
theorem Ee(s:ByteArray)(k:Nat)(hk:k<s.size):num (s.data.toList.take (k+1))=num (s.data.toList.take k)*10+(s[k].toNat-48):=by
 have JM:k<s.data.toList.length:=hk;rw[dU JM,KC];rfl
theorem Sv(s:ByteArray)(hd:s.data.toList.all eE=true)(k:Nat):num (s.data.toList.take k)<10^k:=by
 have h1:(s.data.toList.take k).all eE=true:=by
  rw[vL]at hd⊢;exact fun x hx=>hd x (List.mem_of_mem_take hx)
 exact bL (nZ _ h1) (bO (by decide) (List.length_take_le _ _))
theorem Dn(s:ByteArray)(w:aF)(hs:s.size≤18)(hd:s.data.toList.all eE=true):
 aW aC 58 #[aA s] w fun e w'=>e=aQ (iv (num s.data.toList))∧w=w':=by
 have Hd:=zq hd;clear hd;go_enter func58,ntmps58;go_wp2;go_loop [3,4] (fun n i=>∃k:Nat,i=aD aE k∧k≤s.size∧n=aD aE (num (s.data.toList.take k):Nat)) (fun _ i=>s.size-(aK i).toNat);case atStart=>exact⟨0,rfl,bN _,rfl⟩
 case round=>
  obtain⟨k,rfl,hk,rfl⟩:=hrel;by_cases hlt:k<s.size
  ·have hb:=Sv s Hd.out k;have hb17:num (s.data.toList.take k)<10^17:=bL hb (bO (by decide) (by omega));have hst:=zq (Ee s k hlt);have hdg:=ED s Hd.out k hlt;obtain⟨d,NW⟩:∃d:Nat,(s[k].toNat:Int)-48=(d:Int):=⟨s[k].toNat-48,by omega⟩;have q1:IntKind.u8.wrap ((s[k].toNat:Int)-48)=(d:Int):=by rw[NW];exact ma _ (by omega)
   have q2:((s[k].toNat:Int)-48)%256=(d:Int):=by rw[NW];omega
   have hd2:bH (s[k].toNat-48=d):=by show _=_;omega
   have hd9:d≤9:=by omega
   generalize num (s.data.toList.take k)=n at *;have hn:n≤99999999999999999:=by omega
   clear hb hb17 hdg NW;go_wp2;go_round;case rel=>exact⟨k+1,by go_num,by omega,by rw[hst.out,hd2.out];congr 1;omega⟩
   case measure=>simp only[aK];omega
  ·obtain rfl:k=s.size:=by omega
   have ht:bH (num (s.data.toList.take s.size)=num s.data.toList):=by show _=_;rw[fM (show s.data.toList.length≤s.size from aG _)]
   go_wp2;go_ret;exact⟨pI (by rw[ht.out]),rfl⟩
theorem nS_at(l:List UInt8)(k:Nat)(hk:k<l.length)(h:∀i(hi:i<l.length),i<k→l[i]≠47)(h47:l[k]=47):nS l=l.take k∧dS l=l.drop (k+1)∧sL l=true:=by
 have e:l=l.take k++47::l.drop (k+1):=by
  rw[←h47,←AV hk,List.take_append_drop]
 have hm:∀c∈l.take k,c≠47:=by
  intro c hc;obtain⟨i,hi,rfl⟩:=eU hc;rw[fG]at hi;rw[List.getElem_take];exact h i (by omega) (by omega)
 have:=VM (l.take k) (l.drop (k+1)) hm;rwa[←e]at this
theorem VN(l:List UInt8):nS (mag l)=mag (nS l)∧dS (mag l)=dS l∧sL (mag l)=sL l:=by
 cases l with
 |nil=>exact⟨rfl,rfl,rfl⟩
 |cons c r=>
  by_cases h:c=45
  ·subst h;obtain⟨h1,h2,h3⟩:=yY 45 r (by decide);have hm:mag (45::r)=r:=by simp[mag]
   have jj:mag (45::nS r)=nS r:=by simp[mag]
   rw[hm,h1,h2,h3,jj];exact⟨rfl,rfl,rfl⟩
  ·have hm:mag (c::r)=c::r:=by simp[mag,h]
   rw[hm];by_cases h7:c=47
   ·subst h7;obtain⟨h1,-,-⟩:=xI r;rw[h1];exact⟨rfl,rfl,rfl⟩
   ·obtain⟨h1,-,-⟩:=yY c r h7;have jj:mag (c::nS r)=c::nS r:=by simp[mag,h]
    rw[h1,jj];exact⟨rfl,rfl,rfl⟩
abbrev Ge(a:ByteArray):aS:=cC #[aN (fT a),aA (bs (mag (nS a.data.toList))),aA (bs (dS a.data.toList)),aN (sL a.data.toList)]
theorem Js{R:ByteArray}{k:Nat}(hk:k<R.size)(h:∀i(hi:i<R.size),i<k→¬(R[i].toNat:Int)=47)(h47:(R[k].toNat:Int)=47):
 R.extract 0 k=bs (nS R.data.toList)∧R.extract (k+1) R.size=bs (dS R.data.toList)∧sL R.data.toList=true:=by
 obtain⟨h1,h2,h3⟩:=nS_at R.data.toList k hk (fun i hi hik e=>h i hi hik (by
  have:R[i]=47:=e;rw[this];rfl)) (UInt8.toNat_inj.1 (show R[k].toNat=47 by omega))
 refine⟨KM ?_,KM ?_,h3⟩
 ·rw[h1,Lib.extract_data];simp
 ·rw[h2,sJ]
theorem Le{R:ByteArray}(h:∀i(hi:i<R.size),i<R.size→¬(R[i].toNat:Int)=47):nS R.data.toList=R.data.toList∧dS R.data.toList=[]∧sL R.data.toList=false:=by
 refine KX _ fun c hc=>?_;obtain⟨i,hi,rfl⟩:=eU hc;intro e;exact h i hi hi (by
  have:R[i]=47:=e;rw[this];rfl)
theorem wH{fn:Func}{t u v x:Tmp}(h:fn.results= #[.tmp t,.tmp u,.tmp v,.tmp x])(tmps:Array aS)(P:dP)(w:aF):
 (gR fn tmps).run P w=.ok (cC #[tmps.getD t aP,tmps.getD u aP,tmps.getD v aP,tmps.getD x aP]) w:=by
 simp[gR,h]
theorem IB (a:ByteArray) (w:aF) (has:a.size≤dL) :
    aW aC 55 #[aA a] w fun e w' => e=aQ (Ge a)∧∃ n,w' =w.drewN n:=by
  unfold dL at has
  unfold Ge
  by_cases hn:fT a=true
  · have hs:0 < a.size:=by
      rcases fF a.size with h | h
      · exfalso;rw [fT,dif_neg (by omega)] at hn;cases hn
      · exact h
    have h45:((a[0].toNat:Int)==45)=true:=by rw [← FY a hs];exact hn
    have h45n:a[0].toNat=45:=by
      have h9:(a[0].toNat:Int)=45:=by simpa using h45
      omega
    have hf:a.data.toList.head? =some 45:=(KP a hs).2 h45n
    clear h45n
    obtain⟨R,hR⟩:∃ R,a.extract 1 a.size=R:=⟨_,rfl⟩
    have hRm:R.data.toList=mag a.data.toList:=by
      rw [← hR,mag,ip hf,sJ,List.drop_one]
    have hRs:R.size≤a.size:=by
      have e:R.size=R.data.toList.length:=rfl
      rw [e,hRm,mL]
      show a.size - _≤_
      omega
    have HN:bH (fT a=true):=hn
    have HS:bH (bs (mag (nS a.data.toList))=bs (nS R.data.toList)∧bs (dS a.data.toList)=bs (dS R.data.toList)∧sL a.data.toList=sL R.data.toList):=by
      obtain⟨m1,m2,m3⟩:=VN a.data.toList
      rw [hRm,m1,m2,m3]
      exact⟨rfl,rfl,rfl⟩
    clear hn hf hRm
    go_enter func55,ntmps55
    go_wp2
    go_loopw [8] (fun i wr=> ∃ k:Nat,i=aD aE k∧k≤R.size∧bH (∀ i (hi:i < R.size),i < k→¬ (R[i].toNat:Int)=47)∧wr=w) (fun i _=> R.size - (aK i).toNat)
    case atStart=> exact⟨0,rfl,bN _,fun i _ h=> absurd h (Nat.not_lt_zero _),rfl⟩
    case round=>
      obtain⟨k,rfl,hk,nw,rfl⟩:=hrel
      by_cases hlt:k < R.size
      · by_cases h47:(R[k].toNat:Int)=47
        · have HF:=zq (Js hlt nw.out h47)
          have hb47:((R[k].toNat:Int)==47)=true:=by rw [beq_iff_eq];exact h47
          clear h47
          go_wp2
          go_region
          go_wp2
          refine cI (wH D4 _ _ _) rfl ?_
          exact⟨by rw [HN.out,HS.out.1,HS.out.2.1,HS.out.2.2,← HF.out.1,← HF.out.2.1,HF.out.2.2] <;> rfl,_,rfl⟩
        · have hb47:((R[k].toNat:Int)==47)=false:=by rw [beq_eq_false_iff_ne];exact h47
          have Hx:bH (∀ i (hi:i < R.size),i < k + 1→¬ (R[i].toNat:Int)=47):=by
            intro i hi hik
            by_cases e:i=k
            · subst e;exact h47
            · exact nw.out i hi (by omega)
          clear h47
          go_wp2
          go_roundw
          case rel=> exact⟨k + 1,by go_num,by omega,Hx.out,(by first | trivial | rfl)⟩
          case measure=> simp only [aK];omega
      · obtain rfl:k=R.size:=by omega
        have HF:=zq (Le nw.out)
        go_wp2
        refine cI (wH D4 _ _ _) rfl ?_
        exact⟨by rw [HN.out,HS.out.1,HS.out.2.1,HS.out.2.2,HF.out.1,HF.out.2.1,HF.out.2.2,XS] <;> rfl,0,rfl⟩
  · have hb:fT a=false:=by simpa using hn
    have hf:Jp a.data.toList=0:=by rw [Cv,iN hn]
    have hRm:a.data.toList=mag a.data.toList:=by
      rw [mag,iN (by intro e;unfold Jp at hf;rw [ip e] at hf;cases hf)]
    have HN:bH (fT a=false):=hb
    have HS:bH (bs (mag (nS a.data.toList))=bs (nS a.data.toList)):=by
      show _=_
      rw [← (VN a.data.toList).1,← hRm]
    have hd0:0 < a.size→((a[0]!.toNat:Int)==45)=false:=by
      intro h
      rw [FY a h] at hb
      rw [getElem!_pos a 0 h]
      exact hb
    clear hn hf hRm
    by_cases h0:0 < a.size
    all_goals
      try (have h45:((a[0].toNat:Int)==45)=false:=by
             have:=hd0 h0
             rwa [getElem!_pos a 0 h0] at this)
      clear hd0 hb
      go_enter func55,ntmps55
      go_wp2
      go_loopw [8] (fun i wr=> ∃ k:Nat,i=aD aE k∧k≤a.size∧bH (∀ i (hi:i < a.size),i < k→¬ (a[i].toNat:Int)=47)∧wr=w) (fun i _=> a.size - (aK i).toNat)
      case atStart=> exact⟨0,rfl,bN _,fun i _ h=> absurd h (Nat.not_lt_zero _),rfl⟩
      case round=>
        obtain⟨k,rfl,hk,nw,rfl⟩:=hrel
        by_cases hlt:k < a.size
        · by_cases h47:(a[k].toNat:Int)=47
          · have HF:=zq (Js hlt nw.out h47)
            have hb47:((a[k].toNat:Int)==47)=true:=by rw [beq_iff_eq];exact h47
            clear h47
            go_wp2
            go_region
            go_wp2
            refine cI (wH D4 _ _ _) rfl ?_
            exact⟨by rw [HN.out,HS.out,← HF.out.1,← HF.out.2.1,HF.out.2.2] <;> rfl,_,rfl⟩
          · have hb47:((a[k].toNat:Int)==47)=false:=by rw [beq_eq_false_iff_ne];exact h47
            have Hx:bH (∀ i (hi:i < a.size),i < k + 1→¬ (a[i].toNat:Int)=47):=by
              intro i hi hik
              by_cases e:i=k
              · subst e;exact h47
              · exact nw.out i hi (by omega)
            clear h47
            go_wp2
            go_roundw
            case rel=> exact⟨k + 1,by go_num,by omega,Hx.out,(by first | trivial | rfl)⟩
            case measure=> simp only [aK];omega
        · obtain rfl:k=a.size:=by omega
          have HF:=zq (Le nw.out)
          go_wp2
          refine cI (wH D4 _ _ _) rfl ?_
          exact⟨by rw [HN.out,HS.out,HF.out.1,HF.out.2.1,HF.out.2.2,XS] <;> rfl,0,rfl⟩
theorem r02_gcd(x y:Nat)(w:aF)(hx:x≤9223372036854775807)(hy:y≤9223372036854775807):
 aW aC 57 #[iv x,iv y] w fun e w'=>e=aQ (iv (dR x y))∧∃n,w'=w.drewN n:=by
 go_enter func57,ntmps57;go_wp2;go_loopw[0,1] (fun a b wr=>∃X Y:Nat,a=aD aE X∧b=aD aE Y∧X≤9223372036854775807∧Y≤9223372036854775807∧bH (dR X Y=dR x y)∧∃n,wr=w.drewN n)
  (fun _ b _=>(aK b).toNat)
 case atStart=>exact⟨x,y,rfl,rfl,hx,hy,rfl,0,rfl⟩
 case round=>
  obtain⟨X,Y,rfl,rfl,hX,hY,hg,nd,rfl⟩:=hrel;by_cases hy0:Y=0
  ·subst hy0;have hm:bH (dR x y=X):=by
    show _=_;rw[←hg.out,mb]
   clear hg;go_wp2;go_ret;exact⟨pI (by rw[hm.out]),nd,rfl⟩
  ·have hlt:X%Y<Y:=fU _ (by omega);have hgs:bH (dR Y (X%Y)=dR x y):=by
    show _=_;rw[←hg.out,sI X,Nat.gcd_rec Y X,sI]
   obtain⟨R,hR⟩:∃R,X%Y=R:=⟨_,rfl⟩;have hRb:R≤9223372036854775807:=by omega
   have q3:((X:Int))%(Y:Int)=(R:Int):=by rw[←hR,Int.natCast_emod]
   have q1:((X:Int)).tmod (Y:Int)=(R:Int):=(jI (Kk _)).trans q3;have q2:IntKind.i64.wrap (R:Int)=(R:Int):=aX _ (by omega);have q0:((Y:Int) !=0)=true:=by rw[bne_iff_ne];omega
   have q4:¬(Y:Int)=0:=by omega
   rw[hR]at hgs hlt;clear hR hg;go_wp2;go_region;go_wp2;go_roundw;case rel=>exact⟨Y,R,rfl,rfl,hY,hRb,hgs.out,nd+1,rfl⟩
   case measure=>simp only[aK,iF];exact hlt
end
section
open Go Go.RowKit Go.Lib
def Py(m:Bool)(N:List UInt8)(s:Bool)(D:List UInt8):Int:=
 if(pG N&&(!m||N !=[48])&&(!s||(pG D&&D !=[48]&&D !=[49])))=true then
  (if 300<N.length∨300<D.length then 4 else if dR (num N) (if s=true then num D else 1)=1 then 0 else 11)else 11
theorem Do(a:ByteArray):fT a=decide ((nS a.data.toList).head? =some 45):=by
 have h1:fT a=decide (a.data.toList.head? =some 45):=by
  have:=Cv a;unfold Jp at this;by_cases h:a.data.toList.head? =some 45
  ·rw[ip h]at this;by_cases k:fT a=true
   ·simp[h,k]
   ·rw[iN k]at this;cases this
  ·rw[iN h]at this;by_cases k:fT a=true
   ·rw[ip k]at this;cases this
   ·simp[h,k]
 rw[h1];congr 1;cases h:a.data.toList with
 |nil=>rfl
 |cons c r=>
  by_cases h7:c=47
  ·subst h7;rw[(xI r).1];simp
  ·rw[(yY c r h7).1];simp
theorem X8(a:ByteArray):eH a.data.toList=Py (fT a) (mag (nS a.data.toList)) (sL a.data.toList) (dS a.data.toList):=by
 unfold eH Py Sn DJ yZ;rw[Do,qN,mC,qD];have e1:((nS a.data.toList).head? !=some 45||mag (nS a.data.toList) !=[48])=(!decide ((nS a.data.toList).head? =some 45)||mag (nS a.data.toList) !=[48]):=by
  congr 1;by_cases h:(nS a.data.toList).head? =some 45<;>simp[h]
 rw[e1];simp only[fJ,decide_eq_true_eq]
theorem CG(l:List UInt8)(c:List UInt8):((bs l).toList==c)=(l==c):=by rw[cJ];rfl
abbrev Sp2(a X Y:ByteArray)(m s:Bool):Prop:=bH (∀W,aW aC 55 #[aA a] W fun e w'=>e=aQ (cC #[aN m,aA X,aA Y,aN s])∧∃n,w'=W.drewN n)
abbrev Dg2(X:ByteArray)(b:Bool):Prop:=bH (∀W,aW aC 56 #[aA X] W fun e w'=>e=aQ (aN b)∧W=w')
abbrev Ck2(a:ByteArray)(w:aF)(r:Int):Prop:=aW aC 21 #[aA a] w (Rt (aD aE r) w)
theorem zA{p:Prop}(h:p:=by
 delta Ck2;go_enter func21,ntmps21;go_wp2_with fail
 refine(Hsp.out _).mono ?_;rintro e w1⟨rfl,nd,rfl⟩;have hB:=cK (aH w.heap.size w) nd;go_wp2_with fail
 refine(Hx.out _).mono ?_;rintro e w2⟨rfl,rfl⟩;go_wp2;go_ret;exact⟨rfl,by first |exact hB|exact cK (aH _ _) _⟩):p:=h
theorem zS{p:Prop}(h:p:=by
 delta Ck2;go_enter func21,ntmps21;go_wp2_with fail
 refine(Hsp.out _).mono ?_;rintro e w1⟨rfl,nd,rfl⟩;have hB:=cK (aH w.heap.size w) nd;go_wp2_with fail
 refine(Hx.out _).mono ?_;rintro e w2⟨rfl,rfl⟩;go_wp2_with fail
 refine(Hy.out _).mono ?_;rintro e w2⟨rfl,rfl⟩;go_wp2_with fail
 refine(Hs1.out _).mono ?_;rintro e w2⟨rfl,rfl⟩;go_wp2_with fail
 refine(Hs2.out _).mono ?_;rintro e w2⟨rfl,rfl⟩;go_wp2_with fail
 refine(Hg.out _).mono ?_;rintro e w2⟨rfl,nd2,rfl⟩;have hB:=cK hB nd2;go_wp2;go_ret;exact⟨rfl,by first |exact hB|exact cK (aH _ _) _⟩):p:=h
section
abbrev Sm2(X:ByteArray)(P:Nat):Prop:=bH (∀W,aW aC 58 #[aA X] W fun e w'=>e=aQ (iv P)∧W=w')
variable(a X Y:ByteArray)(m:Bool)(w:aF)
theorem EM(hE:bH (iM w))(Hsp:Sp2 a X Y m false)(Hx:Dg2 X true)(x0:m=true→(X.toList==[48])=false)(lx:¬300<(X.size:Int))(ly:¬300<(Y.size:Int)):Ck2 a w 0:=by
 cases m
 ·clear x0;exact zA
 ·have x1:=x0 rfl;clear x0;exact zA
theorem Gf(hE:bH (iM w))(Hsp:Sp2 a X Y m true)(Hx:Dg2 X true)(Hy:Dg2 Y true)(x0:m=true→(X.toList==[48])=false)(y0:(Y.toList==[48])=false)(y1:(Y.toList==[49])=false)(lx:¬300<(X.size:Int))(ly:¬300<(Y.size:Int))(sx:(X.size:Int)≤9)(sy:(Y.size:Int)≤9)(P Q G:Nat)(Hs1:Sm2 X P)(Hs2:Sm2 Y Q)(Hg:bH (∀W,aW aC 57 #[iv P,iv Q] W fun e w'=>e=aQ (iv G)∧∃n,w'=W.drewN n))(g1:((G:Int) !=1)=false):Ck2 a w 0:=by
 cases m
 ·clear x0;exact zS
 ·have x1:=x0 rfl;clear x0;exact zS
end
end
section
open Go
open Go.Lib (hasPrefix trimPrefix)
theorem wI(l:List UInt8):AY l [45]=decide (l.head? =some 45):=by
 cases l with
 |nil=>rfl
 |cons c r=>
  by_cases h:c=45
  ·subst h;rfl
  ·have h':¬(45:UInt8)=c:=fun e=>h e.symm;simp[AY,List.isPrefixOf,h,h']
theorem oW(l:List UInt8):JI l [45]=mag l:=by
 unfold JI mag;rw[wI];by_cases h:l.head? =some 45
 ·rw[ip (by simp[h]),ip h];cases l<;>simp
 ·rw[iN (by simp[h]),iN h]
def IC(l:List UInt8)(k:Nat):Nat:=num (l.drop (l.length-k))
theorem ZA(l:List UInt8):IC l 0=0:=by unfold IC;rw[uS (by omega)];rfl
theorem ny(l:List UInt8):IC l l.length=num l:=by unfold IC;rw[Nat.sub_self,QK]
theorem lowN_lt(l:List UInt8)(h:l.all eE=true)(k:Nat)(hk:k≤l.length):IC l k<10^k:=by
 have:=nZ (l.drop (l.length-k)) (by
  rw[vL]at h⊢;exact fun x hx=>h x (List.mem_of_mem_drop hx))
 rwa[jU,show l.length-(l.length-k)=k by omega]at this
theorem ZB(l:List UInt8)(k:Nat)(hk:k<l.length):IC l (k+1)=((l.getD (l.length-1-k) 0).toNat-48)*10^k+IC l k:=by
 unfold IC;have e:l.length-(k+1)=l.length-1-k:=by omega
 have hi:l.length-1-k<l.length:=by omega
 rw[e,AV hi,KD,jU,show l.length-1-k+1=l.length-k by omega,show l.length-(l.length-k)=k by omega];simp[aO,hi]
theorem Pz{B:Nat}(os:List Nat)(i u:Nat)(hi:i<os.length)(h:cE B os<B^i*u):os.getD i 0<u:=by
 have h1:=mY B os i (by omega);have h2:=gF B os i hi;have h3:B^i*os.getD i 0≤B^i*cE B (os.drop i):=lQ _ (by rw[h2];omega);rcases Nat.lt_or_ge (os.getD i 0) u with h4|h4
 ·exact h4
 ·have:=lQ (B^i) h4;omega
theorem N6(k:Nat):10^k=PB^(k/9)*10^(k%9):=by
 rw[show PB=10^9 from rfl,←Nat.pow_mul,←pE];congr 1;omega
theorem Lf(l:List UInt8)(os:List Nat)(k d u:Nat)(hk:k<l.length)(hi:k/9<os.length)(hv:cE PB os=IC l k)(hd:l.all eE=true)
 (hu:u=10^(k%9))(hdd:(l.getD (l.length-1-k) 0).toNat-48=d)(h9:d≤9):
 os.getD (k/9) 0+d*u<PB∧cE PB (os.set (k/9) (os.getD (k/9) 0+d*u))=IC l (k+1):=by
 have h1:=lowN_lt l hd k (by omega);have h2:os.getD (k/9) 0<u:=Pz (B:=PB) os (k/9) u hi (by rw[hv,hu,←N6];exact h1);have h3:10^(k%9)*10≤PB:=by
  have:k%9<9:=fU _ (by decide);rw[←fC,show PB=10^9 from rfl];exact bO (by decide) (by omega)
 have h4:d*u≤9*u:=eV _ h9;refine⟨by omega,?_⟩;have h5:=FM PB os (k/9) (os.getD (k/9) 0+d*u) hi;rw[Nat.mul_add]at h5;have h6:=ZB l k hk;rw[hdd]at h6;have h7:PB^(k/9)*(d*u)=d*10^k:=by
  rw[hu,N6 k,Nat.mul_left_comm]
 omega
theorem N7{k u:Nat}(h:u=10^(k%9))(h2:(k+1)%9≠0):u*10=10^((k+1)%9):=by
 rw[h,←fC];congr 1;omega
theorem X9{k u:Nat}(h:u=10^(k%9)):u≤100000000:=by
 have:k%9<9:=fU _ (by decide);rw[h];exact Nat.le_trans (bO (by decide) (show k%9≤8 by omega)) (by decide)
theorem nz{k:Nat}(h:k%9=0):1=10^(k%9):=by rw[h]
end
section
open Go
open Go.Lib (trimS trimLeftS trimRightS)
def sM:List UInt8:=[48,49,50,51,52,53,54,55,56,57]
theorem Gg(c:UInt8):sM.contains c=eE c:=by
 rw[Bool.eq_iff_iff];simp only[sM,eE,List.contains_cons,List.contains_nil,Bool.or_false,fJ,beq_iff_eq,bK,decide_eq_true_eq,←UInt8.toNat_inj];simp;omega
theorem VO{α:Type}(p:α→Bool):∀l:List α,l.dropWhile p=[]↔∀x∈l,p x=true
 |[]=>by simp
 |a::l=>by
  rw[Ft]
  by_cases h:p a=true
  ·rw[ip h,VO p l];simp[h]
  ·rw[iN h];simp[h]
theorem Ya{α:Type}(p:α→Bool):∀(l:List α)(c:α)(r:List α),l.dropWhile p=c::r→p c=false
 |[],_,_,h=>by cases h
 |a::l,c,r,h=>by
  rw[Ft]at h
  by_cases k:p a=true
  ·rw[ip k]at h;exact Ya p l c r h
  ·rw[iN k]at h;injection h with h1 h2;subst h1;simpa using k
theorem ob{α:Type}(p:α→Bool):∀(l:List α)(x:α),x∈l.dropWhile p→x∈l
 |[],_,h=>by cases h
 |a::l,x,h=>by
  rw[Ft]at h
  by_cases k:p a=true
  ·rw[ip k]at h;exact pX _ (ob p l x h)
  ·rw[iN k]at h;exact h
theorem Dp(l:List UInt8):trimS l sM=[]↔l.all eE=true:=by
 have hall:(∀x∈l,sM.contains x=true)↔l.all eE=true:=by
  rw[vL];exact forall_congr' fun x=>by rw[Gg]
 rw[←hall];unfold trimS trimLeftS trimRightS;rw[VO];constructor
 ·intro h;cases he:List.dropWhile (fun x=>sM.contains x) l.reverse with
  |nil=>
   rw[VO]at he;exact fun x hx=>he x (List.mem_reverse.2 hx)
  |cons c r=>
   have h1:=Ya _ _ _ _ he;have h2:=h c (List.mem_reverse.2 (by rw[he];exact oJ));rw[h1]at h2;cases h2
 ·intro h x hx;exact h x (List.mem_reverse.1 (ob _ _ _ (List.mem_reverse.1 hx)))
theorem ZC{l:List UInt8}(h:mag l=[]):pW l=11:=by simp[pW,DJ,pG,h]
theorem od{l:List UInt8}(h:(mag l).head? =some 48)(h2:l≠[48]):pW l=11:=by
 by_cases h1:(mag l).length=1
 ·have hm:mag l=[48]:=by
   cases hq:mag l with
   |nil=>rw[hq]at h1;cases h1
   |cons c r=>rw[hq]at h h1;simp at h h1;subst h h1;rfl
  have h3:l.head? =some 45:=by
   by_cases e:l.head? =some 45
   ·exact e
   ·exfalso;apply h2;rw[mag,iN e]at hm;exact hm
  simp[pW,DJ,hm,h3]
 ·simp[pW,DJ,pG,h,h1]
theorem Yb{l:List UInt8}(h:(mag l).all eE=false):pW l=11:=by simp[pW,DJ,pG,h]
theorem Sw{l:List UInt8}(h0:mag l≠[])(h1:(mag l).head?≠some 48∨l=[48])(h2:(mag l).all eE=true):pW l=if 300<(mag l).length then 4 else 0:=by
 have:DJ l=true:=by
  rcases h1 with h1|rfl
  ·have h3:mag l≠[48]:=by intro e;rw[e]at h1;exact h1 rfl
   simp[DJ,pG,h0,h1,h2,h3]
  ·decide
 rw[pW,ip this]
theorem Jt:∀(l:List UInt8)(a:Nat),l.all eE=true→zr a l=some (l.foldl (fun a c=>a*10+(c.toNat-48)) a)
 |[],_,_=>rfl
 |b::r,a,h=>by
  rw[jT,bK]at h
  have hd:mc b=some (b.toNat-48):=by
   have:=h.1;simp only[eE,bK,decide_eq_true_eq]at this;rw[mc,ip this]
  rw[zr,hd,List.foldl_cons];exact Jt r _ h.2
theorem Lg{l:List UInt8}(h:l.all eE=true)(h0:l≠[]):Go.Lib.decNat l=some (num l):=by
 rw[Go.Lib.decNat,iN (by simpa using h0),Jt l 0 h];rfl
theorem Sy{l:List UInt8}(h:DJ l=true):UJ l=some (fQ l):=by
 have hd:=nM h;have hl:=Ey h;cases l with
 |nil=>simp[Jp]at hl
 |cons b r=>
  by_cases h45:b=45
  ·subst h45;have hm:mag (45::r)=r:=by simp[mag]
   rw[hm]at hd;have hr0:r≠[]:=by rintro rfl;simp[Jp]at hl
   rw[UJ,ip (by rfl),Lg hd hr0];simp[fQ,hm]
  ·have hh:(b::r).head?≠some 45:=by simpa using h45
   have hm:mag (b::r)=b::r:=by rw[mag,iN hh]
   rw[hm]at hd;have hb:eE b=true:=by rw[jT,bK]at hd;exact hd.1
   have h43:¬b=43:=by rintro rfl;revert hb;decide
   rw[UJ,iN (by simpa using h45),iN (by simpa using h43),Lg hd (by simp)];simp[fQ,hm,h45]
end
section
open Go Go.Lib
theorem ZD(k:Nat):num (bV k 48)=0:=by
 induction k with
 |zero=>rfl
 |succ k ih=>rw[Y9,KD,ih];simp
theorem Gh(k:Nat):repeatL [48] k=bV k 48:=by
 induction k with
 |zero=>rfl
 |succ k ih=>rw[Y9,←ih];rfl
def Gi(k n:Nat):List UInt8:=bV (k-(dN n).length) 48++dN n
theorem dec_pad{D n k:Nat}(hD:D≠0)(hn:n<10^k)(hk:0<k):dN (D*10^k+n)=dN D++Gi k n:=by
 have hl:=(cS n k hk).2 hn;have oe:(Gi k n).length=k:=by unfold Gi;rw[cP,List.length_replicate];omega
 have hpn:num (Gi k n)=n:=by unfold Gi;rw[Ex,ZD,jK];omega
 have hnum:num (dN D++Gi k n)=D*10^k+n:=by rw[Ex,jK,oe,hpn]
 have hall:(dN D++Gi k n).all eE=true:=by
  rw[DE,mK];unfold Gi;rw[DE,mK];simp only[kN,Bool.and_true];rw[vL];intro x hx;rw[List.eq_of_mem_replicate hx];decide
 have hhead:(dN D++Gi k n).head?≠some 48:=by
  rw[vW (mW D)];exact Co D hD
 have hok:pG (dN D++Gi k n)=true:=by
  simp only[pG,bK,fJ,iH,bne_iff_ne,ne_eq];refine⟨⟨?_,hall⟩,.inl hhead⟩;cases h:dN D++Gi k n with
  |nil=>have:=List.append_eq_nil_iff.1 h;exact absurd this.1 (mW D)
  |cons _ _=>rfl
 rw[←hnum];exact nW _ hok
def yC(xs:List Nat)(j:Nat):List UInt8:=if j<xs.length then dN (cE PB (xs.drop j))else[]
theorem Gj(xs:List Nat)(j:Nat)(h:xs.length≤j):yC xs j=[]:=by rw[yC,iN (by omega)]
theorem Lh(xs:List Nat)(j:Nat)(h:j+1=xs.length):yC xs j=dN (xs.getD j 0):=by
 rw[yC,ip (by omega),gF PB xs j (by omega),uS (by omega)];simp[cE]
theorem N8(xs:List Nat)(j:Nat)(hx:∀x∈xs,x<PB)(h:j+1<xs.length)(Sz:xs.getD (xs.length-1) 0≠0):yC xs j=yC xs (j+1)++Gi 9 (xs.getD j 0):=by
 have hD:cE PB (xs.drop (j+1))≠0:=by
  intro e;rcases fF (xs.drop (j+1)).length with h0|h0
  ·rw[jU]at h0;omega
  ·apply Sz;have hz:=BS (by decide:1≤PB) (xs.drop (j+1)) 0 (xs.length-1-(j+1)) (bN _) (by rw[e];decide);rw[aO,List.getElem?_drop,show j+1+(xs.length-1-(j+1))=xs.length-1 by omega]at hz;rw[aO];exact hz
 rw[yC,ip (by omega),yC,ip (by omega),gF PB xs j (by omega)];have hn:xs.getD j 0<10^9:=iG hx (by decide) j;have:=dec_pad hD hn (by decide);rw[←this,MI,Nat.mul_comm];rfl
theorem SA(xs:List Nat)(h:xs≠[]):yC xs 0=dN (cE PB xs):=by
 rw[yC,ip (by have:=List.length_pos_iff.2 h;omega),QK]
theorem mE(n:Nat):cM (n:Int)=dN n:=by rw[nK (by omega)];rfl
end
section
open Go Go.RowKit Go.Lib
theorem og{m:Bool}{N:List UInt8}{s:Bool}{D:List UInt8}(h:(pG N&&(!m||N !=[48])&&(!s||(pG D&&D !=[48]&&D !=[49])))=false):Py m N s D=11:=by
 rw[Py,iN (by rw[h];decide)]
theorem ZE{m:Bool}{N:List UInt8}{s:Bool}{D:List UInt8}(h:(pG N&&(!m||N !=[48])&&(!s||(pG D&&D !=[48]&&D !=[49])))=true):
 Py m N s D=if 300<N.length∨300<D.length then 4 else if dR (num N) (if s=true then num D else 1)=1 then 0 else 11:=by
 rw[Py,ip h]
theorem VP{l:List UInt8}(h:pG l=true):DJ l=true∧mag l=l∧fQ l=(num l:Int):=by
 have hd:=jY h;have hh:l.head?≠some 45:=by
  intro e;cases l with
  |nil=>cases e
  |cons c r=>
   have:c=45:=by simpa using e
   subst this;rw[jT]at hd;revert hd;simp[eE]
 have hm:mag l=l:=by rw[mag,iN hh]
 refine⟨?_,hm,by rw[fQ,iN hh,hm]⟩;rw[DJ,hm,h];have:(l.head? !=some 45)=true:=by rw[bne_iff_ne];exact hh
 rw[this];rfl
theorem Li(n:Nat):(cM ((n:Nat):Int)==[49])=decide (n=1):=by
 rw[mE];by_cases h:n=1
 ·subst h;rw[uW];decide
 ·rw[show decide (n=1)=false by simpa using h];rw[beq_eq_false_iff_ne];intro e;have:=congrArg num e;rw[jK]at this;exact h this
def dT(s:List UInt8):List UInt8:=if sL s=true then dS s else[49]
theorem nS_sign (a : ByteArray) : nS a.data.toList = if fT a = true then 45 :: mag (nS a.data.toList) else mag (nS a.data.toList) := by
  rw [Do]
  by_cases h : (nS a.data.toList).head? = some 45
  · rw [ip (by simpa using h), mag, ip h]
    cases e : nS a.data.toList with
    | nil => rw [e] at h; cases h
    | cons c r => rw [e] at h; have : c = 45 := by simpa using h
                  subst this; rfl
  · rw [iN (by simpa using h), mag, iN h]
theorem ZF(a:ByteArray)(w:aF)(has:a.size≤8000000):
 aW aC 198 #[aA a] w fun e w'=>e=aQ (cC #[aA (bs (nS a.data.toList)),aA (bs (dT a.data.toList))])∧∃n,w'=w.drewN n:=by
 have Hsp:=zq (IB a w (by simp only[dL];omega));unfold Ge at Hsp;unfold dT;have hns:=nS_sign a;have kK:(mag (nS a.data.toList)).length≤8000000:=by
  have hn:(nS a.data.toList).length≤a.data.toList.length:=by unfold nS;exact(Dh _).length_le
  have:=mL (nS a.data.toList);have hl:a.data.toList.length=a.size:=rfl;omega
 rw[hns];clear hns has;generalize mag (nS a.data.toList)=N at *;generalize dS a.data.toList=D at *;generalize fT a=m at *;generalize sL a.data.toList=s at *;cases m with
 |true=>
  obtain⟨N2,hN2⟩:∃N2,45::N=N2:=⟨_,rfl⟩;have cat:∀W,(Jh .add {data:= #[45]} (bs N)).run aC W=.ok (aA (bs N2)) W:=by rw[←hN2];exact fun W=>tN W [45] N (by decide) (by omega)
  rw[ip rfl,hN2];clear hN2;cases s with
  |true=>
   rw[ip rfl];go_enter Ji,FK;go_wp2_with fail
   refine Hsp.out.mono ?_;rintro e w1⟨rfl,nd,rfl⟩;go_wp2;go_ret2;exact⟨rfl,nd,rfl⟩
  |false=>
   rw[iN (by decide)];go_enter Ji,FK;go_wp2_with fail
   refine Hsp.out.mono ?_;rintro e w1⟨rfl,nd,rfl⟩;go_wp2;go_ret2;exact⟨rfl,nd,rfl⟩
 |false=>
  rw[iN (by decide)];cases s with
  |true=>
   rw[ip rfl];go_enter Ji,FK;go_wp2_with fail
   refine Hsp.out.mono ?_;rintro e w1⟨rfl,nd,rfl⟩;go_wp2;go_ret2;exact⟨rfl,nd,rfl⟩
  |false=>
   rw[iN (by decide)];go_enter Ji,FK;go_wp2_with fail
   refine Hsp.out.mono ?_;rintro e w1⟨rfl,nd,rfl⟩;go_wp2;go_ret2;exact⟨rfl,nd,rfl⟩
theorem N9(n:Int):mkRat n 1=(n:Rat):=by
 apply Rat.ext
 ·rw[RI,iN (by decide),Rat.num_intCast];simp
 ·rw[RJ,iN (by decide),Rat.den_intCast];simp
def sh9(s:List UInt8):Bool:=decide ((mag (nS s)).length≤9)&&decide ((dS s).length≤9)
theorem Yc(a:ByteArray):qN a.data.toList=if fT a=true then -(num (mag (nS a.data.toList)):Int)else(num (mag (nS a.data.toList)):Int):=by
 rw[qN,fQ,Do];by_cases h:(nS a.data.toList).head? =some 45
 ·rw[ip h,ip (by simpa using h)]
 ·rw[iN h,iN (by simpa using h)]
theorem okQ_dg{s:List UInt8}(h:Sn s=true):(mag (nS s)).all eE=true∧(sL s=true→(dS s).all eE=true):=by
 obtain⟨h1,h2⟩:=jV h;exact⟨nM h1,fun e=>jY (h2 e).1⟩
theorem SC{a:ByteArray}(h:eH a.data.toList=0):a.size≤700:=by
 obtain⟨h1,h2,-⟩:=pL h;simp only[yZ,dO,decide_eq_false_iff_not]at h2;have hm:=mL (nS a.data.toList);have hf:Jp (nS a.data.toList)≤1:=by unfold Jp;split <;>omega
 have hl:a.data.toList.length=a.size:=rfl;by_cases hs:sL a.data.toList=true
 ·have e:=congrArg XI (Al _ hs);rw[cP,bF]at e;omega
 ·have e:=congrArg XI (oV _ (by simpa using hs)).1;omega
theorem oh(a:ByteArray)(w:aF)(has:a.size≤dL)(hok:Sn a.data.toList=true)(h:sh9 a.data.toList=true):
 aW aC 200 #[aA a] w fun e w'=>e=aQ (cC #[aD aE (qN a.data.toList),iv (qD a.data.toList),aN true])∧∃n,w'=w.drewN n:=by
 have Hsp:=zq (IB a w has);unfold Ge at Hsp;unfold sh9 at h;obtain⟨dg1,dg2⟩:=okQ_dg hok;rw[Yc,qD];have hwh:sL a.data.toList=false→dS a.data.toList=[]:=fun h=>(oV _ h).2;generalize mag (nS a.data.toList)=N at *;generalize dS a.data.toList=D at *;generalize fT a=m at *;generalize sL a.data.toList=s at *;simp only[bK,decide_eq_true_eq]at h;obtain⟨hN,hD⟩:=h;obtain⟨X,hX⟩:=nm (bs N);obtain⟨Y,hY⟩:=nm (bs D);have e1:X.size=N.length:=by rw[←hX,cZ]
 have e2:Y.size=D.length:=by rw[←hY,cZ]
 have Hx:=zq (fun W=>Dn X W (by omega) (by rw[←hX,bP];exact dg1));have hpb:num N<10^9:=bL (nZ N dg1) (bO (by decide) hN);rw[show num X.data.toList=num N by rw[←hX,bP]]at Hx;have Hy:bH (s=true→∀W,aW aC 58 #[aA Y] W fun e w'=>e=aQ (iv (num D))∧W=w'):=by
  intro hs W;have:=Dn Y W (by omega) (by rw[←hY,bP];exact dg2 hs);rwa[show num Y.data.toList=num D by rw[←hY,bP]]at this
 rw[hX,hY]at Hsp;have h1i:¬(9:Int)<(X.size:Int):=by omega
 have h2i:¬(9:Int)<(Y.size:Int):=by omega
 clear dg1 dg2 hwh hX hY e1 e2 hN hD hok has;generalize num N=P at *;generalize num D=Q at *;have r0:IntKind.i64.wrap (-(P:Int))= -(P:Int):=aX _ (by omega);cases m<;>cases s
 ·rw[iN (by decide),iN (by decide)];go_enter Jj,FL;go_wp2_with fail
  refine Hsp.out.mono ?_;rintro e w1⟨rfl,nd,rfl⟩;go_wp2_with fail
  refine kr (Hx.out _) ?_;go_wp2;go_ret3;exact⟨rfl,nd,rfl⟩
 ·rw[iN (by decide),ip rfl];have HyT:=zq (Hy.out rfl);clear Hy;go_enter Jj,FL;go_wp2_with fail
  refine Hsp.out.mono ?_;rintro e w1⟨rfl,nd,rfl⟩;go_wp2_with fail
  refine kr (Hx.out _) ?_;go_wp2_with fail
  refine kr (HyT.out _) ?_;go_wp2;go_ret3;exact⟨rfl,nd,rfl⟩
 ·rw[ip rfl,iN (by decide)];go_enter Jj,FL;go_wp2_with fail
  refine Hsp.out.mono ?_;rintro e w1⟨rfl,nd,rfl⟩;go_wp2_with fail
  refine kr (Hx.out _) ?_;go_wp2;go_ret3;exact⟨rfl,nd,rfl⟩
 ·rw[ip rfl,ip rfl];have HyT:=zq (Hy.out rfl);clear Hy;go_enter Jj,FL;go_wp2_with fail
  refine Hsp.out.mono ?_;rintro e w1⟨rfl,nd,rfl⟩;go_wp2_with fail
  refine kr (Hx.out _) ?_;go_wp2_with fail
  refine kr (HyT.out _) ?_;go_wp2;go_ret3;exact⟨rfl,nd,rfl⟩
theorem EO{s:List UInt8}(h:eH s=0):nS s=cM (dD s).num:=by
 obtain⟨h1,-⟩:=jV (pL h).1;rw[(rF h).1,qN,Dj _ h1]
theorem EQ{s:List UInt8}(h:eH s=0):dT s=cM (((dD s).den:Nat):Int):=by
 obtain⟨-,h2⟩:=jV (pL h).1;rw[(rF h).2,mE,dT,qD];by_cases hs:sL s=true
 ·rw[ip hs,ip hs,nW _ (h2 hs).1]
 ·rw[iN hs,iN hs,uW]
theorem uJ{n:Int}(h:n.natAbs<10^300):pW (cM n)=0:=Zn.2 ⟨n,rfl,h⟩
theorem ZG{x y:Int}(hx:x.natAbs<10^300)(hy:y.natAbs<10^300):Sc (cM x) (cM y)=nL (x*y):=by
 rw[Sc,ip (by rw[fX,ip (uJ hx)];exact uJ hy),iT,iT]
theorem ZH{x y:Int}(hx:x.natAbs<10^300)(hy:y.natAbs<10^300):Sb (cM x) (cM y)=nL (x+y):=by
 rw[Sb,ip (by rw[fX,ip (uJ hx)];exact uJ hy),iT,iT]
theorem ZI{x y:Int}(hx:x.natAbs<10^300)(hy:y.natAbs<10^300):Se (cM x) (cM y)=(EF (x-y),0):=by
 rw[Se,ip (by rw[fX,ip (uJ hx)];exact uJ hy),iT,iT]
theorem ZJ{x y:Int}(hx:x.natAbs<10^300)(hy:y.natAbs<10^300):Ps (cM x) (cM y)=(cM ((dR x.natAbs y.natAbs:Nat):Int),0):=by
 rw[Ps,ip (by rw[fX,ip (uJ hx)];exact uJ hy),iT,iT]
theorem ZK{x y:Int}(hx:x.natAbs<10^300)(hy:y.natAbs<10^300)(h0:y≠0):JQ (cM x) (cM y)=(cM (x.fdiv y),cM (x.fmod y),0):=by
 rw[XX (by rw[fX,ip (uJ hx)];exact uJ hy) (by rw[iT];exact h0),iT,iT]
theorem Dq{n:Int}(h:tS n=true):nL n=(cM n,0):=by rw[nL,ip (of_decide_eq_true h)]
theorem Dt{n:Int}(h:tS n=false):nL n=([],4):=by rw[nL,iN (of_decide_eq_false h)]
theorem iU{n:Int}(h:n.natAbs<10^300):(bs (cM n)).size≤301:=by
 rw[cZ];exact KR (uJ h)
theorem VQ{z:Int}(h:0<z):45::cM z=cM (-z):=by
 have e1:cM (-z)=45::dN (-z).natAbs:=Ag (by omega);have e2:cM z=dN z.natAbs:=nK (by omega);rw[e1,e2,Pe]
theorem Ef(z:Int):(cM z==[48])=decide (z=0):=by
 by_cases h:z=0
 ·subst h;rw[show(0:Int)=((0:Nat):Int)from rfl,mE,jO];decide
 ·rw[decide_eq_false h,beq_eq_false_iff_ne];intro e;have:=congrArg fQ e;rw[iT]at this;exact h (this.trans (by decide))
def EU(x y:Int):Int:=if y<0 then -x else x
theorem uM:bJ 0=[48]:=by
 rw[bJ,ip (show(0:Rat).den=1 from rfl)];exact(mE 0).trans jO
theorem Nd(q:Rat):(bJ q==[48])=decide (q.num=0):=by
 by_cases h:q.num=0
 ·have:q=0:=Rat.num_eq_zero.1 h;subst this;rw[uM];decide
 ·rw[decide_eq_false h,beq_eq_false_iff_ne];intro e;rw[←uM]at e;exact h (by rw[ns e];rfl)
theorem ZL(q:Rat):fT (bs (bJ q))=decide (q.num<0):=by
 rw[Do,bP,(uF q).1];by_cases h:q.num<0
 ·rw[decide_eq_true h,(wQ q.num).2 h];rfl
 ·rw[decide_eq_false h];exact decide_eq_false (mt (wQ q.num).1 h)
theorem Oa{q:Rat}(h1:q.num.natAbs<10^300)(h2:q.den<10^300):1≤(bs (bJ q)).size∧(bs (bJ q)).size≤700:=by
 refine⟨?_,SC (by rw[show(bs (bJ q)).data.toList=bJ q from rfl];exact Ga q h1 h2)⟩;rw[cZ,bJ];have:=Ey (KG q.num);split
 ·omega
 ·rw[cP];omega
def shR(x:Rat):Bool:=decide (x.num.natAbs<10^9)&&decide (x.den<10^9)
theorem ol(x:Rat):sh9 (bJ x)=shR x:=by
 obtain⟨h1,-,-,h4,h5⟩:=uF x;unfold sh9 shR;rw[h1,nP];congr 1
 ·exact decide_eq_decide.2 (cS _ 9 (by decide))
 ·by_cases hs:sL (bJ x)=true
  ·rw[(h5 hs).1];exact decide_eq_decide.2 (cS _ 9 (by decide))
  ·rw[h4 (by simpa using hs),(oV _ (by simpa using hs)).2];decide
theorem chkQ_T{x:Rat}(h:HQ 300 x):eH (bJ x)=0:=Ga x h.1 h.2
theorem Lj(x:Rat)(w:aF)(h:HQ 300 x)(hs:shR x=true):
 aW aC 200 #[aA (bs (bJ x))] w fun e w'=>e=aQ (cC #[aD aE x.num,iv x.den,aN true])∧∃n,w'=w.drewN n:=by
 have s:=(Oa h.1 h.2).2;have:=oh (bs (bJ x)) w (by simp only[dL];omega) (pL (chkQ_T h)).1 (by rw[show(bs (bJ x)).data.toList=bJ x from rfl,ol];exact hs);rw[show(bs (bJ x)).data.toList=bJ x from rfl,(uF x).2.1,(uF x).2.2.1]at this;exact this
def ZM(x y:Rat):List UInt8×Int:=if NY x y=true then(bJ (x+y),0)else([],4)
theorem nX{a:ByteArray}(h:eH a.data.toList=0):a=bs (bJ (dD a.data.toList))∧HQ 300 (dD a.data.toList):=
 ⟨KM (Iv h).symm,Zz h⟩
theorem ZN{s t:List UInt8}(h:gC s t=0):K8 s t=ZM (dD s) (dD t):=by rw[K8,ip h];rfl
theorem okZ_neg(n:Int):tS (-n)=tS n:=by rw[tS,tS,Pe]
theorem SD(x y:Rat):ZM x (-y)=if K7 x y=true then(bJ (x-y),0)else([],4):=by
 have e1:(-y).num= -y.num:=rfl;have e2:(-y).den=y.den:=rfl;rw[ZM,NY,K7,kQ,kQ,e1,e2,Int.neg_mul,okZ_neg,←Int.sub_eq_add_neg,←Rat.sub_eq_add_neg]
theorem ZO{s t:List UInt8}(h:gC s t=0):K9 s t=ZM (dD s) (-(dD t)):=by rw[K9,ip h,SD]
def Nf(x y:Rat):List UInt8×Int:=if NZ x y=true then(bJ (x*y),0)else([],4)
theorem ZP{s t:List UInt8}(h:gC s t=0):La s t=Nf (dD s) (dD t):=by rw[La,ip h];rfl
theorem VR(x y:Rat):mkRat (EU (x.num*y.num) ((x.den:Int)*y.den)) ((x.den:Int)*y.den).natAbs=x*y:=by
 have h1:(0:Int)≤(x.den:Int)*y.den:=Int.mul_nonneg (by omega) (by omega);rw[EU,iN (by omega),←Iz];congr 1
theorem SG(a b:Int):mkRat (EU a b) b.natAbs=Pc a b:=by
 by_cases h:b<0
 ·obtain⟨d,rfl⟩:∃d:Nat,b= -(d:Int):=⟨(-b).toNat,by omega⟩;rw[EU,ip h,Rat.divInt_neg',Rat.divInt_ofNat,Pe,cA]
 ·obtain⟨d,rfl⟩:∃d:Nat,b=(d:Int):=⟨b.toNat,by omega⟩;rw[EU,iN h,cA,Rat.divInt_ofNat]
def divT(x y:Rat):List UInt8×Int:=if kQ x y=true then(bJ (x/y),0)else([],4)
def Ng(x y:Rat):Int×Int:=if kQ x y=true then(tG x y,0)else(0,4)
theorem ZQ{s t:List UInt8}(h:gC s t=0):iE s t=Ng (dD s) (dD t):=by rw[iE,ip h];rfl
end
section
open Go Go.Lib
def nI(s:List UInt8):Option (Nat×List UInt8):=
 if pG (s.takeWhile eE)=true∧(s.takeWhile eE).length≤8 then some (num (s.takeWhile eE),s.dropWhile eE)else none
def PA(n:Nat)(r:List UInt8):Option Nat:=
 match nI r with
 |some (d,[])=>if 2≤d∧dR n d=1 then some d else none
 |_=>none
def Am(m:Bool)(o:List UInt8):Option (Nat×Nat):=
 match nI o with
 |none=>none
 |some (n,rest)=>
  if m=true∧n=0 then none else
  match rest with
  |[]=>some (n,1)
  |c::r=>if c=47 then(PA n r).map fun d=>(n,d)else none
theorem tw_all{l:List UInt8}(h:l.all eE=true)(r:List UInt8):(l++47::r).takeWhile eE=l∧(l++47::r).dropWhile eE=47::r:=by
 induction l with
 |nil=>exact⟨rfl,rfl⟩
 |cons c l ih=>
  rw[jT,bK]at h;obtain⟨h1,h2⟩:=ih h.2;simp[h.1,h1,h2]
theorem Yd{l:List UInt8}(h:l.all eE=true):l.takeWhile eE=l∧l.dropWhile eE=[]:=by
 induction l with
 |nil=>exact⟨rfl,rfl⟩
 |cons c l ih=>
  rw[jT,bK]at h;obtain⟨h1,h2⟩:=ih h.2;simp[h.1,h1,h2]
theorem VU{l:List UInt8}(h:l.all eE=false)(r:List UInt8):∃c t,(l++r).dropWhile eE=c::t∧eE c=false∧c∈l:=by
 induction l with
 |nil=>cases h
 |cons c l ih=>
  by_cases hc:eE c=true
  ·rw[jT,hc,kN]at h;obtain⟨x,t,e,h1,h2⟩:=ih h;exact⟨x,t,by simp[hc,e],h1,pX _ h2⟩
  ·exact⟨c,l++r,by simp[hc],by simpa using hc,oJ ..⟩
theorem num_two{D:List UInt8}(h:pG D=true):(D≠[48]∧D≠[49])↔2≤num D:=by
 constructor
 ·rintro⟨a,b⟩;have:=Cy h a;have:=KY h b;omega
 ·intro k;refine⟨?_,?_⟩<;>(rintro rfl;revert k;decide)
theorem natD_eq(n:Nat)(D:List UInt8):PA n D=if pG D=true∧D≠[48]∧D≠[49]∧D.length≤8∧dR n (num D)=1 then some (num D)else none:=by
 unfold PA nI;by_cases ha:D.all eE=true
 ·obtain⟨e1,e2⟩:=Yd ha;rw[e1,e2];by_cases h:pG D=true∧D.length≤8
  ·rw[ip h];have:=num_two h.1;by_cases k:2≤num D∧dR n (num D)=1
   ·have k2:=this.2 k.1;simp only[];rw[ip k,ip ⟨h.1,k2.1,k2.2,h.2,k.2⟩]
   ·simp only[];rw[iN k,iN (fun c=>k ⟨this.1 ⟨c.2.1,c.2.2.1⟩,c.2.2.2.2⟩)]
  ·rw[iN h,iN (fun c=>h ⟨c.1,c.2.2.2.1⟩)]
 ·have ha:D.all eE=false:=by simpa using ha
  obtain⟨c,t,e,h1,h2⟩:=VU ha [];rw[pP]at e;have hn:pG D=false:=by simp[pG,ha]
  rw[e];refine Eq.trans (b:=none) ?_ (Eq.symm (iN fun c=>by rw[hn]at c;exact absurd c.1 (by decide)));by_cases q:pG (D.takeWhile eE)=true∧(D.takeWhile eE).length≤8
  ·rw[ip q]
  ·rw[iN q]
theorem natP_eq(m:Bool)(o:List UInt8):
 Am m o=if Py m (nS o) (sL o) (dS o)=0∧(nS o).length≤8∧(dS o).length≤8 then some (num (nS o),if sL o=true then num (dS o)else 1)else none:=by
 have kK:(nS o).length≤8→(dS o).length≤8→¬(300<(nS o).length∨300<(dS o).length):=by omega
 have hz:∀{N:List UInt8},pG N=true→(num N=0↔N=[48]):=fun h=>⟨fun e=>vD fun k=>Cy h k e,fun e=>by subst e;rfl⟩;by_cases hs:sL o=true
 ·have ho:=Al o hs;have hN:∀c∈nS o,c≠47:=fun c hc k=>by
   have:=List.all_eq_true.1 (List.all_takeWhile (p:=fun c:UInt8=>c !=47) (l:=o)) c hc;rw[k]at this;revert this;decide
  rw[hs];generalize nS o=N at *;generalize dS o=D at *;subst ho;unfold Am nI Py;by_cases ha:N.all eE=true
  ·obtain⟨e1,e2⟩:=tw_all ha D;rw[e1,e2];by_cases h:pG N=true∧N.length≤8
   ·rw[ip h];have hz:=hz h.1;simp only[if_true,natD_eq];by_cases k:m=true∧num N=0
    ·rw[ip k,iN];rintro⟨c,-⟩;rw[iN (by rw[hz.1 k.2,k.1];simp)]at c;cases c
    ·rw[iN k];by_cases g:pG D=true∧D≠[48]∧D≠[49]∧D.length≤8∧dR (num N) (num D)=1
     ·rw[ip g,ip]
      ·rfl
      ·refine⟨?_,h.2,g.2.2.2.1⟩;have hm:(!m||N !=[48])=true:=by
        cases m
        ·rfl
        ·have:N≠[48]:=fun e=>k ⟨rfl,hz.2 e⟩;simpa using this
       rw[ip (by simp[h.1,hm,g.1,g.2.1,g.2.2.1]),iN (kK h.2 g.2.2.2.1),ip g.2.2.2.2]
     ·rw[iN g,iN]
      ·rfl
      ·rintro⟨c,c2,c3⟩;split at c
       ·rename_i q;rw[iN (kK c2 c3)]at c;split at c
        ·rename_i r;simp only[bK,fJ,bne_iff_ne,ne_eq,Bool.not_true,Bool.false_eq_true,false_or]at q;exact g ⟨q.2.1.1,q.2.1.2,q.2.2,c3,r⟩
        ·cases c
       ·cases c
   ·rw[iN h,iN];rintro⟨c,c2,-⟩;split at c
    ·rename_i q;simp only[bK]at q;exact h ⟨q.1.1,c2⟩
    ·cases c
  ·have ha:N.all eE=false:=by simpa using ha
   obtain⟨c,t,e,h1,h2⟩:=VU ha (47::D);have hn:pG N=false:=by simp[pG,ha]
   have hc:c≠47:=hN c h2;rw[e];refine Eq.trans (b:=none) ?_ (Eq.symm (iN fun k=>by have:=k.1;rw[iN (by simp[hn])]at this;cases this));by_cases q:pG ((N++47::D).takeWhile eE)=true∧((N++47::D).takeWhile eE).length≤8
   ·rw[ip q];simp[hc]
   ·rw[iN q]
 ·have hs:sL o=false:=by simpa using hs
  obtain⟨e1,e2⟩:=oV o hs;rw[hs,e1,e2];unfold Am nI Py;by_cases ha:o.all eE=true
  ·obtain⟨g1,g2⟩:=Yd ha;rw[g1,g2];by_cases h:pG o=true∧o.length≤8
   ·rw[ip h];have hz:=hz h.1;simp only[];by_cases k:m=true∧num o=0
    ·rw[ip k,iN];rintro⟨c,-⟩;rw[iN (by rw[hz.1 k.2,k.1];simp)]at c;cases c
    ·have hm:(!m||o !=[48])=true:=by
      cases m
      ·rfl
      ·have:o≠[48]:=fun e=>k ⟨rfl,hz.2 e⟩;simpa using this
     rw[iN k,ip]
     ·rfl
     ·refine⟨?_,h.2,by simp⟩;rw[ip (by simp[h.1,hm]),iN (by simp;omega),ip (by simp)]
   ·rw[iN h,iN];rintro⟨c,c2,-⟩;split at c
    ·rename_i q;simp only[bK]at q;exact h ⟨q.1.1,c2⟩
    ·cases c
  ·have ha:o.all eE=false:=by simpa using ha
   obtain⟨c,t,e,h1,h2⟩:=VU ha [];rw[pP]at e;have hn:pG o=false:=by simp[pG,ha]
   have hc:c≠47:=fun k=>by
    subst k;have:sL o=true:=List.any_eq_true.2 ⟨47,h2,by decide⟩;rw[hs]at this;cases this
   rw[e];refine Eq.trans (b:=none) ?_ (Eq.symm (iN fun k=>by have:=k.1;rw[iN (by simp[hn])]at this;cases this));by_cases q:pG (o.takeWhile eE)=true∧(o.takeWhile eE).length≤8
   ·rw[ip q];simp[hc]
   ·rw[iN q]
def sh8(s:List UInt8):Bool:=decide ((mag (nS s)).length≤8)&&decide ((dS s).length≤8)
def nB(s:List UInt8):Bool:=decide (eH s=0)&&sh8 s
theorem VV(a:ByteArray):Am (fT a) (mag a.data.toList)=if nB a.data.toList=true then some (num (mag (nS a.data.toList)),qD a.data.toList)else none:=by
 obtain⟨e1,e2,e3⟩:=VN a.data.toList;rw[natP_eq,e1,e2,e3,←X8];unfold nB sh8 qD;simp only[bK,decide_eq_true_eq]
end
section
open Go Go.RowKit Go.Lib
theorem Ye(x y:Nat)(w:aF)(hx:x≤9223372036854775807)(hy:y≤9223372036854775807):
 aW aC 263 #[iv x,iv y] w fun e w'=>e=aQ (iv (dR x y))∧∃n,w'=w.drewN n:=by
 go_enter func263,ntmps263;go_wp2;go_loopw[0,1] (fun a b wr=>∃X Y:Nat,a=aD aE X∧b=aD aE Y∧X≤9223372036854775807∧Y≤9223372036854775807∧bH (dR X Y=dR x y)∧∃n,wr=w.drewN n)
  (fun _ b _=>(aK b).toNat)
 case atStart=>exact⟨x,y,rfl,rfl,hx,hy,rfl,0,rfl⟩
 case round=>
  obtain⟨X,Y,rfl,rfl,hX,hY,hg,nd,rfl⟩:=hrel;by_cases hy0:Y=0
  ·subst hy0;have hm:bH (dR x y=X):=by
    show _=_;rw[←hg.out,mb]
   clear hg;go_wp2;go_ret;exact⟨pI (by rw[hm.out]),nd,rfl⟩
  ·have hlt:X%Y<Y:=fU _ (by omega);have hgs:bH (dR Y (X%Y)=dR x y):=by
    show _=_;rw[←hg.out,sI X,Nat.gcd_rec Y X,sI]
   obtain⟨R,hR⟩:∃R,X%Y=R:=⟨_,rfl⟩;have hRb:R≤9223372036854775807:=by omega
   have q3:((X:Int))%(Y:Int)=(R:Int):=by rw[←hR,Int.natCast_emod]
   have q1:((X:Int)).tmod (Y:Int)=(R:Int):=(jI (Kk _)).trans q3;have q2:IntKind.i64.wrap (R:Int)=(R:Int):=aX _ (by omega);have q0:((Y:Int) !=0)=true:=by rw[bne_iff_ne];omega
   have q4:¬(Y:Int)=0:=by omega
   rw[hR]at hgs hlt;clear hR hg;go_wp2;go_region;go_wp2;go_roundw;case rel=>exact⟨Y,R,rfl,rfl,hY,hRb,hgs.out,nd+1,rfl⟩
   case measure=>simp only[aK,iF];exact hlt
def nIv(l:List UInt8):aS:=
 match nI l with
 |some (n,r)=>cC #[iv n,aA (bs r),aN true]
 |none=>cC #[aD aE 0,aA (bs []),aN false]
theorem tw_at(l:List UInt8)(k:Nat)(h1:(l.take k).all eE=true)(h2:∀h:k<l.length,¬eE l[k]=true):l.takeWhile eE=l.take k∧l.dropWhile eE=l.drop k:=by
 induction l generalizing k with
 |nil=>simp
 |cons c l ih=>
  cases k with
  |zero=>
   have:=h2 (by simp);simp only[List.getElem_cons_zero]at this;simp[this]
  |succ k=>
   rw[Za,jT,bK]at h1;obtain⟨e1,e2⟩:=ih k h1.2 fun h=>by
    have:=h2 (by simpa using h);rwa[List.getElem_cons_succ]at this
   simp[h1.1,e1,e2]
theorem tw_ge(l:List UInt8)(k:Nat)(hk:k≤l.length)(h1:(l.take k).all eE=true):k≤(l.takeWhile eE).length:=by
 induction l generalizing k with
 |nil=>simp at hk;omega
 |cons c l ih=>
  cases k with
  |zero=>omega
  |succ k=>
   rw[Za,jT,bK]at h1;rw[List.takeWhile_cons_of_pos h1.1,bF];have:=ih k (by simpa using hk) h1.2;omega
theorem nI_none{s:ByteArray}{k:Nat}(hk:k≤s.size)(h1:(s.data.toList.take k).all eE=true)(h2:8<k∨∀h:k<s.size,¬eE s[k]=true)
 (h:k=0∨8<k∨(1<k∧∃h:0<s.size,s[0].toNat=48)):nI s.data.toList=none:=by
 have JM:k≤s.data.toList.length:=hk;unfold nI;rw[iN];rintro⟨a,b⟩;by_cases h8:8<k
 ·have:=tw_ge _ k JM h1;omega
 ·have h2:∀h:k<s.size,¬eE s[k]=true:=by
   rcases h2 with h2|h2
   ·omega
   ·exact h2
  obtain⟨e1,-⟩:=tw_at s.data.toList k h1 (fun h=>h2 h);rw[e1]at a;rcases h with h|h|⟨h,h0,h48⟩
  ·subst h;revert a;simp[pG]
  ·omega
  ·have e:(s.data.toList.take k).head? =some 48:=by
    rw[List.head?_take,iN (by omega),Dm s h0];congr 1;exact UInt8.toNat_inj.1 h48
   have hl:(s.data.toList.take k).length=k:=by rw[fG];omega
   simp only[pG,e,hl,bK,fJ,bne_iff_ne,ne_eq,beq_iff_eq]at a;have:=a.2;simp at this;omega
theorem nI_some{s:ByteArray}{k:Nat}(hk:k≤s.size)(h1:(s.data.toList.take k).all eE=true)(h2:∀h:k<s.size,¬eE s[k]=true)(h0:0<k)(h8:k≤8)
 (h:¬(1<k∧∃h:0<s.size,s[0].toNat=48)):nI s.data.toList=some (num (s.data.toList.take k),s.data.toList.drop k):=by
 have JM:k≤s.data.toList.length:=hk;obtain⟨e1,e2⟩:=tw_at s.data.toList k h1 (fun h=>h2 h);have hl:(s.data.toList.take k).length=k:=by rw[fG];omega
 unfold nI;rw[e1,e2,ip];refine⟨?_,by omega⟩;have e:(s.data.toList.take k).head? =some s[0]:=by rw[List.head?_take,iN (by omega),Dm s (by omega)]
 have jC:(s.data.toList.take k).isEmpty=false:=by
  rw[List.isEmpty_eq_false_iff];intro c;rw[c]at hl;simp at hl;omega
 simp only[pG,e,hl,h1,jC,vM,kN,fJ,bne_iff_ne,ne_eq,rC,beq_iff_eq];by_cases h48:s[0]=48
 ·right;by_cases h1:1<k
  ·exact absurd ⟨h1,by omega,by rw[h48];rfl⟩ h
  ·omega
 ·exact .inl h48
theorem Eg{s:ByteArray}{k:Nat}(hk:k<s.size)(h1:(s.data.toList.take k).all eE=true)(hd:eE s[k]=true):(s.data.toList.take (k+1)).all eE=true:=by
 rw[dU (show k<s.data.toList.length from hk),DE,h1];show(true&&(eE s[k]&&true))=true;rw[hd];rfl
theorem Eh(s:ByteArray)(w:aF)(hs:s.size≤dL):
 aW aC 262 #[aA s] w fun e w'=>e=aQ (nIv s.data.toList)∧∃n,w'=w.drewN n:=by
 unfold dL at hs;go_enter func262,ntmps262;go_wp2;go_loop [5,6] (fun n i=>∃k:Nat,i=aD aE k∧k≤s.size∧k≤9∧n=aD aE (num (s.data.toList.take k):Nat)∧bH ((s.data.toList.take k).all eE=true)) (fun _ i=>s.size-(aK i).toNat);case atStart=>exact⟨0,rfl,bN _,bN _,rfl,rfl⟩
 case round=>
  obtain⟨k,rfl,hk,hk9,rfl,hall⟩:=hrel;have hb:=bL (nZ _ hall.out) (bO (by decide) (show(s.data.toList.take k).length≤9 from by rw[fG];omega));by_cases hc:∃h:k<s.size,k≤8∧eE s[k]=true
  ·obtain⟨hlt,h8,hd⟩:=hc;have hst:=zq (Ee s k hlt);have hal2:=zq (Eg hlt hall.out hd);have h48:48≤(s[k].toNat:Int)∧(s[k].toNat:Int)≤57:=by simp only[eE,bK,decide_eq_true_eq]at hd;omega
   obtain⟨h48,h57⟩:=h48;obtain⟨d,NW⟩:∃d:Nat,(s[k].toNat:Int)-48=(d:Int):=⟨s[k].toNat-48,by omega⟩;have q1:IntKind.u8.wrap ((s[k].toNat:Int)-48)=(d:Int):=by rw[NW];exact ma _ (by omega)
   have q2:((s[k].toNat:Int)-48)%256=(d:Int):=by rw[NW];omega
   have hd2:bH (s[k].toNat-48=d):=by show _=_;omega
   have hd9:d≤9:=by omega
   generalize num (s.data.toList.take k)=n at *;have hn:n≤999999999:=by omega
   clear hb NW hd;go_wp2;go_round;case rel=>exact⟨k+1,by go_num,by omega,by omega,by rw[hst.out,hd2.out];congr 1;omega,hal2.out⟩
   case measure=>simp only[aK];omega
  ·have h2:8<k∨∀h:k<s.size,¬eE s[k]=true:=by
    by_cases h8:8<k
    ·exact .inl h8
    ·exact .inr fun h d=>hc ⟨h,by omega,d⟩
   have Hc:=zq hc;clear hc;by_cases hn:k=0∨8<k∨(1<k∧∃h:0<s.size,s[0].toNat=48)
   ·have R:bH (nIv s.data.toList=cC #[aD aE 0,aA (bs []),aN false]):=by
     show _=_;rw[nIv,nI_none hk hall.out h2 hn]
    have H2:=zq h2;clear h2;clear hb hall;generalize num (s.data.toList.take k)=n at *;rcases hn with rfl|h8|⟨h1,h0,h48⟩
    ·go_wp2;all_goals first
      |(go_ret3;exact⟨by rw[R.out];rfl,0,rfl⟩)
      |(exfalso;exact Hc.out ⟨by omega,by omega,by simp only[eE,bK,decide_eq_true_eq];omega⟩)
    ·have h8':¬(k:Int)≤8:=by omega
     go_wp2;all_goals(go_ret3;exact⟨by rw[R.out];rfl,0,rfl⟩)
    ·have e2:((s[0].toNat:Int)==48)=true:=by simp[h48]
     have H48:=zq h48;clear h48;go_wp2;all_goals first
      |(go_ret3;exact⟨by rw[R.out];rfl,0,rfl⟩)
      |(exfalso;exact Hc.out ⟨by omega,by omega,by simp only[eE,bK,decide_eq_true_eq];omega⟩)
   ·have k0:0<k:=by omega
    have k8:k≤8:=by omega
    have h2':∀h:k<s.size,¬eE s[k]=true:=by
     rcases h2 with h2|h2
     ·omega
     ·exact h2
    have h48:¬(1<k∧∃h:0<s.size,s[0].toNat=48):=fun c=>hn (.inr (.inr c));have R:bH (nIv s.data.toList=cC #[aD aE (num (s.data.toList.take k):Nat),aA (s.extract k s.size),aN true]):=by
     show _=_;rw[nIv,nI_some hk hall.out h2' k0 k8 h48];rw[show s.extract k s.size=bs (s.data.toList.drop k)from KM (sJ ..)]
    have H2:=zq h2';clear h2 h2' hn;clear hb hall;generalize num (s.data.toList.take k)=n at *;have hp:0<s.size:=by omega
    have b8:decide ((8:Int)<(k:Int))=false:=by simp;omega
    have b0:((k:Int)==0)=false:=by simp;omega
    by_cases h1:1<k
    ·have e2:((s[0].toNat:Int)==48)=false:=by rw[beq_eq_false_iff_ne];exact fun e=>h48 ⟨h1,hp,Int.ofNat_inj.1 (e:((s[0].toNat:Nat):Int)=((48:Nat):Int))⟩
     have H48:=zq h48;clear h48;go_wp2;all_goals first
      |(exfalso;exact Hc.out ⟨by omega,by omega,by simp only[eE,bK,decide_eq_true_eq];omega⟩)
      |(go_region;go_wp2;go_ret3;exact⟨by rw[R.out];rfl,1,rfl⟩)
    ·have H48:=zq h48;clear h48;go_wp2;all_goals first
      |(exfalso;exact Hc.out ⟨by omega,by omega,by simp only[eE,bK,decide_eq_true_eq];omega⟩)
      |(go_region;go_wp2;go_ret3;exact⟨by rw[R.out];rfl,1,rfl⟩)
def wJ(m:Bool)(r:Option (Nat×Nat)):aS:=
 match r with
 |some (n,d)=>cC #[cN #[aD aE (if m=true then -(n:Int)else(n:Int)),iv d],aN true]
 |none=>cC #[cN #[aD aE 0,aD aE 0],aN false]
theorem Yf(a:ByteArray):(fT a=true→a.extract 1 a.size=bs (mag a.data.toList)∧(bs (mag a.data.toList)).size<a.size)∧(fT a=false→a=bs (mag a.data.toList)):=by
 have hf:=Cv a;unfold Jp at hf;constructor
 ·intro h;rw[h,ip rfl]at hf;have h45:a.data.toList.head? =some 45:=vD fun k=>by rw[iN k]at hf;cases hf
  constructor
  ·refine KM ?_;rw[sJ,mag,ip h45,List.drop_one]
  ·rw[cZ,mag,ip h45,List.length_tail];have:a.data.toList.length=a.size:=rfl;have:0<a.size:=mg fun k=>by
    have e:a.data.toList=[]:=fW k;rw[e]at h45;cases h45
   omega
 ·intro h;rw[h]at hf;have h45:¬a.data.toList.head? =some 45:=fun k=>by rw[ip k]at hf;cases hf
  rw[mag,iN h45,XS]
theorem nI_lt{l:List UInt8}{n:Nat}{r:List UInt8}(h:nI l=some (n,r)):n<10^8∧r.length≤l.length:=by
 unfold nI at h;split at h
 ·rename_i k;injection h with h;injection h with h1 h2;subst h1 h2;refine⟨bL (nZ _ (jY k.1)) (bO (by decide) k.2),(List.dropWhile_sublist _).length_le⟩
 ·cases h
theorem Bp (a : ByteArray) (w : aF) (hs : a.size ≤ dL) :
    aW aC 212 #[aA a] w (Rt (wJ (fT a) (Am (fT a) (mag a.data.toList))) w) := by
  obtain ⟨m1, m2⟩ := Yf a
  obtain ⟨O, hO⟩ : ∃ O, bs (mag a.data.toList) = O := ⟨_, rfl⟩
  rw [hO] at m1 m2
  have hOl : mag a.data.toList = O.data.toList := by rw [← hO, bP]
  rw [hOl]
  clear hO hOl
  unfold dL at hs
  have hOs : O.size ≤ a.size := by
    cases h : fT a with
    | true => have := (m1 h).2; omega
    | false => rw [← m2 h]; exact aG _
  have Hn := zq (fun W => Eh O W (by unfold dL; omega))
  have M1 := zq m1
  have M2 := zq m2
  clear m1 m2
  go_enter func212, ntmps212
  go_upto_region 2 with fail
  go_cut [16] (fun v w' => v = aN (fT a) ∧ w' = w.alloc (aJ #[aD aE 0, aD aE 0] 268))
  case first =>
    by_cases h0 : 0 < a.size
    · have he : a.toList.isEmpty = false := by
        rw [cJ]; cases k : a.data.toList with
        | nil => have : a.data.toList.length = a.size := rfl
                 rw [k] at this; simp at this; omega
        | cons _ _ => rfl
      go_wp2; go_meet
      case rel => exact ⟨by rw [FY a h0], rfl⟩
    · have he : a.toList = [] := by
        rw [cJ]; exact fW (show a.size = 0 by omega)
      go_wp2; go_meet
      case rel => exact ⟨by simp [fT, h0], rfl⟩
  obtain ⟨rfl, rfl⟩ := hcut
  go_upto_if 16 with fail
  go_cut [4] (fun o w' => o = aA O ∧ w' = w.alloc (aJ #[aD aE 0, aD aE 0] 268))
  case first =>
    cases hm : fT a with
    | true =>
      have c := (M1.out hm).1
      have h1 : (1 : Int) ≤ (a.size : Int) := by have := (M1.out hm).2; omega
      clear hm
      go_wp2; go_meet
      case rel => exact ⟨rfl, rfl⟩
    | false =>
      have c := zq (M2.out hm)
      clear hm
      go_wp2; go_meet
      case rel => exact ⟨by rw [← c.out], rfl⟩
  case rest =>
    obtain ⟨rfl, rfl⟩ := hcut
    have hlt : decide (O.size < a.size) = fT a := by
      cases h : fT a with
      | true => exact decide_eq_true (by have := (M1.out h).2; omega)
      | false => exact decide_eq_false (by rw [← M2.out h]; omega)
    have hOb : O.size ≤ dL := by unfold dL; omega
    clear M1 M2 hs
    obtain ⟨m, hm⟩ : ∃ m, fT a = m := ⟨_, rfl⟩
    rw [hm] at hlt
    have HM := zq hm; clear hm
    have fin : ∀ (x y z u : aS) (k : Nat), Below w.heap.size w (((((w.alloc (aJ #[aD aE 0, aD aE 0] 268)).drewN k).setCell ⟨w.heap.size, 0, none⟩ x).setCell ⟨w.heap.size, 1, none⟩ y).alloc (aJ #[z, u] 268)) := by
      intro x y z u k
      exact ((((cK ((aH _ w).alloc (aG _) _) k).setCell (aG _) x).setCell (aG _) y).alloc (by simp) _)
    cases hnI : nI O.data.toList with
    | none =>
      have yX : bH (∀ W, aW aC 262 #[aA O] W fun e w' => e = aQ (cC #[aD aE 0, aA (bs []), aN false]) ∧ ∃ n, w' = W.drewN n) := by
        intro W; have := Hn.out W; rwa [nIv, hnI] at this
      have R : bH (wJ (fT a) (Am (fT a) O.data.toList) = wJ m none) := by show _ = _; rw [Am, hnI]; rfl
      clear Hn hnI
      go_wp2_with fail
      refine (yX.out _).mono ?_
      rintro e w1 ⟨rfl, k1, rfl⟩
      go_wp2
      exact cI (v := cC #[cN #[aD aE 0, aD aE 0], aN false]) (by simp [gR, iA, go_sem]) rfl ⟨by rw [R.out]; rfl, ((cK ((aH _ w).alloc (aG _) _) _).setCell (aG _) _).setCell (aG _) _⟩
    | some p =>
      obtain ⟨n, rest⟩ := p
      obtain ⟨hn8, hr⟩ := nI_lt hnI
      have yX : bH (∀ W, aW aC 262 #[aA O] W fun e w' => e = aQ (cC #[iv n, aA (bs rest), aN true]) ∧ ∃ n, w' = W.drewN n) := by
        intro W; have := Hn.out W; rwa [nIv, hnI] at this
      clear Hn
      unfold iv at yX
      by_cases hz : m = true ∧ n = 0
      · have R : bH (wJ (fT a) (Am (fT a) O.data.toList) = wJ m none) := by show _ = _; rw [HM.out]; simp only [Am, hnI]; rw [ip hz]
        obtain ⟨rfl, rfl⟩ := hz
        clear hnI
        go_wp2_with fail
        refine (yX.out _).mono ?_
        rintro e w1 ⟨rfl, k1, rfl⟩
        go_wp2
        exact cI (v := cC #[cN #[aD aE 0, aD aE 0], aN false]) (by simp [gR, iA, go_sem]) rfl ⟨by rw [R.out]; rfl, ((cK ((aH _ w).alloc (aG _) _) _).setCell (aG _) _).setCell (aG _) _⟩
      · have zf : m = true → ((n : Int) == 0) = false := fun h => by rw [beq_eq_false_iff_ne]; intro e; exact hz ⟨h, by omega⟩
        cases rest with
        | nil =>
          have R : bH (wJ (fT a) (Am (fT a) O.data.toList) = wJ m (some (n, 1))) := by show _ = _; rw [HM.out]; simp only [Am, hnI]; rw [iN hz]
          have he : (bs []).toList.isEmpty = true := by rw [cJ]; rfl
          clear hnI hz
          cases m
          · clear zf
            go_wp2_with fail
            refine (yX.out _).mono ?_
            rintro e w1 ⟨rfl, k1, rfl⟩
            go_wp2
            exact cI (v := cC #[cN #[aD aE n, aD aE 1], aN true]) (by simp [gR, iA, go_sem]) rfl ⟨by rw [R.out]; rfl, fin _ _ _ _ _⟩
          · have zf := zf rfl
            go_wp2_with fail
            refine (yX.out _).mono ?_
            rintro e w1 ⟨rfl, k1, rfl⟩
            go_wp2
            exact cI (v := cC #[cN #[aD aE (-(n : Int)), aD aE 1], aN true]) (by simp [gR, iA, go_sem]) rfl ⟨by rw [R.out]; rfl, fin _ _ _ _ _⟩
        | cons c r =>
          obtain ⟨RS, hRS⟩ : ∃ RS, bs (c :: r) = RS := ⟨_, rfl⟩
          have jC : RS.toList.isEmpty = false := by rw [← hRS, cJ]; rfl
          have DM : 0 < RS.size := by rw [← hRS, cZ]; simp
          have h1i : (1 : Int) ≤ (RS.size : Int) := by omega
          have h0 : RS[0] = c := by subst hRS; rfl
          have hex : RS.extract 1 RS.size = bs r := by subst hRS; exact KM (by rw [sJ, bP]; rfl)
          rw [hRS] at yX
          clear hRS
          by_cases hc : c = 47
          · subst hc
            have h47 : ((RS[0].toNat : Int) != 47) = false := by rw [h0]; rfl
            have VW : wJ (fT a) (Am (fT a) O.data.toList) = wJ m ((PA n r).map fun d => (n, d)) := by rw [HM.out]; simp only [Am, hnI]; rw [iN hz, ip trivial]
            have Hnn := zq (fun W => Eh (bs r) W (by rw [cZ]; have e1 : (47 :: r).length = r.length + 1 := rfl; have e2 : O.data.toList.length = O.size := rfl; omega))
            clear hnI hz h0 hr
            cases hnD : nI r with
            | none =>
              have R : bH (wJ (fT a) (Am (fT a) O.data.toList) = wJ m none) := by show _ = _; rw [VW, PA, hnD]; rfl
              have EI : bH (∀ W, aW aC 262 #[aA (bs r)] W fun e w' => e = aQ (cC #[aD aE 0, aA (bs []), aN false]) ∧ ∃ n, w' = W.drewN n) := by
                intro W; have := Hnn.out W; rwa [show (bs r).data.toList = r from rfl, nIv, hnD] at this
              clear VW hnD Hnn
              cases m
              case' false => clear zf
              case' true => replace zf := zf rfl
              all_goals
                go_wp2_with fail
                refine (yX.out _).mono ?_
                rintro e w1 ⟨rfl, k1, rfl⟩
                go_wp2_with fail
                refine (EI.out _).mono ?_
                rintro e w1 ⟨rfl, k2, rfl⟩
                go_wp2
                exact cI (v := cC #[cN #[aD aE 0, aD aE 0], aN false]) (by simp [gR, iA, go_sem]) rfl ⟨by rw [R.out]; rfl, by repeat (first | exact aH _ _ | refine iV ?_ (by simp) _ | refine lA ?_ (by simp) _ | refine cK ?_ _)⟩
            | some q =>
              obtain ⟨d, r2⟩ := q
              obtain ⟨hd8, -⟩ := nI_lt hnD
              have EI : bH (∀ W, aW aC 262 #[aA (bs r)] W fun e w' => e = aQ (cC #[iv d, aA (bs r2), aN true]) ∧ ∃ n, w' = W.drewN n) := by
                intro W; have := Hnn.out W; rwa [show (bs r).data.toList = r from rfl, nIv, hnD] at this
              unfold iv at EI
              clear Hnn
              cases r2 with
              | cons x y =>
                have R : bH (wJ (fT a) (Am (fT a) O.data.toList) = wJ m none) := by show _ = _; rw [VW, PA, hnD]; rfl
                obtain ⟨RT, hRT⟩ : ∃ RT, bs (x :: y) = RT := ⟨_, rfl⟩
                have hne2 : RT.toList.isEmpty = false := by rw [← hRT, cJ]; rfl
                rw [hRT] at EI
                clear VW hnD hRT
                cases m
                case' false => clear zf
                case' true => replace zf := zf rfl
                all_goals
                  go_wp2_with fail
                  refine (yX.out _).mono ?_
                  rintro e w1 ⟨rfl, k1, rfl⟩
                  go_wp2_with fail
                  refine (EI.out _).mono ?_
                  rintro e w1 ⟨rfl, k2, rfl⟩
                  go_wp2
                  exact cI (v := cC #[cN #[aD aE 0, aD aE 0], aN false]) (by simp [gR, iA, go_sem]) rfl ⟨by rw [R.out]; rfl, by repeat (first | exact aH _ _ | refine iV ?_ (by simp) _ | refine lA ?_ (by simp) _ | refine cK ?_ _)⟩
              | nil =>
                have he : (bs []).toList.isEmpty = true := by rw [cJ]; rfl
                have Hg := zq (fun W => Ye n d W (by omega) (by omega))
                unfold iv at Hg
                by_cases h2 : 2 ≤ d
                · have d2 : ¬ (d : Int) < 2 := by omega
                  by_cases hg : dR n d = 1
                  · have R : bH (wJ (fT a) (Am (fT a) O.data.toList) = wJ m (some (n, d))) := by show _ = _; rw [VW, PA, hnD]; simp only []; rw [ip ⟨h2, hg⟩]; rfl
                    rw [hg] at Hg
                    clear VW hnD hg h2
                    cases m
                    case' false => clear zf
                    case' true => replace zf := zf rfl
                    all_goals
                      go_wp2_with fail
                      refine (yX.out _).mono ?_
                      rintro e w1 ⟨rfl, k1, rfl⟩
                      go_wp2_with fail
                      refine (EI.out _).mono ?_
                      rintro e w1 ⟨rfl, k2, rfl⟩
                      go_wp2_with fail
                      refine (Hg.out _).mono ?_
                      rintro e w1 ⟨rfl, k3, rfl⟩
                      go_wp2
                    · exact cI (v := cC #[cN #[aD aE (-(n : Int)), aD aE d], aN true]) (by simp [gR, iA, go_sem]) rfl ⟨by rw [R.out]; rfl, by repeat (first | exact aH _ _ | refine iV ?_ (by simp) _ | refine lA ?_ (by simp) _ | refine cK ?_ _)⟩
                    · exact cI (v := cC #[cN #[aD aE n, aD aE d], aN true]) (by simp [gR, iA, go_sem]) rfl ⟨by rw [R.out]; rfl, by repeat (first | exact aH _ _ | refine iV ?_ (by simp) _ | refine lA ?_ (by simp) _ | refine cK ?_ _)⟩
                  · have R : bH (wJ (fT a) (Am (fT a) O.data.toList) = wJ m none) := by show _ = _; rw [VW, PA, hnD]; simp only []; rw [iN (fun c => hg c.2)]; rfl
                    have hgf : (((dR n d : Nat) : Int) != 1) = true := by rw [bne_iff_ne]; omega
                    generalize dR n d = gg at *
                    clear VW hnD hg h2
                    cases m
                    case' false => clear zf
                    case' true => replace zf := zf rfl
                    all_goals
                      go_wp2_with fail
                      refine (yX.out _).mono ?_
                      rintro e w1 ⟨rfl, k1, rfl⟩
                      go_wp2_with fail
                      refine (EI.out _).mono ?_
                      rintro e w1 ⟨rfl, k2, rfl⟩
                      go_wp2_with fail
                      refine (Hg.out _).mono ?_
                      rintro e w1 ⟨rfl, k3, rfl⟩
                      go_wp2
                      exact cI (v := cC #[cN #[aD aE 0, aD aE 0], aN false]) (by simp [gR, iA, go_sem]) rfl ⟨by rw [R.out]; rfl, by repeat (first | exact aH _ _ | refine iV ?_ (by simp) _ | refine lA ?_ (by simp) _ | refine cK ?_ _)⟩
                · have R : bH (wJ (fT a) (Am (fT a) O.data.toList) = wJ m none) := by show _ = _; rw [VW, PA, hnD]; simp only []; rw [iN (fun c => h2 c.1)]; rfl
                  have d2 : (d : Int) < 2 := by omega
                  clear VW hnD h2 Hg
                  cases m
                  case' false => clear zf
                  case' true => replace zf := zf rfl
                  all_goals
                    go_wp2_with fail
                    refine (yX.out _).mono ?_
                    rintro e w1 ⟨rfl, k1, rfl⟩
                    go_wp2_with fail
                    refine (EI.out _).mono ?_
                    rintro e w1 ⟨rfl, k2, rfl⟩
                    go_wp2
                    exact cI (v := cC #[cN #[aD aE 0, aD aE 0], aN false]) (by simp [gR, iA, go_sem]) rfl ⟨by rw [R.out]; rfl, by repeat (first | exact aH _ _ | refine iV ?_ (by simp) _ | refine lA ?_ (by simp) _ | refine cK ?_ _)⟩
          · have R : bH (wJ (fT a) (Am (fT a) O.data.toList) = wJ m none) := by show _ = _; rw [HM.out]; simp only [Am, hnI]; rw [iN hz, iN hc]
            have h47 : ((RS[0].toNat : Int) != 47) = true := by
              rw [h0, bne_iff_ne]; intro e; exact hc (UInt8.toNat_inj.1 (show c.toNat = 47 by omega))
            clear hnI hz h0 hex hc
            cases m
            case' false => clear zf
            case' true => replace zf := zf rfl
            all_goals
              go_wp2_with fail
              refine (yX.out _).mono ?_
              rintro e w1 ⟨rfl, k1, rfl⟩
              go_wp2
              exact cI (v := cC #[cN #[aD aE 0, aD aE 0], aN false]) (by simp [gR, iA, go_sem]) rfl ⟨by rw [R.out]; rfl, by repeat (first | exact aH _ _ | refine iV ?_ (by simp) _ | refine lA ?_ (by simp) _ | refine cK ?_ _)⟩
theorem pow_up{m j k:Nat}(h:m<10^j)(hk:j≤k):m<10^k:=bL h (bO (by decide) hk)
theorem pow18{m:Nat}(h:m<10^18):m<10^300:=pow_up (j:=18) (k:=300) h (by decide)
theorem Ju{n:Int}(h:n.natAbs<10^18):(bs (cM n)).size≤301:=iU (pow18 h)
theorem Gl(n d:Int)(w:aF)(hE:iM w)(hn:n.natAbs<10^18)(hd:d.natAbs<10^18)(h0:d≠0):
 aW aC 352 #[cN #[aD aE n,aD aE d]] w (Rt (aA (bs (bJ (mkRat (EU n d) d.natAbs)))) w):=by
 go_enter func352,ntmps352;go_upto_if 8 with fail;go_cut[] (fun w'=>Below w.heap.size w w'∧bT w' w.heap.size #[aD aE (EU n d),iv d.natAbs] 268);case first =>
  by_cases hneg:d<0
  ·have w1:IntKind.i64.wrap (-n)= -n:=aX _ (by omega);have w2:IntKind.i64.wrap (-d)= -d:=aX _ (by omega);have e1:bH (EU n d= -n):=ip hneg;have e2:bH (((d.natAbs:Nat):Int)= -d):=by show _=_;omega
   clear hE hn hd h0;go_wp2;go_meet;case rel=>
    rw[e1.out,show iv d.natAbs=aD aE (-d) by unfold iv;rw[e2.out]];exact⟨(aH _ w).alloc (aG _) _,bT.new w _ _⟩
  ·have e1:bH (EU n d=n):=iN hneg;have e2:bH (((d.natAbs:Nat):Int)=d):=by show _=_;omega
   clear hE hn hd h0;go_wp2;go_meet;case rel=>
    rw[e1.out,show iv d.natAbs=aD aE d by unfold iv;rw[e2.out]];exact⟨(aH _ w).alloc (aG _) _,bT.new w _ _⟩
 case rest=>
  obtain⟨hB,hb⟩:=hcut;have hu:(EU n d).natAbs<10^18:=by unfold EU;split <;>omega
  obtain⟨u,hU⟩:∃u,EU n d=u:=⟨_,rfl⟩;obtain⟨v,hV⟩:∃v,d.natAbs=v:=⟨_,rfl⟩;have hv0:v≠0:=by omega
  have hv:v<10^18:=by omega
  rw[hU]at hu hb;rw[hV]at hb;have HU:=zq hU;have HV:=zq hV;clear hU hV hn hd h0;obtain⟨q1,q2⟩:=CA u v hv0;obtain⟨l1,l2⟩:=Gb u v hv0;have hg0:0<dR u.natAbs v:=Nat.gcd_pos_of_pos_right _ (by omega);have Hg:=zq (fun W=>Ye u.natAbs v W (by omega) (by omega));have hgv:dR u.natAbs v≤v:=Nat.gcd_le_right _ (by omega);have hdu:((dR u.natAbs v:Nat):Int)∣u:=Int.natAbs_dvd_natAbs.1 (by rw[cA];exact Nat.gcd_dvd_left _ _);have HT:bH (bJ (mkRat u v)=if(mkRat u v).den=1 then cM (mkRat u v).num else cM (mkRat u v).num++47::dN (mkRat u v).den):=rfl;generalize dR u.natAbs v=g at *;have e1:u.tdiv (g:Int)=(mkRat u v).num:=by rw[q1];exact Int.tdiv_eq_ediv_of_dvd hdu
  have e2:(v:Int).tdiv (g:Int)=(((mkRat u v).den:Nat):Int):=by rw[q2];exact(Int.tdiv_eq_ediv_of_nonneg (by omega)).trans (NN _ _).symm
  have e1':u/(g:Int)=(mkRat u v).num:=q1.symm;have e2':(v:Int)/(g:Int)=(((mkRat u v).den:Nat):Int):=by rw[q2];exact(NN _ _).symm
  clear q1 q2 hdu hgv;generalize hN:(mkRat u v).num=N at *;generalize hD:(mkRat u v).den=D at *;have HI1:=zq (fun(W:aF)(hb:Below w.heap.size w W)=>gW N W (hE.below hb) (by omega) (by omega));have HI2:=zq (fun(W:aF)(hb:Below w.heap.size w W)=>gW (D:Int) W (hE.below hb) (by omega) (by omega));have c0:=hb.cell 0;have c1:=hb.cell 1;simp only[List.getElem?_toArray,List.getElem?_cons_zero,List.getElem?_cons_succ]at c0 c1;unfold iv at c1 Hg;have q0:((g:Int) !=0)=true:=by rw[bne_iff_ne];omega
  have q4:¬(g:Int)=0:=by omega
  have hmx:max u (-u)=((u.natAbs:Nat):Int):=by omega
  have b1: -999999999999999999≤N:=by omega
  have b2:N≤999999999999999999:=by omega
  have b3:(D:Int)≤999999999999999999:=by omega
  have w1:IntKind.i64.wrap (-u)= -u:=aX _ (by omega);have w2:IntKind.i64.wrap N=N:=aX _ (by omega);have w3:IntKind.i64.wrap (D:Int)=(D:Int):=aX _ (by omega);generalize u.natAbs=U at *;clear hE hN hD hb hu hv hv0 l1 l2 hg0;have ln:=Ju (n:=N) (by omega);have ld:=Ju (n:=(D:Int)) (by omega);by_cases h1:D=1
  ·have d1:(((D:Nat):Int)==1)=true:=by rw[h1];rfl
   have R:bH (bJ (mkRat (EU n d) d.natAbs)=cM N):=by show _=_;rw[HU.out,HV.out,HT.out,ip h1]
   clear h1 ln ld HU HV HT;go_wp2_with fail
   refine(Hg.out _).mono ?_;rintro e W1⟨rfl,k1,rfl⟩;go_wp2;go_region;go_wp2_with fail
   refine(HI1.out _ (cK hB _)).mono ?_;rintro e W2⟨rfl,hb2⟩;go_wp2;go_ret;exact⟨by rw[R.out];rfl,aR (cK hB _) hb2 hB.size⟩
  ·have d1:(((D:Nat):Int)==1)=false:=by rw[beq_eq_false_iff_ne];omega
   have R:bH (bJ (mkRat (EU n d) d.natAbs)=cM N++47::cM (D:Int)):=by show _=_;rw[HU.out,HV.out,HT.out,iN h1,mE]
   have c1':∀W,(Jh .add (bs (cM N)) {data:= #[47]}).run aC W=.ok (aA (bs (cM N++[47]))) W:=fun W=>tN W (cM N) [47] (by rw[cZ]at ln;omega) (by decide);have c2':∀W,(Jh .add (bs (cM N++[47])) (bs (cM (D:Int)))).run aC W=.ok (aA (bs (cM N++[47]++cM (D:Int)))) W:=fun W=>tN W (cM N++[47]) (cM (D:Int)) (by rw[cZ]at ln;rw[cP];simp only[bF,List.length_nil];omega) (by rw[cZ]at ld;omega);clear h1 ln ld HU HV HT;go_wp2_with fail
   refine(Hg.out _).mono ?_;rintro e W1⟨rfl,k1,rfl⟩;go_wp2;go_region;go_wp2_with fail
   refine(HI1.out _ (cK hB _)).mono ?_;rintro e W2⟨rfl,hb2⟩;have gJ:=aR (cK hB (k1+1)) hb2 hB.size;go_wp2_with fail
   refine(HI2.out _ gJ).mono ?_;rintro e W3⟨rfl,hb3⟩;go_wp2;go_ret;exact⟨by rw[R.out];rfl,aR gJ hb3 gJ.size⟩
theorem om{s:ByteArray}{k:Nat}(hk:k≤s.size)(h1:(s.data.toList.take k).all eE=true)(h2:∀h:k<s.size,¬eE s[k]=true):
 (pG s.data.toList=true↔k=s.size∧0<k∧¬(1<k∧∃h:0<s.size,s[0].toNat=48)):=by
 constructor
 ·intro h;have Ac:k=s.size:=by
   refine vD fun c=>?_;have hlt:k<s.size:=by omega
   rw[X7 hlt (h2 hlt)]at h;cases h
  refine⟨Ac,mg fun c=>?_,?_⟩
  ·rw[N0 (by omega)]at h;cases h
  ·rintro⟨a,b,c⟩;rw[St b c (by omega)]at h;cases h
 ·rintro⟨e,h0,h⟩;have hall:s.data.toList.all eE=true:=by
   rw[e,fM (show s.data.toList.length≤s.size from aG _)]at h1;exact h1
  refine Su (by omega) (fun c=>h ⟨by omega,by omega,c.1⟩) fun i hi _ _=>?_;exact List.all_eq_true.1 hall s[i] (Pd (xs:=s.data) hi)
theorem Lk(s:ByteArray)(w:aF)(hs:s.size≤dL):
 aW aC 303 #[aA s] w fun e w'=>(∃k:Nat,e=aQ (aD aE k)∧k≤s.size∧(pG s.data.toList=true↔k=s.size∧0<k))∧w=w':=by
 unfold dL at hs;go_enter func303,ntmps303;go_wp2;go_loop [3] (fun i=>∃k:Nat,i=aD aE k∧k≤s.size∧bH ((s.data.toList.take k).all eE=true)) (fun i=>s.size-(aK i).toNat);case atStart=>exact⟨0,rfl,bN _,rfl⟩
 case round=>
  obtain⟨k,rfl,hk,hall⟩:=hrel;by_cases hc:∃h:k<s.size,eE s[k]=true
  ·obtain⟨hlt,hd⟩:=hc;have hal2:=zq (Eg hlt hall.out hd);have h48:48≤(s[k].toNat:Int)∧(s[k].toNat:Int)≤57:=by simp only[eE,bK,decide_eq_true_eq]at hd;omega
   obtain⟨h48,h57⟩:=h48;clear hd;go_wp2;go_round;case rel=>exact⟨k+1,by go_num,by omega,hal2.out⟩
   case measure=>simp only[aK];omega
  ·have h2:∀h:k<s.size,¬eE s[k]=true:=fun h d=>hc ⟨h,d⟩;have ZR:=zq (om hk hall.out h2);have Hc:=zq hc;clear hc h2 hall;by_cases h48:1<k∧∃h:0<s.size,s[0].toNat=48
   ·have R:bH (pG s.data.toList=true↔0=s.size∧0<0):=⟨fun h=>absurd h48 (ZR.out.1 h).2.2,fun h=>absurd h.2 (by decide)⟩;obtain⟨h1,h0,h48⟩:=h48;have e2:((s[0].toNat:Int)==48)=true:=by simp[h48]
    clear h48;go_wp2;all_goals first
     |(exfalso;exact Hc.out ⟨by omega,by simp only[eE,bK,decide_eq_true_eq];omega⟩)
     |(go_ret;exact⟨⟨0,rfl,bN _,R.out⟩,rfl⟩)
   ·have R:bH (pG s.data.toList=true↔k=s.size∧0<k):=⟨fun h=>⟨(ZR.out.1 h).1,(ZR.out.1 h).2.1⟩,fun h=>ZR.out.2 ⟨h.1,h.2,h48⟩⟩;by_cases h1:1<k
    ·have hp:0<s.size:=by omega
     have e2:((s[0].toNat:Int)==48)=false:=by rw[beq_eq_false_iff_ne];exact fun e=>h48 ⟨h1,hp,Int.ofNat_inj.1 (e:((s[0].toNat:Nat):Int)=((48:Nat):Int))⟩
     clear h48;go_wp2;all_goals first
      |(exfalso;exact Hc.out ⟨by omega,by simp only[eE,bK,decide_eq_true_eq];omega⟩)
      |(go_ret;exact⟨⟨k,rfl,hk,R.out⟩,rfl⟩)
    ·clear h48;go_wp2;all_goals first
      |(exfalso;exact Hc.out ⟨by omega,by simp only[eE,bK,decide_eq_true_eq];omega⟩)
      |(go_ret;exact⟨⟨k,rfl,hk,R.out⟩,rfl⟩)
end
end Go.Proofs.YtckgmoobicmbnaaGreatDoor
