import Derived.RangeFuncWrites
import Derived.WalkKit
import Derived.OrdersIn
import Derived.OwnWalkIn
import Derived.RangeFuncCalls
import Derived.Deep.RegionHeld3
import Derived.Lib.ItoaNum
import Derived.Lib.Hide
import Derived.Lib.Strings
import Derived.Deep.Draws
import Derived.Maps.AppendAt
import Derived.Test.YtkchhginppjaiaaGreatDoorProg
import Derived.Laws.StructEq
import Derived.Shelf.LaysM
import Derived.Shelf.LaysC
import Derived.Shelf.Strconv.Itoa3
import Derived.Shelf.Strconv.AtoiAll
import Derived.Shelf.Small.Wraps
import Derived.Shelf.Strings.Prefix
import Derived.Shelf.Strings.SlTrimAscii
import Derived.Shelf.Strings.Cut
import Derived.Lib.AtoiErrMem
import Derived.Lib.AppendIntMem
import Derived.WalkSmall
import Derived.Lib.SlTrimSet
import Derived.Lib.Atoi
import Derived.WalkSpells
import Derived.WalkLawsBesides
import Derived.RegionTactic
import Derived.ChangeAlike
import Derived.Deep.QuietTactic
import Derived.BigQuiet
import Derived.Deep.DeepCutAuto
import Derived.Outline
import Derived.Below
namespace Go.Proofs.YtkchhginppjaiaaGreatDoor
set_option maxRecDepth 100000
set_option maxHeartbeats 8000000
set_option linter.all false
open Go.Proofs.Tryz
open _root_.Array renaming replicate->gR
open _root_.Bool renaming and_eq_true->bQ,false_eq_true->bS,not_eq_true'->dP,or_eq_true->jC,eq_iff_iff->pI
open _root_.ByteArray renaming size->be
open _root_.Classical renaming byContradiction->cZ
open _root_.Go renaming World->aF,Value->aP,Calls->bE,Addr->cO,Program->dN,TypeId->dT,bodyPost_ret->dU,below_drewN->eF,Oper->fX,KeepsFrom->kR,results->lF,Act->mI,callFunc->rL,Operand->tE,OwnFrom->xZ,Exit->A5,underlying->A7,Code->D4,FuncId->BS,wpAnyIn->BU,cell_of_row->FG,run_endLoop->N9,Ending->wG,zeroValue->ol
open Go.ByteArray renaming toList_eq->dV
open Go.Code renaming region->tD,rangeFunc->zM
open Go.Ending renaming returned->bA
open Go.Fence renaming wide->eP
open Go.Instr renaming lookup->iR,mapUpdate->oE,checkKey->xS,mapEntry->D6,entryStore->KB,sameBits->NG,endRound->N8,findNow->PO,keyThatStays->bf,findAsking->sq
open Go.IntKind renaming i64->aB
open Go.IntWalk renaming i64_in->bI
open Go.Lib renaming decDigits->bZ,itoa->cG,trimPrefix->yX,hasPrefix->BK,trimS->D8,atoi->G8,extract_to_end->Ii,compareInt->PQ,digitVal->tq
open Go.Obj renaming cells->aN
open Go.Op renaming equalIn->Dn
open Go.Oper renaming semAt_plain->qZ,wpIn->sP,wp->Ng
open Go.Program renaming fieldsOf->G6
open Go.Proofs.Tryz renaming prog->aE,underlying3->dL,underlying4->fM,zeroValue4->gC,zeroValue3->gZ,sizeOf3->iB,isAgg3->jG,underlying9->jN,sizeOf4->jV,isAgg4->lN,zeroValue9->mP,sizeOf9->oJ,isAgg9->pY,underlying0->rA,results148->rN,zeroValue0->sQ,underlying236->yA,sizeOf0->zQ,zeroValue236->zX,underlying5->BJ,isAgg0->BW,zeroValue5->Cn,sizeOf236->D7,isAgg236->FH,underlying285->G7,sizeOf5->Jp,zeroValue285->Jq,underlying20->KC,isAgg5->Lg,zeroValue20->Nh,sizeOf285->Ob,isAgg285->RP,sizeOf20->VA,isAgg20->YI,underlying293->oo,underlying287->oq,underlying291->ou,underlying294->ow,underlying316->pd,underlying317->ph,underlying355->pi,underlying356->pj,zeroValue293->te,zeroValue287->tf,zeroValue291->tg,zeroValue294->th,zeroValue316->ti,zeroValue355->tj,zeroValue356->tk,underlying21->tp
open Go.Region renaming Mode->gU
open Go.Result renaming andThen->sL,ok->om
open Go.RowKit renaming intOf->aK,Hid->bK
open Go.RowKit.Below renaming refl->aL,setCell->oF,alloc->rX,heap_alloc->BI
open Go.Sem renaming run->eH,run_bind->nC
open Go.Shelf renaming Ren->iK
open Go.Value renaming string->aA,int->aC,slice->aD,bool->aV,agg->cF,tuple->cK
open Go.World renaming block_lt_of_cell?->bB,size_alloc->bH,putObj_heap_other->dH,alloc_heap_new->jR,putObj_heap_same->nW
open _root_.Int renaming natAbs_natCast->eD,le_refl->G4
open _root_.List renaming getElem?_toArray->aJ,getElem?_cons_succ->bC,length_cons->bD,getElem?_eq_getElem->bN,length_append->bO,cons_append->cJ,push_toArray->cR,mem_cons_self->cW,mem_cons_of_mem->dA,range->dD,foldl_cons->oI,all_cons->vC,head?_eq_getElem?->Cb,getElem?_modify->D5,modify_toArray->Fx,dropWhile_cons->Fy,foldl_append->Kz,isEmpty_eq_false_iff->PN,getElem_append_left->RQ,ext_getElem?->sw
open _root_.List.Pairwise renaming imp_of_mem->PP
open _root_.Nat renaming le_refl->aH,le_trans->aU,zero_le->bM,zero_add->cC,mod_lt->dB,lt_of_lt_of_le->dC,gcd->iA,lt_of_le_of_lt->jZ,pow_le_pow_right->pJ,gcd_comm->xT,sub_self->A6,pow_succ->Ck,strongRecOn->Dm,sub_zero->Ka,gcd_zero_right->ts
open _root_.Option renaming getD_some->bX,map_some->BV,map_none->sr
open _root_.Option.some renaming inj->eG,injEq->vY
open _root_.Rat renaming divInt->Ih
open _root_.UInt8 renaming ofNat->zO
section
open Go Go.RowKit
theorem zq{p:Prop}(h:p):bK p:=h
abbrev Rt(v:aP)(w:aF)(e:wG)(w':aF):Prop:=e=bA v∧Below w.heap.size w w'
theorem ip.{u}{c:Prop}{h:Decidable c}(hc:c){α:Sort u}{t e:α}: @ite α c h t e=t:=if_pos hc
theorem iN.{u}{c:Prop}{h:Decidable c}(hc:¬c){α:Sort u}{t e:α}: @ite α c h t e=e:=if_neg hc
end
section
open Go Go.RowKit
section
def SeqN(F:Fence)(n:Nat)(P:dN)(gf:Nat)(lb:Array aP)(vR:Nat→Array aP)(Kp:aF→aF→Prop)(N:Nat)(w:aF):Prop:=
 ∀(l:Nat)(J Jx:Nat→aF→Prop)(W:aF),Below w.heap.size w W→
  (∀k V,k<N→J k V→YieldAt F (n-1) P l (vR k) V fun e V'=>(e=bA (aV true)∧J (k+1) V'∧Kp V V')∨(e=bA (aV false)∧Jx (k+1) V'))→
  J 0 W→CallsIn F n P gf (#[.func (.yield l) #[] #[]]++lb) W fun e W'=>(∃v,e=bA v)∧(J N W'∨∃k,k≤N∧Jx k W')
def Aa(B:Nat)(Kp:aF→aF→Prop)(I:Nat→aF→Prop)(Ix:D4→Nat→aF→Prop)(k:Nat)(W:aF):A5→mI→aF→Prop
 |.normal,_,V=>kR B W V∧Kp W V∧I k V
 |.ret,_,V=>kR B W V∧Ix .ret k V
 |.exit id,_,V=>kR B W V∧Ix (.exit id) k V
 |.goto t,_,V=>kR B W V∧Ix (.goto t) k V
 |.panic _,_,_=>False
 |.outgrown,_,_=>False
def fZ(fn:Nat)(a:mI)(ps:Array Tmp)(assign body:D4)(D:Nat)(st:LoopState)(pe:Option D4):Loop:=
 {state:=st,pending:=pe,fn,tmps:=a.tmps,params:=ps,assign,body,defers:=D}
variable{F:Fence}{n:Nat}{P:dN}
end
section
variable{P:dN}
theorem dM{f:BS}{fn:Func}{c:D4}{args:Array aP}{w:aF}{R:wG→aF→Prop}(hf:P.funcs[f]? =some fn)(hb:fn.body=some c)
 (h:c.wp P (bodyPostM eP 9 P fn R) {tmps:=args++gR (fn.ntmps-args.size) undef,defers:=[]} w):bE P f args w R:=
 callsIn_wide.1 (callsIn_of_wp_marks (F:=eP) (n:=9) hf hb trivial (wpIn_wide.2 h) rfl)
theorem Calls.round{f:BS}{args:Array aP}{w:aF}{R:wG→aF→Prop}(h:bE P f args w R)(l n:Nat):CallsIn (Fence.wide.inRound l) n P f args w R:=
 (callsIn_wide.2 h).inRound l
def Ba(cM:Array fX):Bool:=cM.all fun o=>match o.op with |.defer _=>false|_=>true
theorem Li{cM:Array fX}(h:Ba cM=true){i:Nat}{o:fX}(ho:cM[i]? =some o):∀c,o.op≠.defer c:=by
 intro c hc;obtain⟨hi,rfl⟩:=Array.getElem?_eq_some_iff.1 ho;have:=Array.all_eq_true.1 h i hi;rw[hc]at this;cases this
theorem SE{F:Fence}{n:Nat}{md:gU}{cM:Array fX}{Q:A5→mI→aF→Prop}(l:Nat)(hd:Ba cM=true):
 ∀(fuel:Nat)(iY:Array Bool)(a:mI)(w:aF),BU F n P md cM Q fuel iY a w→BU (F.inRound l) n P md cM Q fuel iY a w:=by
 intro fuel;induction fuel with
 |zero=>exact fun _ _ _ h=>h
 |succ fuel ih=>
  intro iY a w h;refine⟨h.1,fun i hi=>?_⟩;have hop:=h.2 i hi;unfold wpOpIn at hop⊢;cases ho:cM[i]? with
  |none=>rw[ho]at hop;exact ih _ _ _ hop
  |some o=>
   rw[ho]at hop;simp only at hop⊢;split
   ·rename_i hw;rw[ip hw]at hop;have hm:=Oper.wpIn_mono (K':=BU (F.inRound l) n P md cM Q fuel (iY.setIfInBounds i true)) (fun a w=>ih _ a w) hop;unfold sP at hm⊢;refine⟨hm.1,?_⟩;have h2:=hm.2;rw[qZ F _ _ (Li hd ho)]at h2;rw[qZ (F.inRound l) _ _ (Li hd ho)];exact h2
   ·rename_i hw;rw[iN hw]at hop;exact⟨hop.1,ih _ _ _ hop.2⟩
theorem Bb{n:Nat}{id:Nat}{cM:Array fX}{Q:A5→mI→aF→Prop}{a:mI}{w:aF}{l:Nat}(hm:P.follows .mixedOrders=true)(hd:Ba cM=true)
 (h:BU eP n P .any cM Q cM.size (gR cM.size false) a w.drew):(tD id cM true).wpIn (Fence.wide.inRound l) n P Q a w:=
 wpIn_region_any hm (SE l hd _ _ _ _ h)
end
section
variable{P:dN}
theorem bt{n:Nat}{o:fX}{a:mI}{w:aF}{K:mI→aF→Prop}{Q:A5→mI→aF→Prop}(h:Ng P o a w K Q):sP eP n P o a w K Q:=by
 refine⟨fun _ _=>trivial,?_⟩;unfold Ng at h;show Oper.uponIn _ _ _ _ _ _ _ ((Oper.semAt none a.eval o).run P w);rw[Oper.semAt_none];generalize(execOp a.eval o).run P w=r at h⊢;unfold Oper.upon at h;split at h
 ·exact h
 ·exact h
 ·exact h
 ·refine⟨fun h=>(by cases h),(callsIn_wide.2 h).mono ?_⟩;intro e w' he;exact he
 ·refine⟨fun h=>(by cases h),?_⟩;intro c cs _;obtain⟨v,w',r,s⟩:=h c cs;exact⟨v,w',r,stepsIn_wide.2 s⟩
 ·exact h
 ·exact h.elim
theorem FJ{n:Nat}{cM:Array fX}{Q:A5→mI→aF→Prop}{i:Nat}{K:mI→aF→Prop}{a:mI}{w:aF}(hQ:¬LetsOut Q)(h:wpOp P cM Q i K a w):wpOpIn eP n P cM Q i K a w:=by
 unfold wpOp at h;unfold wpOpIn;cases ho:cM[i]? with
 |none=>rw[ho]at h;exact h
 |some o=>
  rw[ho]at h;simp only at h⊢;split
  ·rename_i hw;rw[ip hw]at h;rcases h with h|⟨_,h⟩
   ·exact bt h
   ·exact absurd h hQ
  ·rename_i hw;rw[iN hw]at h;exact⟨fun _ _=>trivial,h⟩
theorem Ee{n:Nat}{md:gU}{cM:Array fX}{Q:A5→mI→aF→Prop}{S:aF→Prop}(hQ:¬LetsOut Q):
 ∀(fuel:Nat)(iY:Array Bool)(a:mI)(w:aF),wpAnyH P md cM Q S fuel iY a w→BU eP n P md cM Q fuel iY a w
 |0,_,_,_,h=>h
 |fuel+1,_,_,_,h=>⟨h.1,fun i hi=>FJ hQ (wpOp_mono (fun a' w' h'=>Ee hQ fuel _ a' w' h'.2) (h.2 i hi))⟩
theorem FL{n:Nat}{id:Nat}{cM:Array fX}{Q:A5→mI→aF→Prop}{a:mI}{w:aF}{l:Nat}{S:aF→Prop}(hm:P.follows .mixedOrders=true)(hd:Ba cM=true)(hQ:¬LetsOut Q)(hS:S w.drew)
 (h:S w.drew→wpAnyH P .any cM Q S cM.size (gR cM.size false) a w.drew):(tD id cM true).wpIn (Fence.wide.inRound l) n P Q a w:=
 Bb hm hd (Ee hQ _ _ _ _ (h hS))
def iM(Q:A5→mI→aF→Prop):A5→mI→aF→Prop
 |.normal,a,w=>Q .normal a w
 |_,_,_=>False
theorem iM.normal{Q:A5→mI→aF→Prop}{a:mI}{w:aF}(h:Q .normal a w):iM Q .normal a w:=h
theorem iM.imp{Q:A5→mI→aF→Prop}:∀(e:A5)(a:mI)(w:aF),iM Q e a w→Q e a w:=fun e a w h=>by
 cases e<;>first |exact h|exact(h:False).elim
theorem iM.no{Q:A5→mI→aF→Prop}:¬LetsOut (iM Q):=fun⟨_,_,h⟩=>(h:False).elim
theorem rY{n:Nat}{id:Nat}{cM:Array fX}{Q:A5→mI→aF→Prop}{a:mI}{w:aF}{l:Nat}{S:aF→Prop}(hm:P.follows .mixedOrders=true)(hd:Ba cM=true)(hS:S w.drew)
 (h:S w.drew→wpAnyH P .any cM (iM Q) S cM.size (gR cM.size false) a w.drew):(tD id cM true).wpIn (Fence.wide.inRound l) n P Q a w:=
 wpIn_mono (FL hm hd iM.no hS h) iM.imp
end
section
def Qc(F:Fence)(n:Nat)(P:dN)(gf:Nat)(lb:Array aP)(vR:Nat→Array aP)(Kp:aF→aF→Prop)(N:Nat)(w:aF):Prop:=
 ∀(l:Nat)(J Jx:Nat→aF→Prop)(W:aF),Below w.heap.size w W→(∀k V V',J k V→Below V.heap.size V V'→J k V')→
  (∀k V,k<N→J k V→YieldAt F (n-1) P l (vR k) V fun e V'=>(e=bA (aV true)∧J (k+1) V'∧Kp V V')∨(e=bA (aV false)∧Jx (k+1) V'))→
  J 0 W→CallsIn F n P gf (#[.func (.yield l) #[] #[]]++lb) W fun e W'=>(∃v,e=bA v)∧(J N W'∨∃k,k≤N∧Jx k W')
theorem rZ{W W':aF}(h:Below W.heap.size W W'):W.grownBy W' none:=⟨h.os,h.tape,h.output,h.size,fun k hk _=>h.block k hk⟩
variable{F:Fence}{n:Nat}{P:dN}
theorem Qd{g:tE}{ps:Array Tmp}{assign body:D4}{Q:A5→mI→aF→Prop}{a:mI}{w:aF}
 (hro:F.round=none)(h1:1≤n){gf:Nat}{lb:Array aP}(hg:a.eval g=.func (.func gf) #[] lb)(hFg:F.fn gf)(eg:∀args w,(rL gf args).run P w=.ok (.enter gf args) w)
 {vR:Nat→Array aP}{Kp:aF→aF→Prop}{N:Nat}{w0:aF}(Lj:Qc F (n-1) P gf lb vR Kp N w0)(Ib:Below w0.heap.size w0 w)
 (Ws:∀{A B C:aF},Kp A B→Kp B C→Kp A C)(YO:∀(W:aF)(l:Nat)(o o':Obj),w.heap.size≤l→W.heap[l]? =some o→o.isCells=false→o.isWalk=false→Kp W (W.putObj l o'))(nL:∀k,(vR k).size=ps.size)
 (I:Nat→aF→Prop)(Ix:D4→Nat→aF→Prop)(hI:xZ w.heap.size I)(No:∀c,xZ w.heap.size (Ix c))(h0:I 0 w)(Ir:Nat→mI)
 (pC:∀(l:Nat)(k:Nat)(W:aF)(K:mI→aF→Prop),K (Ir k) W→
  assign.wpIn (F.inRound l) (n-1-1) P (Exit.then K (fun _ _ _=>False)) {tmps:=(ps.zip (vR k)).foldl (fun t(p,v)=>t.setIfInBounds p v) a.tmps,defers:=[]} W)
 (Ab:∀(l:Nat)(k:Nat)(W:aF),k<N→I k W→body.wpIn (F.inRound l) (n-1-1) P (Aa w.heap.size Kp I Ix (k+1) W) (Ir k) W)
 (Ac:∀(D:Nat)(W:aF),w.heap.size≤D→I N W→W.heap[D]? =some (.deferred (some []))→Q .normal {a with defers:={target:=.collected D,args:= #[]}::a.defers} W)
 (Ad:∀(D:Nat)(c:D4)(k:Nat)(W:aF),w.heap.size≤D→k≤N→Ix c k W→W.heap[D]? =some (.deferred (some []))→c.wpIn F n P Q {a with defers:={target:=.collected D,args:= #[]}::a.defers} W):
 (zM g ps assign body).wpIn F n P Q a w:=by
 refine wpIn_rangeFunc ?_
 intro fn hfn
 rw[hro]
 have hD:=jR w (.deferred (some []))
 obtain⟨V,hV⟩:∃V,(w.alloc (.deferred (some []))).alloc (.loop (fZ fn a ps assign body w.heap.size .ready none))=V:=⟨_,rfl⟩
 have kD:V.heap[w.heap.size]? =some (.deferred (some [])):=by rw[←hV];exact(BI _ _ _ (by simp)).trans hD
 have kL:V.heap[w.heap.size+1]? =some (.loop (fZ fn a ps assign body w.heap.size .ready none)):=by
  rw[←hV]
  have:=jR (w.alloc (.deferred (some []))) (.loop (fZ fn a ps assign body w.heap.size .ready none))
  rwa[bH]at this
 have kI:I 0 V:=by rw[←hV];exact hI.alloc _ (hI.alloc _ h0)
 have kB:Below w0.heap.size w0 V:=by
  rw[←hV];exact Ib.trans ((((aL _ w).alloc (aH _) _).alloc (by simp) _).mono Ib.size)
 refine⟨w.heap.size+1,[{target:=.collected w.heap.size,args:= #[]}],V,{target:=.fn (.func gf) lb,args:= #[.func (.yield (w.heap.size+1)) #[] #[]]},V,gf,
  #[.func (.yield (w.heap.size+1)) #[] #[]]++lb,V,?_,?_,?_,?_,fun _=>h1,?_⟩
 ·rw[←hV];exact run_enterLoop_outer _ _ _ _ _
 ·simp only[resolve,hg]
  simp[go_sem]
 ·intro f hf
  simp[Target.leads]at hf
  subst hf;exact hFg
 ·simp[invoke,go_sem,eg]
 ·have wW:=Lj (w.heap.size+1)
   (fun k W=>I k W∧W.heap[w.heap.size+1]? =some (.loop (fZ fn a ps assign body w.heap.size .ready none))∧W.heap[w.heap.size]? =some (.deferred (some [])))
   (fun k W=>∃c,Ix c k W∧W.heap[w.heap.size+1]? =some (.loop (fZ fn a ps assign body w.heap.size .done (some c)))∧W.heap[w.heap.size]? =some (.deferred (some [])))
   V kB (fun k A B⟨h1,h2,h3⟩hb=>⟨hI k A B none h1 (rZ hb) (fun r e=>by cases e),(hb.block _ (Array.getElem?_eq_some_iff.1 h2).1).trans h2,(hb.block _ (Array.getElem?_eq_some_iff.1 h3).1).trans h3⟩) ?round ⟨kI,kL,kD⟩
  case round=>
   rintro k W hk⟨hi,hl,hd⟩
   have hlt:w.heap.size+1<W.heap.size:=(Array.getElem?_eq_some_iff.1 hl).1
   have hy:=run_yield (P:=P) (args:=vR k) hl (by exact nL k)
   refine⟨fn,_,assign,body,hy,roundIn_of_wpIn hfn (pC _ k W _ ⟨_,run_beginRound hl rfl,?_⟩)⟩
   obtain⟨U,hU⟩:∃U,W.putObj (w.heap.size+1) (.loop (fZ fn a ps assign body w.heap.size .busy none))=U:=⟨_,rfl⟩
   have uL:U.heap[w.heap.size+1]? =some (.loop (fZ fn a ps assign body w.heap.size .busy none)):=by rw[←hU];exact nW hlt
   have uD:U.heap[w.heap.size]? =some (.deferred (some [])):=by rw[←hU];exact(dH (by omega)).trans hd
   have uK:Kp W U:=by rw[←hU];exact YO _ _ _ _ (by omega) hl rfl rfl
   have uI:I k U:=by rw[←hU];exact hI.putObj _ hi (by omega) hl rfl
   have SH:∀(j:Option D4)(X:aF),kR w.heap.size U X→
    X.heap[w.heap.size+1]? =some (.loop (fZ fn a ps assign body w.heap.size .busy none))∧
    (N8 (w.heap.size+1) j).run P X=.ok (aV j.isNone) (X.putObj (w.heap.size+1) (.loop (fZ fn a ps assign body w.heap.size (if j.isNone then .ready else .done) j)))∧
    (X.putObj (w.heap.size+1) (.loop (fZ fn a ps assign body w.heap.size (if j.isNone then .ready else .done) j))).heap[w.heap.size+1]? =some (.loop (fZ fn a ps assign body w.heap.size (if j.isNone then .ready else .done) j))∧
    (X.putObj (w.heap.size+1) (.loop (fZ fn a ps assign body w.heap.size (if j.isNone then .ready else .done) j))).heap[w.heap.size]? =some (.deferred (some [])):=by
    intro j X hX
    have xL:=hX.same _ _ (by omega) uL rfl
    exact⟨xL,run_endRound (P:=P) j xL,nW (Array.getElem?_eq_some_iff.1 xL).1,(dH (by omega)).trans (hX.same _ _ (aH _) uD rfl)⟩
   show Code.wpIn _ _ _ _ _ _ (W.putObj (w.heap.size+1) (.loop (fZ fn a ps assign body w.heap.size .busy none)))
   rw[hU]
   refine wpIn_mono (Ab _ k U hk uI) ?_
   intro e a3 X hp
   have Lk:∀c:D4,kR w.heap.size U X∧Ix c (k+1) X→_:=fun c hc=>(SH (some c) X hc.1)
   cases e with
   |normal=>
    obtain⟨xL,xr,yL,yD⟩:=SH none X hp.1
    exact⟨_,_,xr,.inl ⟨rfl,⟨hI.putObj _ hp.2.2 (by omega) xL rfl,yL,yD⟩,Ws (Ws uK hp.2.1) (YO _ _ _ _ (by omega) xL rfl rfl)⟩⟩
   |ret=>
    obtain⟨xL,xr,yL,yD⟩:=Lk .ret hp
    exact⟨_,_,xr,.inr ⟨rfl,.ret,(No _).putObj _ hp.2 (by omega) xL rfl,yL,yD⟩⟩
   |exit id=>
    obtain⟨xL,xr,yL,yD⟩:=Lk (.exit id) hp
    exact⟨_,_,xr,.inr ⟨rfl,.exit id,(No _).putObj _ hp.2 (by omega) xL rfl,yL,yD⟩⟩
   |goto t=>
    obtain⟨xL,xr,yL,yD⟩:=Lk (.goto t) hp
    exact⟨_,_,xr,.inr ⟨rfl,.goto t,(No _).putObj _ hp.2 (by omega) xL rfl,yL,yD⟩⟩
   |panic ch=>exact hp.elim
   |outgrown=>exact hp.elim
  refine wW.mono ?_
  rintro e W2⟨⟨v,rfl⟩,(⟨hi,hl,hd⟩|⟨k,hk,c,hi,hl,hd⟩)⟩
  ·exact⟨none,_,N9 (P:=P) hl (by simp[fZ]),Ac _ _ (aH _) (hI.putObj _ hi (by omega) hl rfl) ((dH (by omega)).trans hd)⟩
  ·exact⟨some c,_,N9 (P:=P) hl (by simp[fZ]),Ad _ c k _ (aH _) hk ((No c).putObj _ hi (by omega) hl rfl) ((dH (by omega)).trans hd)⟩
theorem Ll{g:tE}{ps:Array Tmp}{assign body:D4}{Q:A5→mI→aF→Prop}{a:mI}{w:aF}
 {gf:Nat}{lb:Array aP}(hg:a.eval g=.func (.func gf) #[] lb)(eg:∀args w,(rL gf args).run P w=.ok (.enter gf args) w)
 {vR:Nat→Array aP}{Kp:aF→aF→Prop}{N:Nat}(Lj:Qc eP 8 P gf lb vR Kp N w)
 (Ws:∀{A B C:aF},Kp A B→Kp B C→Kp A C)(YO:∀(W:aF)(l:Nat)(o o':Obj),w.heap.size≤l→W.heap[l]? =some o→o.isCells=false→o.isWalk=false→Kp W (W.putObj l o'))(nL:∀k,(vR k).size=ps.size)
 (I:Nat→aF→Prop)(Ix:D4→Nat→aF→Prop)(hI:xZ w.heap.size I)(No:∀c,xZ w.heap.size (Ix c))(h0:I 0 w)(Ir:Nat→mI)
 (pC:∀(l:Nat)(k:Nat)(W:aF)(K:mI→aF→Prop),K (Ir k) W→
  assign.wpIn (Fence.wide.inRound l) 7 P (Exit.then K (fun _ _ _=>False)) {tmps:=(ps.zip (vR k)).foldl (fun t(p,v)=>t.setIfInBounds p v) a.tmps,defers:=[]} W)
 (Ab:∀(l:Nat)(k:Nat)(W:aF),k<N→I k W→body.wpIn (Fence.wide.inRound l) 7 P (Aa w.heap.size Kp I Ix (k+1) W) (Ir k) W)
 (Ac:∀(D:Nat)(W:aF),w.heap.size≤D→I N W→W.heap[D]? =some (.deferred (some []))→Q .normal {a with defers:={target:=.collected D,args:= #[]}::a.defers} W)
 (Ad:∀(D:Nat)(c:D4)(k:Nat)(W:aF),w.heap.size≤D→k≤N→Ix c k W→W.heap[D]? =some (.deferred (some []))→c.wp P Q {a with defers:={target:=.collected D,args:= #[]}::a.defers} W):
 (zM g ps assign body).wp P Q a w:=
 (wpIn_wide (n:=9)).1 (Qd (F:=eP) rfl (by decide) hg trivial eg Lj (aL _ _) Ws YO nL I Ix hI No h0 Ir pC Ab Ac (fun D c k W h1 h2 h3 h4=>wpIn_wide.2 (Ad D c k W h1 h2 h3 h4)))
end
section
variable{F:Fence}{n:Nat}{P:dN}
theorem SeqN.m{gf:Nat}{lb:Array aP}{vR:Nat→Array aP}{Kp:aF→aF→Prop}{N:Nat}{w:aF}(h:SeqN F n P gf lb vR Kp N w):Qc F n P gf lb vR Kp N w:=fun l J Jx W hW _ hY h0=>h l J Jx W hW hY h0
theorem Qe{g:tE}{ps:Array Tmp}{assign body:D4}{Q:A5→mI→aF→Prop}{a:mI}{w:aF}
 (hro:F.round=none)(h1:1≤n){gf:Nat}{lb:Array aP}(hg:a.eval g=.func (.func gf) #[] lb)(hFg:F.fn gf)(eg:∀args w,(rL gf args).run P w=.ok (.enter gf args) w)
 {vR:Nat→Array aP}{Kp:aF→aF→Prop}{N:Nat}{w0:aF}(Lj:Qc F (n-1) P gf lb vR Kp N w0)(Ib:Below w0.heap.size w0 w)
 (Ws:∀{A B C:aF},Kp A B→Kp B C→Kp A C)(YO:∀(W:aF)(l:Nat)(o o':Obj),w.heap.size≤l→W.heap[l]? =some o→o.isCells=false→o.isWalk=false→Kp W (W.putObj l o'))(nL:∀k,(vR k).size=ps.size)
 (I:Nat→aF→Prop)(Ix:D4→Nat→aF→Prop)(hI:xZ w.heap.size I)(No:∀c,xZ w.heap.size (Ix c))(h0:I 0 w)(I1:mI→Nat→aF→Prop)(hI1:∀a',xZ w.heap.size (I1 a'))
 (pC:∀(l:Nat)(k:Nat)(W:aF)(K:mI→aF→Prop),k<N→I k W→(∀a' W',kR w.heap.size W W'→Kp W W'→I1 a' k W'→K a' W')→
  assign.wpIn (F.inRound l) (n-1-1) P (Exit.then K (fun _ _ _=>False)) {tmps:=(ps.zip (vR k)).foldl (fun t(p,v)=>t.setIfInBounds p v) a.tmps,defers:=[]} W)
 (Ab:∀(l:Nat)(k:Nat)(a':mI)(W:aF),k<N→I1 a' k W→body.wpIn (F.inRound l) (n-1-1) P (Aa w.heap.size Kp I Ix (k+1) W) a' W)
 (Ac:∀(D:Nat)(W:aF),w.heap.size≤D→I N W→W.heap[D]? =some (.deferred (some []))→Q .normal {a with defers:={target:=.collected D,args:= #[]}::a.defers} W)
 (Ad:∀(D:Nat)(c:D4)(k:Nat)(W:aF),w.heap.size≤D→k≤N→Ix c k W→W.heap[D]? =some (.deferred (some []))→c.wpIn F n P Q {a with defers:={target:=.collected D,args:= #[]}::a.defers} W):
 (zM g ps assign body).wpIn F n P Q a w:=by
 refine wpIn_rangeFunc ?_
 intro fn hfn
 rw[hro]
 have hD:=jR w (.deferred (some []))
 obtain⟨V,hV⟩:∃V,(w.alloc (.deferred (some []))).alloc (.loop (fZ fn a ps assign body w.heap.size .ready none))=V:=⟨_,rfl⟩
 have kD:V.heap[w.heap.size]? =some (.deferred (some [])):=by rw[←hV];exact(BI _ _ _ (by simp)).trans hD
 have kL:V.heap[w.heap.size+1]? =some (.loop (fZ fn a ps assign body w.heap.size .ready none)):=by
  rw[←hV]
  have:=jR (w.alloc (.deferred (some []))) (.loop (fZ fn a ps assign body w.heap.size .ready none))
  rwa[bH]at this
 have kI:I 0 V:=by rw[←hV];exact hI.alloc _ (hI.alloc _ h0)
 have kB:Below w0.heap.size w0 V:=by
  rw[←hV];exact Ib.trans ((((aL _ w).alloc (aH _) _).alloc (by simp) _).mono Ib.size)
 refine⟨w.heap.size+1,[{target:=.collected w.heap.size,args:= #[]}],V,{target:=.fn (.func gf) lb,args:= #[.func (.yield (w.heap.size+1)) #[] #[]]},V,gf,
  #[.func (.yield (w.heap.size+1)) #[] #[]]++lb,V,?_,?_,?_,?_,fun _=>h1,?_⟩
 ·rw[←hV];exact run_enterLoop_outer _ _ _ _ _
 ·simp only[resolve,hg]
  simp[go_sem]
 ·intro f hf
  simp[Target.leads]at hf
  subst hf;exact hFg
 ·simp[invoke,go_sem,eg]
 ·have wW:=Lj (w.heap.size+1)
   (fun k W=>I k W∧W.heap[w.heap.size+1]? =some (.loop (fZ fn a ps assign body w.heap.size .ready none))∧W.heap[w.heap.size]? =some (.deferred (some [])))
   (fun k W=>∃c,Ix c k W∧W.heap[w.heap.size+1]? =some (.loop (fZ fn a ps assign body w.heap.size .done (some c)))∧W.heap[w.heap.size]? =some (.deferred (some [])))
   V kB (fun k A B⟨h1,h2,h3⟩hb=>⟨hI k A B none h1 (rZ hb) (fun r e=>by cases e),(hb.block _ (Array.getElem?_eq_some_iff.1 h2).1).trans h2,(hb.block _ (Array.getElem?_eq_some_iff.1 h3).1).trans h3⟩) ?round ⟨kI,kL,kD⟩
  case round=>
   rintro k W hk⟨hi,hl,hd⟩
   have hy:=run_yield (P:=P) (args:=vR k) hl (by exact nL k)
   refine⟨fn,_,assign,body,hy,roundIn_of_wpIn hfn (pC _ k W _ hk hi (fun a' W' hkf hkp hi1=>?_))⟩
   have qd:=hkf.same _ _ (by omega) hl rfl
   have hd':=hkf.same _ _ (aH _) hd rfl
   have hlt:w.heap.size+1<W'.heap.size:=(Array.getElem?_eq_some_iff.1 qd).1
   refine⟨_,run_beginRound qd rfl,?_⟩
   obtain⟨U,hU⟩:∃U,W'.putObj (w.heap.size+1) (.loop (fZ fn a ps assign body w.heap.size .busy none))=U:=⟨_,rfl⟩
   have uL:U.heap[w.heap.size+1]? =some (.loop (fZ fn a ps assign body w.heap.size .busy none)):=by rw[←hU];exact nW hlt
   have uD:U.heap[w.heap.size]? =some (.deferred (some [])):=by rw[←hU];exact(dH (by omega)).trans hd'
   have uK:Kp W U:=by rw[←hU];exact Ws hkp (YO _ _ _ _ (by omega) qd rfl rfl)
   have uI:I1 a' k U:=by rw[←hU];exact(hI1 a').putObj _ hi1 (by omega) qd rfl
   have SH:∀(j:Option D4)(X:aF),kR w.heap.size U X→
    X.heap[w.heap.size+1]? =some (.loop (fZ fn a ps assign body w.heap.size .busy none))∧
    (N8 (w.heap.size+1) j).run P X=.ok (aV j.isNone) (X.putObj (w.heap.size+1) (.loop (fZ fn a ps assign body w.heap.size (if j.isNone then .ready else .done) j)))∧
    (X.putObj (w.heap.size+1) (.loop (fZ fn a ps assign body w.heap.size (if j.isNone then .ready else .done) j))).heap[w.heap.size+1]? =some (.loop (fZ fn a ps assign body w.heap.size (if j.isNone then .ready else .done) j))∧
    (X.putObj (w.heap.size+1) (.loop (fZ fn a ps assign body w.heap.size (if j.isNone then .ready else .done) j))).heap[w.heap.size]? =some (.deferred (some [])):=by
    intro j X hX
    have xL:=hX.same _ _ (by omega) uL rfl
    exact⟨xL,run_endRound (P:=P) j xL,nW (Array.getElem?_eq_some_iff.1 xL).1,(dH (by omega)).trans (hX.same _ _ (aH _) uD rfl)⟩
   show Code.wpIn _ _ _ _ _ _ (W'.putObj (w.heap.size+1) (.loop (fZ fn a ps assign body w.heap.size .busy none)))
   rw[hU]
   refine wpIn_mono (Ab _ k a' U hk uI) ?_
   intro e a3 X hp
   have Lk:∀c:D4,kR w.heap.size U X∧Ix c (k+1) X→_:=fun c hc=>(SH (some c) X hc.1)
   cases e with
   |normal=>
    obtain⟨xL,xr,yL,yD⟩:=SH none X hp.1
    exact⟨_,_,xr,.inl ⟨rfl,⟨hI.putObj _ hp.2.2 (by omega) xL rfl,yL,yD⟩,Ws (Ws uK hp.2.1) (YO _ _ _ _ (by omega) xL rfl rfl)⟩⟩
   |ret=>
    obtain⟨xL,xr,yL,yD⟩:=Lk .ret hp
    exact⟨_,_,xr,.inr ⟨rfl,.ret,(No _).putObj _ hp.2 (by omega) xL rfl,yL,yD⟩⟩
   |exit id=>
    obtain⟨xL,xr,yL,yD⟩:=Lk (.exit id) hp
    exact⟨_,_,xr,.inr ⟨rfl,.exit id,(No _).putObj _ hp.2 (by omega) xL rfl,yL,yD⟩⟩
   |goto t=>
    obtain⟨xL,xr,yL,yD⟩:=Lk (.goto t) hp
    exact⟨_,_,xr,.inr ⟨rfl,.goto t,(No _).putObj _ hp.2 (by omega) xL rfl,yL,yD⟩⟩
   |panic ch=>exact hp.elim
   |outgrown=>exact hp.elim
  refine wW.mono ?_
  rintro e W2⟨⟨v,rfl⟩,(⟨hi,hl,hd⟩|⟨k,hk,c,hi,hl,hd⟩)⟩
  ·exact⟨none,_,N9 (P:=P) hl (by simp[fZ]),Ac _ _ (aH _) (hI.putObj _ hi (by omega) hl rfl) ((dH (by omega)).trans hd)⟩
  ·exact⟨some c,_,N9 (P:=P) hl (by simp[fZ]),Ad _ c k _ (aH _) hk ((No c).putObj _ hi (by omega) hl rfl) ((dH (by omega)).trans hd)⟩
theorem Lm{g:tE}{ps:Array Tmp}{assign body:D4}{Q:A5→mI→aF→Prop}{a:mI}{w:aF}
 {gf:Nat}{lb:Array aP}(hg:a.eval g=.func (.func gf) #[] lb)(eg:∀args w,(rL gf args).run P w=.ok (.enter gf args) w)
 {vR:Nat→Array aP}{Kp:aF→aF→Prop}{N:Nat}(Lj:Qc eP 8 P gf lb vR Kp N w)
 (Ws:∀{A B C:aF},Kp A B→Kp B C→Kp A C)(YO:∀(W:aF)(l:Nat)(o o':Obj),w.heap.size≤l→W.heap[l]? =some o→o.isCells=false→o.isWalk=false→Kp W (W.putObj l o'))(nL:∀k,(vR k).size=ps.size)
 (I:Nat→aF→Prop)(Ix:D4→Nat→aF→Prop)(hI:xZ w.heap.size I)(No:∀c,xZ w.heap.size (Ix c))(h0:I 0 w)(I1:mI→Nat→aF→Prop)(hI1:∀a',xZ w.heap.size (I1 a'))
 (pC:∀(l:Nat)(k:Nat)(W:aF)(K:mI→aF→Prop),k<N→I k W→(∀a' W',kR w.heap.size W W'→Kp W W'→I1 a' k W'→K a' W')→
  assign.wpIn (Fence.wide.inRound l) 7 P (Exit.then K (fun _ _ _=>False)) {tmps:=(ps.zip (vR k)).foldl (fun t(p,v)=>t.setIfInBounds p v) a.tmps,defers:=[]} W)
 (Ab:∀(l:Nat)(k:Nat)(a':mI)(W:aF),k<N→I1 a' k W→body.wpIn (Fence.wide.inRound l) 7 P (Aa w.heap.size Kp I Ix (k+1) W) a' W)
 (Ac:∀(D:Nat)(W:aF),w.heap.size≤D→I N W→W.heap[D]? =some (.deferred (some []))→Q .normal {a with defers:={target:=.collected D,args:= #[]}::a.defers} W)
 (Ad:∀(D:Nat)(c:D4)(k:Nat)(W:aF),w.heap.size≤D→k≤N→Ix c k W→W.heap[D]? =some (.deferred (some []))→c.wp P Q {a with defers:={target:=.collected D,args:= #[]}::a.defers} W):
 (zM g ps assign body).wp P Q a w:=
 (wpIn_wide (n:=9)).1 (Qe (F:=eP) rfl (by decide) hg trivial eg Lj (aL _ _) Ws YO nL I Ix hI No h0 I1 hI1 pC Ab Ac (fun D c k W h1 h2 h3 h4=>wpIn_wide.2 (Ad D c k W h1 h2 h3 h4)))
end
end
section
open Go Go.Lib
def xW(c:UInt8):Bool:=48≤c.toNat&&c.toNat≤57
def num(l:List UInt8):Nat:=l.foldl (fun a c=>a*10+(c.toNat-48)) 0
def mag(l:List UInt8):List UInt8:=if l.head? =some 45 then l.tail else l
def bu(l:List UInt8):Bool:= !l.isEmpty&&l.all xW&&(l.head? !=some 48||l.length==1)
def uj(l:List UInt8):Bool:=bu (mag l)&&(l.head? !=some 45||mag l !=[48])
def Qf(l:List UInt8):Int:=if l.head? =some 45 then -(num (mag l):Int)else(num (mag l):Int)
theorem wZ{x k:Nat}(m:Nat)(h:x<10^k)(hk:k≤m):x<10^m:=dC h (pJ (by decide) hk)
theorem Ln(l:List UInt8)(c:UInt8):num (l++[c])=num l*10+(c.toNat-48):=by
 simp[num,Kz]
theorem bz(l:List UInt8)(a:Nat):l.foldl (fun a c=>a*10+(c.toNat-48)) a=a*10^l.length+num l:=by
 induction l generalizing a with
 |nil=>simp[num]
 |cons c l ih=>
  have h:=ih (0*10+(c.toNat-48));have h':num (c::l)=(0*10+(c.toNat-48))*10^l.length+num l:=h;rw[oI,ih,h',bD,Ck,Nat.add_mul,Nat.mul_assoc,Nat.mul_comm 10 (10^_),Nat.zero_mul,cC,Nat.add_assoc]
theorem Wt(l r:List UInt8):num (l++r)=num l*10^r.length+num r:=by
 have h:num (l++r)=List.foldl (fun a c=>a*10+(c.toNat-48)) (num l) r:=by rw[num,Kz];rfl
 rw[h,bz]
theorem un(c:UInt8)(l:List UInt8):num (c::l)=(c.toNat-48)*10^l.length+num l:=by
 have:=Wt [c] l;simpa[num]using this
theorem uo(l:List UInt8)(h:l.all xW=true):num l<10^l.length:=by
 induction l with
 |nil=>simp[num]
 |cons c l ih=>
  rw[vC,bQ]at h;have h1:c.toNat-48≤9:=by have:=h.1;simp[xW]at this;omega
  have h2:=ih h.2;rw[un,bD,Ck];have:(c.toNat-48)*10^l.length≤9*10^l.length:=Nat.mul_le_mul_right _ h1;omega
theorem xB(d:Nat)(h:d<10):xW (zO (48+d))=true∧(zO (48+d)).toNat=48+d:=by
 have:(zO (48+d)).toNat=48+d:=by simp[UInt8.toNat_ofNat'];omega
 exact⟨by unfold xW;rw[this];simp;omega,this⟩
theorem iO{u:Nat}(h:u<10):bZ u=[zO (48+u)]:=by rw[bZ,dif_pos h]
theorem pS{u:Nat}(h:¬u<10):bZ u=bZ (u/10)++[zO (48+u%10)]:=by rw[bZ,dif_neg h]
theorem qG{l r:List UInt8}(h:l≠[]):(l++r).head? =l.head? :=by
 cases l with
 |nil=>exact absurd rfl h
 |cons c l=>rfl
theorem gS(u:Nat):bZ u≠[]:=by
 by_cases h:u<10
 ·rw[iO h];simp
 ·rw[pS h];simp
theorem kM(u:Nat):(bZ u).all xW=true:=by
 induction u using Dm with
 |_ u ih=>
  by_cases h:u<10
  ·rw[iO h,vC,(xB u h).1];rfl
  ·rw[pS h,List.all_append,ih (u/10) (by omega),vC,(xB (u%10) (by omega)).1];rfl
theorem mK(u:Nat):num (bZ u)=u:=by
 induction u using Dm with
 |_ u ih=>
  by_cases h:u<10
  ·rw[iO h];simp only[num,oI,List.foldl_nil,(xB u h).2];omega
  ·rw[pS h,Ln,ih (u/10) (by omega),(xB (u%10) (by omega)).2];omega
theorem xC(u:Nat)(h:u≠0):(bZ u).head?≠some 48:=by
 induction u using Dm with
 |_ u ih=>
  by_cases h1:u<10
  ·rw[iO h1];simp only[List.head?_cons,ne_eq,vY];intro e;have:=congrArg UInt8.toNat e;rw[(xB u h1).2]at this;simp at this;omega
  ·rw[pS h1,qG (gS _)];exact ih (u/10) (by omega) (by omega)
theorem mW:bZ 0=[48]:=by rw[iO (by decide)];rfl
theorem Ef(u:Nat):bu (bZ u)=true:=by
 have h1:=gS u;have h2:=kM u;by_cases h:u=0
 ·subst h;rw[mW];decide
 ·have h3:=xC u h;simp[bu,h1,h2,h3]
theorem tY(l:List UInt8)(h:bu l=true):bZ (num l)=l:=by
 obtain⟨n,hn⟩:∃n,l.length=n:=⟨_,rfl⟩;induction n using Dm generalizing l with
 |_ n ih=>
  simp only[bu,bQ,dP,PN]at h;obtain⟨⟨h1,h2⟩,h3⟩:=h;rcases List.eq_nil_or_concat l with e|⟨r,c,e⟩
  ·exact absurd e h1
  ·rw[List.concat_eq_append]at e;subst e;rw[List.all_append,bQ]at h2;have hc:xW c=true:=by simpa using h2.2
   have hc':48≤c.toNat∧c.toNat≤57:=by simpa[xW]using hc
   have ec:zO (48+(c.toNat-48))=c:=by rw[show 48+(c.toNat-48)=c.toNat by omega];simp
   rw[Ln];by_cases hr:r=[]
   ·subst hr;rw[show num []*10=0 from rfl,cC,iO (by omega),ec];rfl
   ·have hh:r.head?≠some 48:=by
     simp only[jC,bne_iff_ne,ne_eq,beq_iff_eq,bO,bD,List.length_nil]at h3;rw[qG hr]at h3;rcases h3 with h3|h3
     ·exact h3
     ·have:=List.length_pos_iff.2 hr;omega
    have Cd:bu r=true:=by simp[bu,hr,h2.1,hh]
    have YP:=ih r.length (by simp at hn;omega) r Cd rfl;have hpos:num r≠0:=by
     intro e0;rw[e0,mW]at YP;rw[←YP]at hh;simp at hh
    rw[pS (by omega),show(num r*10+(c.toNat-48))/10=num r by omega,show(num r*10+(c.toNat-48))%10=c.toNat-48 by omega,YP,ec]
theorem xD{n:Int}(h:n<0):cG n=45::bZ n.natAbs:=by rw[cG,ip h]
theorem kN{n:Int}(h:0≤n):cG n=bZ n.natAbs:=by
 rw[cG,iN (by omega)];congr 1;omega
theorem Cq(u:Nat):∃c r,bZ u=c::r∧xW c=true:=by
 cases h:bZ u with
 |nil=>exact absurd h (gS u)
 |cons c r=>have:=kM u;rw[h,vC,bQ]at this;exact⟨c,r,rfl,this.1⟩
theorem yF(u:Nat):(bZ u).head?≠some 45:=by
 obtain⟨c,r,h,hc⟩:=Cq u;rw[h];simp only[List.head?_cons,ne_eq,vY];rintro rfl;exact absurd hc (by decide)
theorem FM(n:Int):mag (cG n)=bZ n.natAbs:=by
 by_cases h:n<0
 ·rw[xD h];simp[mag]
 ·rw[kN (by omega),mag,iN (yF _)]
theorem wF(n:Int):(cG n).head? =some 45↔n<0:=by
 by_cases h:n<0
 ·rw[xD h];simp[h]
 ·rw[kN (by omega)];simp[yF,h]
theorem Cs(n:Int):uj (cG n)=true:=by
 simp only[uj,FM,Ef,Bool.true_and,jC,bne_iff_ne,ne_eq,wF];by_cases h:n<0
 ·right;intro e;have:=mK n.natAbs;rw[e]at this;have h0:num [48]=0:=by decide
  omega
 ·left;exact h
theorem Ae(n:Int):Qf (cG n)=n:=by
 rw[Qf,FM,mK];by_cases h:n<0
 ·rw[ip ((wF n).2 h)];omega
 ·rw[iN (fun e=>h ((wF n).1 e))];omega
theorem cd(l:List UInt8)(h:uj l=true):cG (Qf l)=l:=by
 simp only[uj,bQ,jC,bne_iff_ne,ne_eq]at h;obtain⟨h1,h2⟩:=h;have hd:=tY (mag l) h1;by_cases hm:l.head? =some 45
 ·have hl:l=45::mag l:=by
   cases l with
   |nil=>simp at hm
   |cons c r=>simp at hm;subst hm;simp[mag]
  have iC:mag l≠[48]:=by simpa[hm]using h2
  have hpos:num (mag l)≠0:=fun e=>iC (by rw[←hd,e,mW]);rw[Qf,ip hm,xD (by omega)];rw[show(-(num (mag l):Int)).natAbs=num (mag l) by omega,hd];exact hl.symm
 ·rw[Qf,iN hm,kN (by omega),eD,hd,mag,iN hm]
theorem mT(u k:Nat)(hk:0<k):(bZ u).length≤k↔u<10^k:=by
 constructor
 ·intro h;have h1:=uo _ (kM u);rw[mK]at h1;exact dC h1 (pJ (by decide) h)
 ·intro h;rw[decDigits_length];induction k generalizing u with
  |zero=>omega
  |succ k ih=>
   by_cases h1:u<10
   ·rw[nDigits_small h1];omega
   ·rw[nDigits_big h1];have cg:0<k:=by
     rcases Nat.eq_zero_or_pos k with e|e
     ·subst e;simp at h;omega
     ·exact e
    have:=ih (u/10) cg (by rw[Ck]at h;omega);omega
theorem uq{a b:Int}(h:cG a=cG b):a=b:=by rw[←Ae a,←Ae b,h]
def frm(l:List UInt8):Nat:=if l.head? =some 45 then 1 else 0
theorem ur(l:List UInt8):mag l=l.drop (frm l):=by
 unfold mag frm;split
 ·cases l<;>rfl
 ·rfl
theorem Wu(l:List UInt8):(mag l).length=l.length-frm l:=by rw[ur,List.length_drop]
theorem Wv{l:List UInt8}(h:uj l=true):frm l<l.length:=by
 simp only[uj,bu,bQ,dP,PN]at h;have:=List.length_pos_iff.2 h.1.1.1;rw[Wu]at this;omega
theorem Ww{l:List UInt8}(h:uj l=true):(mag l).all xW=true:=by
 simp only[uj,bu,bQ]at h;exact h.1.1.2
end
section
open Go
end
section
open Go Go.RowKit
theorem ret_int{k:IntKind}{a b:Int}(h:a=b):bA (aC k a)=bA (aC k b):=by rw[h]
def bs(l:List UInt8):ByteArray:=⟨l.toArray⟩
theorem fY(l:List UInt8):(bs l).data.toList=l:=rfl
theorem lD(l:List UInt8):(bs l).size=l.length:=by simp[bs,be]
theorem bs_eq(s:ByteArray):bs s.data.toList=s:=by cases s;simp[bs]
theorem ut{s:ByteArray}{l:List UInt8}(h:s.data.toList=l):s=bs l:=by rw[←h,bs_eq]
abbrev iv(n:Nat):aP:=aC aB (n:Int)
def Rd(w:aF)(a:Option cO)(xs:List Nat):Prop:=
 ∀i,i<xs.length→∃b off,a=some ⟨b,off,none⟩∧w.cell? ⟨b,off+i,none⟩=some (iv (xs.getD i 0))
theorem zA{a b c:aF}{row:Option Nat}(h:a.grownBy b none)(k:b.grownBy c row):a.grownBy c row:=
 ⟨k.os.trans h.os,k.tape.trans h.tape,k.output.trans h.output,aU h.size k.size,fun i hi iC=>(k.block i (dC hi h.size) iC).trans (h.block i hi (by simp))⟩
theorem Is(w:aF)(DU:List aP)(e:dT):∀j u,DU[j]? =some u→(w.alloc (aN DU.toArray e)).cell? ((⟨w.heap.size,0,none⟩:cO).add j)=some u:=by
 intro j u hj;have:(⟨w.heap.size,0,none⟩:cO).add j=⟨w.heap.size,j,none⟩:=by unfold Addr.add;split <;>simp_all
 rw[this,FG _ _ j DU.toArray e (0,0) (heap_alloc_new w _)];simpa using hj
theorem kU{w:aF}{cL e size:Nat}{g n cap:Nat}{cs:List aP}(h:w.ownsRow cL e size (aD (some ⟨g,0,none⟩) n cap) n cs):cL≤g∧g<w.heap.size∧n≤cap∧cap≤maxLen:=by
 rcases h.2 with⟨h1,_⟩|⟨g',c,oL,hv,hb,hg,hn,hc,_⟩
 ·simp at h1
 ·injection hv with e1 e2 e3;injection e1 with e1;injection e1 with e1;subst e1 e3;exact⟨hb,(Array.getElem?_eq_some_iff.1 hg).1,hn,hc⟩
theorem It{W:aF}{cL e size:Nat}{v:aP}{k:Nat}{xs:List aP}(h:W.ownsRow cL e size v (k+1) xs):∃g cap,v=aD (some ⟨g,0,none⟩) (k+1) cap:=by
 rcases h.2 with⟨_,h2⟩|⟨g,cap,oL,hv,_⟩
 ·omega
 ·exact⟨g,cap,hv⟩
theorem oN{W:aF}{cL e size:Nat}{v:aP}{n:Nat}{xs:List aP}(hn:0<n)(h:W.ownsRow cL e size v n xs):∃g cap,v=aD (some ⟨g,0,none⟩) n cap:=by
 rcases h.2 with⟨_,h2⟩|⟨g,cap,oL,hv,_⟩
 ·omega
 ·exact⟨g,cap,hv⟩
theorem uE{P:dN}{w:aF}{cM:Array fX}{rest:List fX}{o:fX}{a:mI}{Q:A5→mI→aF→Prop}(FN:o.guard=none)(s x:tE)(t:dT)
 (ho:o.op=.call {callee:=.builtin .append,args:= #[s,x],argTypes:= #[t,t]})
 (cL:Nat)(e:dT)(i:TypeInfo)(z:aP)(size bytes:Nat)(ht:P.underlying t=some (TypeDesc.slice e))(hi:P.info? e=some i)(hz:i.zero=some z)
 (uu:i.size=size)(hby:i.bytes=bytes)(hzs:z.cells.size=size)(BX:0<size)
 (v:aP)(n:Nat)(xs:List aP)(hs:a.eval s=v)(dI:w.ownsRow cL e size v n xs)
 (DU:List aP)(hx:a.eval x=aD (some ⟨w.heap.size,0,none⟩) 1 1)(hl:DU.length=size)(h1:∀u∈DU,u.oneCell'=true)
 (Np:n+1≤2147483648)(Wx:bytes≤4096)(jH:cL≤w.heap.size)
 (h:∀g cap w',w'.ownsRow cL e size (aD (some ⟨g,0,none⟩) (n+1) cap) (n+1) (xs++DU)→cL≤g→w.grownBy w' v.ownBlock→
  wpList P cM Q rest (a.put o.dst (aD (some ⟨g,0,none⟩) (n+1) cap)) w'):
 wpList P cM Q (o::rest) a (w.alloc (aN DU.toArray e)):=by
 refine wpList_append_own _ FN s x t ho cL e i z size bytes ht hi hz uu hby hzs BX v n xs hs (dI.alloc _) ⟨w.heap.size,0,none⟩ 1 1 DU hx (by simp[hl]) (Is w DU e) h1
  (by simp only[maxLen];omega) (aU (Nat.mul_le_mul Np Wx) (by decide)) (by simp;omega) ?_
 intro v' w' lL hg Iu;obtain⟨g',FO,rfl⟩:=It lL;exact h g' FO w' lL (kU lL).1 (zA (World.grownBy_alloc w _ none) hg)
theorem dO{B:Nat}{a w w':aF}{v:aP}{cL e size n:Nat}{cs:List aP}(h:Below B a w)(hg:w.grownBy w' v.ownBlock)(dI:w.ownsRow cL e size v n cs)(hB:B≤cL)(hs:B≤w.heap.size):Below B a w':=
 h.grown hg hs fun k hk=>aU hB (dI.lt k hk).1
def RB:Nat:=1000000
def PB:Nat:=1000000000
theorem bJ{w w':aF}{cL e size n:Nat}{v:aP}{xs:List aP}(h:w.ownsRow cL e size v n xs)(hb:Below w.heap.size w w'):w'.ownsRow cL e size v n xs:=by
 refine⟨h.1,?_⟩;rcases h.2 with h1|⟨g,cap,oL,hv,hg,hh,r⟩
 ·exact .inl h1
 ·exact .inr ⟨g,cap,oL,hv,hg,(hb.block g (Array.getElem?_eq_some_iff.1 hh).1).trans hh,r⟩
theorem jO{w:aF}{cL base' e size n:Nat}{v:aP}{xs:List aP}(h:w.ownsRow cL e size v n xs)(hb:base'≤cL):w.ownsRow base' e size v n xs:=by
 refine⟨h.1,?_⟩;rcases h.2 with h1|⟨g,cap,oL,hv,hg,r⟩
 ·exact .inl h1
 ·exact .inr ⟨g,cap,oL,hv,aU hb hg,r⟩
theorem cI{B:Nat}{a w w':aF}(h:Below B a w)(k:Below w.heap.size w w')(hB:B≤w.heap.size):Below B a w':=h.trans (k.mono hB)
theorem bR{W w':aF}{p:cO}{v:aP}(hb:Below W.heap.size W w')(h:W.cell? p=some v):w'.cell? p=some v:=
 (hb.cell (bB W p h)).trans h
theorem aQ{a w w':aF}(h:Below a.heap.size a w)(k:Below w.heap.size w w'):Below a.heap.size a w':=cI h k h.size
theorem cb{P:dN}{f:BS}{a:Array aP}{W:aF}{v:aP}{w:aF}{R:wG→aF→Prop}(H:bE P f a W (Rt (v) W))(hB:Below w.heap.size w W)(k:∀W',Below W.heap.size W W'→Below w.heap.size w W'→R (bA v) W'):bE P f a W R:=
 H.mono fun _ W' h=>by obtain⟨rfl,h⟩:=h;exact k W' h (cI hB h hB.size)
def bT(w:aF)(b:Nat)(cs:Array aP)(T:dT):Prop:=w.heap[b]? =some (aN cs T (0,0))
section
variable{w w':aF}{b:Nat}{cs:Array aP}{T:dT}
theorem bT.cell(h:bT w b cs T)(j:Nat):w.cell? ⟨b,j,none⟩=cs[j]? :=FG w b j cs T (0,0) h
theorem bT.fz(h:bT w b cs T)(j:Nat):w.frozen? ⟨b,j,none⟩=false:=frozen_of_row w b j cs T h
theorem bT.lt(h:bT w b cs T):b<w.heap.size:=(Array.getElem?_eq_some_iff.1 h).1
theorem bT.new(w:aF)(cs:Array aP)(T:dT):bT (w.alloc (aN cs T)) w.heap.size cs T:=heap_alloc_new w _
theorem bT.alloc(h:bT w b cs T)(o:Obj):bT (w.alloc o) b cs T:=(BI w o b (Array.getElem?_eq_some_iff.1 h).1).trans h
theorem bT.set(h:bT w b cs T)(j:Nat)(v:aP):bT (w.setCell ⟨b,j,none⟩ v) b (cs.setIfInBounds j v) T:=heap_setCell_same w b j cs T v h
theorem bT.other(h:bT w b cs T){a:cO}(v:aP)(iC:b≠a.block):bT (w.setCell a v) b cs T:=(heap_setCell_other w a b v iC).trans h
theorem bT.below(h:bT w b cs T){B:Nat}(hb:Below B w w')(hlt:b<B):bT w' b cs T:=(hb.block b hlt).trans h
theorem bT.grown(h:bT w b cs T){row:Option Nat}(hg:w.grownBy w' row)(iC:some b≠row):bT w' b cs T:=(hg.block b h.lt iC).trans h
end
theorem mX{w:aF}{cL e size n:Nat}{v:aP}{xs:List aP}(h:w.ownsRow cL e size v n xs){a:cO}(ha:a.block<cL)(u:aP):(w.setCell a u).ownsRow cL e size v n xs:=
 ownsRow_setCell_below h ha u
theorem Bc{w:aF}{cL e size n:Nat}{v:aP}{xs:List aP}(h:w.ownsRow cL e size v n xs){b:Nat}(hb:b<cL):some b≠v.ownBlock:=by
 intro e;have:=h.lt b e.symm;omega
theorem ck{W w':World}(hb:Below W.heap.size W w')(b o:Nat)(v:Value)(h:W.cell? ⟨b,o,none⟩=some v:=by simp[*]):w'.cell? ⟨b,o,none⟩=some v:=bR hb h
end
section
def mC(p:Nat→Bool):Nat→Int
 |0=> -1
 |n+1=>if mC p n= -1 then(if p n=true then(n:Int)else -1)else mC p n
def anyN(p:Nat→Bool):Nat→Bool
 |0=>false
 |n+1=>anyN p n||p n
theorem Af{p:Nat→Bool}{k:Nat}(h:mC p k= -1)(hp:p k=false):mC p (k+1)= -1:=by rw[mC,ip h,hp];rfl
theorem Ag{p:Nat→Bool}{k:Nat}(h:mC p k= -1)(hp:p k=true):∀{n:Nat},k<n→mC p n=k
 |0,hn=>by omega
 |n+1,hn=>by
  rcases Nat.lt_succ_iff_lt_or_eq.1 hn with h1|rfl
  ·rw[mC,Ag h hp h1,iN (by omega)]
  ·rw[mC,ip h,ip hp]
theorem YQ(p:Nat→Bool):∀n,mC p n= -1∨0≤mC p n
 |0=>.inl rfl
 |n+1=>by
  rw[mC]
  split
  ·split
   ·right;omega
   ·exact .inl rfl
  ·rcases YQ p n with h|h
   ·contradiction
   ·exact .inr h
theorem Ah(p:Nat→Bool):∀n,anyN p n=decide (0≤mC p n)
 |0=>rfl
 |n+1=>by
  rw[anyN,mC,Ah p n]
  rcases YQ p n with h|h
  ·rw[ip h,h]
   cases p n
   ·rfl
   ·simp
  ·rw[iN (by omega),decide_eq_true h,Bool.true_or]
theorem eA{p:Nat→Bool}:∀{n:Nat},anyN p n=true↔∃k,k<n∧p k=true
 |0=>⟨fun h=>(by cases h),fun⟨k,h,_⟩=>by omega⟩
 |n+1=>by
  rw[anyN,jC,eA]
  constructor
  ·rintro(⟨k,h1,h2⟩|h)
   ·exact⟨k,by omega,h2⟩
   ·exact⟨n,by omega,h⟩
  ·rintro⟨k,h1,h2⟩
   rcases Nat.lt_succ_iff_lt_or_eq.1 h1 with h|rfl
   ·exact .inl ⟨k,h,h2⟩
   ·exact .inr h2
theorem cP{p:Nat→Bool}{n:Nat}:anyN p n=false↔∀k,k<n→p k=false:=by
 rw[←Bool.not_eq_true,eA];constructor
 ·intro h k hk;cases e:p k
  ·rfl
  ·exact absurd ⟨k,hk,e⟩ h
 ·rintro h⟨k,hk,e⟩;rw[h k hk]at e;cases e
theorem gH{p:Nat→Bool}{k:Nat}(h:anyN p k=false)(hp:p k=false):anyN p (k+1)=false:=by rw[anyN,h,hp];rfl
theorem bU{α:Type}{xs:List α}{i:Nat}(h:i<xs.length)(d:α):xs.getD i d∈xs:=by simp[List.getD_eq_getElem?_getD,h]
end
section
open Go Go.Lib
section
variable{κ β:Type}[DecidableEq κ]
def gV:List (κ×β)→κ→Option β
 |[],_=>none
 |(a,v)::l,k=>if a=k then some v else gV l k
def gI:List (κ×β)→κ→β→List (κ×β)
 |[],k,v=>[(k,v)]
 |(a,u)::l,k,v=>if a=k then(k,v)::l else(a,u)::gI l k v
theorem Ai(l:List (κ×β))(k:κ)(v:β)(j:κ):gV (gI l k v) j=if k=j then some v else gV l j:=by
 induction l with
 |nil=>rfl
 |cons p l ih=>
  obtain⟨a,u⟩:=p;unfold gI;by_cases h:a=k
  ·rw[ip h];subst h;rw[gV,gV];split
   ·rfl
   ·rfl
  ·rw[iN h,gV,gV,ih];by_cases h2:a=j
   ·rw[ip h2,ip h2,iN (fun e=>h (by rw[h2,e]))]
   ·rw[iN h2,iN h2]
def mD:List (κ×β)→κ→Nat→Option (Nat×β)
 |[],_,_=>none
 |(a,v)::l,k,i=>if k=a then some (i,v)else mD l k (i+1)
theorem Oj(l:List (κ×β))(k:κ)(i:Nat):(mD l k i).map (·.2)=gV l k:=by
 induction l generalizing i with
 |nil=>rfl
 |cons p l ih=>
  obtain⟨a,u⟩:=p;rw[mD,gV];by_cases h:a=k
  ·rw[ip h.symm,ip h];rfl
  ·rw[iN (fun e=>h e.symm),iN h,ih]
variable(enc:κ→aP)(val:β→aP)
def vF:Nat→List (κ×β)→List MapEntry
 |_,[]=>[]
 |i,(k,v)::l=>⟨enc k,val v,i⟩::vF (i+1) l
def iU(l:List (κ×β)):Obj:=.map (vF enc val 0 l).toArray l.length
theorem KL{i j p:Nat}{l:List (κ×β)}{k:κ}{v:β}(h:mD l k j=some (p,v)):j≤p∧(vF enc val i l)[p-j]? =some ⟨enc k,val v,i+(p-j)⟩:=by
 induction l generalizing i j with
 |nil=>cases h
 |cons q l ih=>
  obtain⟨a,u⟩:=q;rw[mD]at h;by_cases e:k=a
  ·rw[ip e]at h;cases h;subst e;refine⟨aH _,?_⟩;rw[A6,vF];rfl
  ·rw[iN e]at h;obtain⟨h1,h2⟩:=ih (i:=i+1) h;refine⟨by omega,?_⟩;rw[vF,show p-j=(p-(j+1))+1 by omega,bC,h2];congr 2;omega
theorem JB{i j p:Nat}{l:List (κ×β)}{k:κ}{v u:β}(h:mD l k j=some (p,u)):(vF enc val i l).modify (p-j) (fun e=>{e with key:=enc k,val:=val v})=vF enc val i (gI l k v):=by
 induction l generalizing i j with
 |nil=>cases h
 |cons q l ih=>
  obtain⟨a,b⟩:=q;rw[mD]at h;by_cases e:k=a
  ·rw[ip e]at h;cases h;subst e;rw[A6,gI,ip rfl];rfl
  ·rw[iN e]at h;have h1:=(KL enc val (i:=i) h).1;rw[gI,iN (fun c=>e c.symm),vF,vF,show p-j=(p-(j+1))+1 by omega,List.modify_succ_cons,ih h]
theorem Ol{i j:Nat}{l:List (κ×β)}{k:κ}(h:mD l k j=none)(v:β):vF enc val i l++[⟨enc k,val v,i+l.length⟩]=vF enc val i (gI l k v)∧(gI l k v).length=l.length+1:=by
 induction l generalizing i j with
 |nil=>exact⟨rfl,rfl⟩
 |cons q l ih=>
  obtain⟨a,b⟩:=q;rw[mD]at h;by_cases e:k=a
  ·rw[ip e]at h;cases h
  ·rw[iN e]at h;obtain⟨h1,h2⟩:=ih (i:=i+1) h;rw[gI,iN (fun c=>e c.symm),vF,vF,cJ,←h1,bD,bD,h2];refine⟨?_,rfl⟩;congr 3;rw[show i+1+l.length=i+(l.length+1) by omega]
theorem SI{j p:Nat}{l:List (κ×β)}{k:κ}{u:β}(h:mD l k j=some (p,u))(v:β):(gI l k v).length=l.length:=by
 induction l generalizing j with
 |nil=>cases h
 |cons q l ih=>
  obtain⟨a,b⟩:=q;rw[mD]at h;rw[gI];by_cases e:k=a
  ·rw[ip e.symm];rfl
  ·rw[iN e]at h;rw[iN (fun c=>e c.symm),bD,ih h];rfl
theorem ci(i:Nat)(l:List (κ×β))(p:Nat)(hp:p<l.length):(vF enc val i l).findIdx? (fun e=>(e.born:Int)==((i+p:Nat):Int))=some p:=by
 induction l generalizing i p with
 |nil=>exact absurd hp (Nat.not_lt_zero _)
 |cons q l ih=>
  obtain⟨a,b⟩:=q;rw[vF,List.findIdx?_cons];cases p with
  |zero=>simp
  |succ p=>
   have hn:(((i:Nat):Int)==((i+(p+1):Nat):Int))=false:=by
    rw[beq_eq_false_iff_ne];omega
   have h1:=ih (i+1) p (by simpa using hp);rw[show i+(p+1)=i+1+p by omega]at hn⊢;simp only[hn,bS,if_false,h1,BV]
theorem FP{α:Type}(P:dN)(a:α)(w:aF):eH P (pure a:Sem α) w=.ok a w:=rfl
structure FU(P:dN)(kt:dT)(enc:κ→aP):Prop where
 chk:∀(b:Bool)(k:κ)(w:aF),(xS b 10000 kt (enc k)).run P w=.ok () w
 eq:∀(a b:κ)(w:aF),(Op.equal kt (enc a) (enc b)).run P w=.ok (decide (a=b)) w
 und:∃d,(∀w,(A7 kt).run P w=.ok d w)∧∀a b,Instr.sameNow d (enc a) (enc b)=none
 same:∀k,NG 10000 (enc k) (enc k)=true
variable{P:dN}{kt:dT}{enc val}
theorem FU.ask(h:FU P kt enc)(k:κ)(l:List (κ×β))(i j:Nat)(w:aF):(sq kt (enc k) (vF enc val i l) j).run P w=.ok ((mD l k j).map fun p=>(p.1,val p.2)) w:=by
 induction l generalizing i j with
 |nil=>rfl
 |cons q l ih=>
  obtain⟨a,b⟩:=q;rw[vF,sq,mD];rw[nC,h.eq k a w];show eH P (if decide (k=a)=true then _ else _) w=_;by_cases e:k=a
  ·rw[decide_eq_true e,ip rfl,ip e];rfl
  ·rw[decide_eq_false e,iN (by decide),iN e];exact ih (i+1) (j+1)
theorem FU.find(h:FU P kt enc)(k:κ)(l:List (κ×β))(w:aF):(Instr.findKey kt (enc k) (vF enc val 0 l)).run P w=.ok ((mD l k 0).map fun p=>(p.1,val p.2)) w:=by
 obtain⟨d,h1,h2⟩:=h.und;unfold Instr.findKey;rw[nC,h1 w];show eH P (match PO d (enc k) (vF enc val 0 l) 0 with |some r=>_|none=>_) w=_;cases l with
 |nil=>rfl
 |cons q l=>
  obtain⟨a,b⟩:=q;have e:PO d (enc k) (vF enc val 0 ((a,b)::l)) 0=none:=by
   rw[vF,PO];simp only[h2]
  rw[e];exact h.ask k _ 0 0 w
theorem tJ{w:aF}{b:Nat}{l:List (κ×β)}(h:w.heap[b]? =some (iU enc val l)):(getObj b).run P w=.ok (.map (vF enc val 0 l).toArray l.length) w:=by
 simp[getObj,eH,h,iU]
theorem EQ{w:aF}{b:Nat}{l:List (κ×β)}(h:w.heap[b]? =some (iU enc val l))(o:Obj):(setObj b o).run P w=.ok () (w.putObj b o):=by
 simp[setObj,eH,h,iU,World.putObj]
variable{T E:dT}{zero:β}
theorem FV(h:FU P kt enc)(hT:∀w,(A7 T).run P w=.ok (.map kt E) w)(hz:∀w,(ol E).run P w=.ok (val zero) w){w:aF}{b:Nat}{l:List (κ×β)}(hb:w.heap[b]? =some (iU enc val l))(k:κ)(c:Bool):
 (iR T (.map (some b)) (enc k) c).run P w=.ok (if c=true then cK #[val ((gV l k).getD zero),aV (gV l k).isSome]else val ((gV l k).getD zero)) w:=by
 have hf:=h.find k l w (val:=val);have hg:=Oj l k 0;have hp:= @FP;rw[←hg];generalize mD l k 0=r at *;cases r<;>cases c<;>simp[iR,nC,hT,sL,tJ hb,h.chk,hf,hz,hp]
theorem Dq(h:FU P kt enc)(hT:∀w,(A7 T).run P w=.ok (.map kt E) w){w:aF}{b:Nat}{l:List (κ×β)}(hb:w.heap[b]? =some (iU enc val l))(k:κ)(v:β):
 (oE T (.map (some b)) (enc k) (val v)).run P w=.ok () (w.putObj b (iU enc val (gI l k v))):=by
 have hf:=h.find k l w (val:=val);have hp:= @FP;have hs:=fun o=>EQ (P:=P) hb o;cases hr:mD l k 0 with
 |none=>
  rw[hr]at hf;obtain⟨h1,h2⟩:=Ol enc val (i:=0) hr v;rw[cC]at h1;simp only[oE,nC,hT,sL,tJ hb,h.chk,hf,sr,hs,cR,h1];unfold iU;rw[h2]
 |some p=>
  obtain⟨p,u⟩:=p;rw[hr]at hf;obtain⟨-,h1⟩:=KL enc val (i:=0) hr;have h2:=JB enc val (i:=0) (v:=v) hr;rw[Ka]at h1 h2;have h3:=h.same k;simp only[oE,nC,hT,sL,tJ hb,h.chk,hf,BV,hs,aJ,h1,bX,bf,h3,if_true,hp,Fx,h2];unfold iU;rw[SI hr]
theorem SJ(l:List (κ×β))(k:κ)(u v:β):gI (gI l k u) k v=gI l k v:=by
 induction l with
 |nil=>rw[gI,gI,gI,ip rfl]
 |cons q l ih=>
  obtain⟨a,b⟩:=q;rw[gI,gI];by_cases e:a=k
  ·rw[ip e,ip e,gI,ip rfl]
  ·rw[iN e,iN e,gI,iN e,ih]
theorem Om{l:List (κ×β)}{k:κ}{u:β}{i p:Nat}(h:mD l k i=some (p,u)):gI l k u=l:=by
 induction l generalizing i with
 |nil=>cases h
 |cons q l ih=>
  obtain⟨a,b⟩:=q;rw[mD]at h;rw[gI];by_cases e:k=a
  ·rw[ip e]at h;cases h;rw[ip e.symm,e]
  ·rw[iN e]at h;rw[iN (fun c=>e c.symm),ih h]
theorem Wz{l:List (κ×β)}{k:κ}{i:Nat}(h:mD l k i=none)(v:β):mD (gI l k v) k i=some (i+l.length,v):=by
 induction l generalizing i with
 |nil=>rw[gI,mD,ip rfl];rfl
 |cons q l ih=>
  obtain⟨a,b⟩:=q;rw[mD]at h;by_cases e:k=a
  ·rw[ip e]at h;cases h
  ·rw[iN e]at h;rw[gI,iN (fun c=>e c.symm),mD,iN e,ih h,bD];congr 2;omega
theorem uv{l:List (κ×β)}{k:κ}{u:β}{i p:Nat}(h:mD l k i=some (p,u)):p<i+l.length:=by
 induction l generalizing i with
 |nil=>cases h
 |cons q l ih=>
  obtain⟨a,b⟩:=q;rw[mD]at h;rw[bD];by_cases e:k=a
  ·rw[ip e]at h;cases h;omega
  ·rw[iN e]at h;have:=ih h;omega
theorem SK{α:Type}{l:List α}{p:Nat}{e:α}{f:α→α}(h:l[p]? =some e)(hf:f e=e):l.modify p f=l:=by
 apply sw;intro i;rw[D5];split
 ·rename_i hi;subst hi;rw[h];simp[hf]
 ·simp
theorem YT(h:FU P kt enc)(hT:∀w,(A7 T).run P w=.ok (.map kt E) w)(hz:∀w,(ol E).run P w=.ok (val zero) w){w:aF}{b:Nat}{l:List (κ×β)}(hb:w.heap[b]? =some (iU enc val l))(k:κ):
 ∃p:Nat,(D6 T (.map (some b)) (enc k)).run P w=.ok (cK #[val ((gV l k).getD zero),aC aB p]) (w.putObj b (iU enc val (gI l k ((gV l k).getD zero))))∧mD (gI l k ((gV l k).getD zero)) k 0=some (p,(gV l k).getD zero):=by
 have hf:=h.find k l w (val:=val);have hp:= @FP;have hs:=fun o=>EQ (P:=P) hb o;have hg:=Oj l k 0;cases hr:mD l k 0 with
 |none=>
  rw[hr]at hf hg;rw[←hg];obtain⟨h1,h2⟩:=Ol enc val (i:=0) hr zero;rw[cC]at h1;refine⟨l.length,?_,by have:=Wz hr zero;rwa[cC]at this⟩;simp only[D6,nC,hT,sL,tJ hb,h.chk,hf,sr,hs,hz,cR,h1,hp];unfold iU;show om _ _=om _ (w.putObj b (.map (vF enc val 0 (gI l k zero)).toArray (gI l k zero).length));rw[h2];rfl
 |some p=>
  obtain⟨p,u⟩:=p;rw[hr]at hf hg;obtain⟨-,h1⟩:=KL enc val (i:=0) hr;rw[Ka,cC]at h1;have h3:=h.same k;have h2:=SK (f:=fun e=>{e with key:=enc k}) h1 rfl;rw[←hg];refine⟨p,?_,by show mD (gI l k u) k 0=_;rw[Om hr,hr];rfl⟩;show _=om (cK #[val u,aC aB p]) (w.putObj b (iU enc val (gI l k u)));rw[Om hr];simp only[D6,nC,hT,sL,tJ hb,h.chk,hf,BV,hs,aJ,h1,bX,bf,h3,if_true,hp,Fx,h2];rfl
theorem SN{w:aF}{b:Nat}{l:List (κ×β)}(hb:w.heap[b]? =some (iU enc val l)){k:κ}{p:Nat}{u:β}(hk:mD l k 0=some (p,u))(v:β):
 (KB T (.map (some b)) (aC aB p) (val v)).run P w=.ok () (w.putObj b (iU enc val (gI l k v))):=by
 have hp:= @FP;have hs:=fun o=>EQ (P:=P) hb o;have hlt:=uv hk;have h0:=ci enc val 0 l p (by omega);rw[cC]at h0;obtain⟨-,h1⟩:=KL enc val (i:=0) hk;have h2:=JB enc val (i:=0) (v:=v) hk;rw[Ka]at h1 h2;have h4:(vF enc val 0 l).modify p (fun e=>{e with val:=val v})=(vF enc val 0 l).modify p (fun e=>{e with key:=enc k,val:=val v}):=by
  apply sw;intro i;rw[D5,D5];split
  ·rename_i hi;subst hi;rw[h1];rfl
  ·rfl
 have ha:(asInt (aC aB (p:Int))).run P w=.ok (p:Int) w:=rfl;simp only[KB,nC,sL,tJ hb,ha,List.findIdx?_toArray,h0,hs,Fx,h4,h2];unfold iU;rw[SI hk]
end
end
section
structure Sg where
 side:Int
 up:Bool
 line:Int
 a:Int
 b:Int
deriving Inhabited
def Sg.st(s:Sg):Int×Int:=if s.up=true then(s.line,s.a)else(s.a,s.line)
def Sg.en(s:Sg):Int×Int:=if s.up=true then(s.line,s.b)else(s.b,s.line)
def xR(a b i:Int):Int:=if a≤i∧i<b then 1 else if b≤i∧i<a then -1 else 0
def Lr(s:Sg)(i k:Int):Int:=if s.up=true∧i<s.line then xR s.a s.b k else 0
def leS(s:Sg)(i k:Int):Int:=if s.up=false∧k<s.line then xR s.a s.b i else 0
def cj(p:Int×Int)(i k:Int):Int:=if i<p.1∧k<p.2 then 1 else 0
def oH(f:Sg→Int):List Sg→Int
 |[]=>0
 |s::l=>f s+oH f l
theorem ct(s:Sg)(i k:Int):cj s.en i k-cj s.st i k=Lr s i k+leS s i k:=by
 obtain⟨sd,up,line,a,b⟩:=s;cases up<;>simp only[cj,Lr,leS,Sg.st,Sg.en,xR,if_true,if_false,bS,true_and,false_and,reduceCtorEq]<;>(repeat' split)<;>omega
theorem FX(f g:Sg→Int)(l:List Sg):oH (fun s=>f s+g s) l=oH f l+oH g l:=by
 induction l with
 |nil=>rfl
 |cons s l ih=>simp only[oH,ih];omega
theorem tot_sub(f g:Sg→Int)(l:List Sg):oH (fun s=>f s-g s) l=oH f l-oH g l:=by
 induction l with
 |nil=>rfl
 |cons s l ih=>simp only[oH,ih];omega
theorem tK{f g:Sg→Int}{l:List Sg}(h:∀s∈l,f s=g s):oH f l=oH g l:=by
 induction l with
 |nil=>rfl
 |cons s l ih=>rw[oH,oH,h s (cW ..),ih fun t ht=>h t (dA _ ht)]
theorem Bd(f:Sg→Int)(l m:List Sg):oH f (l++m)=oH f l+oH f m:=by
 induction l with
 |nil=>simp[oH]
 |cons s l ih=>simp only[cJ,oH,ih];omega
theorem Ct{f:Sg→Int}{l:List Sg}(h:∀s∈l,f s=0):oH f l=0:=by
 induction l with
 |nil=>rfl
 |cons s l ih=>rw[oH,h s (cW ..),ih fun t ht=>h t (dA _ ht)];rfl
theorem YU{f:Sg→Int}{l:List Sg}(h:0<oH f l):∃s∈l,0<f s:=by
 induction l with
 |nil=>simp[oH]at h
 |cons s l ih=>
  by_cases h1:0<f s
  ·exact⟨s,cW ..,h1⟩
  ·obtain⟨t,ht,h2⟩:=ih (by simp only[oH]at h;omega);exact⟨t,dA _ ht,h2⟩
theorem YW{f:Sg→Int}{l:List Sg}(h:oH f l<0):∃s∈l,f s<0:=by
 induction l with
 |nil=>simp[oH]at h
 |cons s l ih=>
  by_cases h1:f s<0
  ·exact⟨s,cW ..,h1⟩
  ·obtain⟨t,ht,h2⟩:=ih (by simp only[oH]at h;omega);exact⟨t,dA _ ht,h2⟩
def Aj(l:List Sg):Prop:=∀j,j<l.length→(l.getD j default).en=(l.getD ((j+1)%l.length) default).st
def eS(f:Nat→Int):Nat→Int
 |0=>0
 |n+1=>eS f n+f n
theorem iF{f g:Nat→Int}{n:Nat}(h:∀j,j<n→f j=g j):eS f n=eS g n:=by
 induction n with
 |zero=>rfl
 |succ n ih=>rw[eS,eS,h n (by omega),ih fun j hj=>h j (by omega)]
theorem Cu(f g:Nat→Int)(n:Nat):eS (fun j=>f j-g j) n=eS f n-eS g n:=by
 induction n with
 |zero=>rfl
 |succ n ih=>simp only[eS,ih];omega
theorem EU(f:Nat→Int)(n:Nat):eS (fun j=>f (j+1)) n=eS f (n+1)-f 0:=by
 induction n with
 |zero=>simp[eS]
 |succ n ih=>rw[eS,ih,eS];simp only[eS];omega
theorem On(f:Nat→Int)(n:Nat):eS (fun j=>f ((j+1)%n)) n=eS f n:=by
 cases n with
 |zero=>rfl
 |succ n=>
  rw[eS,Nat.mod_self,iF (g:=fun j=>f (j+1)) fun j hj=>by rw[Nat.mod_eq_of_lt (by omega)],EU];simp only[eS];omega
theorem uF(f:Sg→Int)(l:List Sg):oH f l=eS (fun j=>f (l.getD j default)) l.length:=by
 induction l with
 |nil=>rfl
 |cons s l ih=>
  rw[oH,ih,bD];have:=EU (fun j=>f ((s::l).getD j default)) l.length;simp only[List.getD_cons_succ,List.getD_cons_zero]at this;omega
theorem cu {l:List Sg} (h:Aj l) (i k:Int):oH (Lr · i k) l + oH (leS · i k) l=0:=by
 rw [← FX,← tK fun s _=> ct s i k,tot_sub,uF,uF,iF (f:=fun j=> cj (l.getD j default).en i k) (g:=fun j=> (fun j=> cj (l.getD j default).st i k) ((j + 1) % l.length)) fun j hj=> by rw [h j hj],On (fun j=> cj (l.getD j default).st i k)];omega
theorem EV {ls:List (List Sg)} (h:∀ l∈ls,Aj l) (i k:Int):oH (Lr · i k) ls.flatten + oH (leS · i k) ls.flatten=0:=by
 induction ls with
 | nil=> rfl
 | cons l ls ih=>
  rw [List.flatten_cons,Bd,Bd];have h1:=cu (h l (cW ..)) i k;have h2:=ih fun m hm=> h m (dA _ hm);omega
def dE (E:List Sg) (i k:Int):Int:=oH (Lr · i k) E
def gD(X Y:Int)(E:List Sg)(i k:Int):Bool:=decide (0≤i∧0≤k∧i+1<X∧k+1<Y∧0<dE E i k)
def lQ(X Y:Int)(s:Sg):Prop:=0≤s.line∧0≤s.a∧0≤s.b∧(s.up=true→s.line<X∧s.a<Y∧s.b<Y)∧(s.up=false→s.line<Y∧s.a<X∧s.b<X)
def Iv(s:Sg)(x y:Int)(d:Nat):Prop:=
 match d with
 |0=>s.up=false∧s.line=y∧s.a≤x∧x<s.b
 |1=>s.up=true∧s.line=x∧s.a≤y∧y<s.b
 |2=>s.up=false∧s.line=y∧s.b≤x-1∧x-1<s.a
 |_=>s.up=true∧s.line=x∧s.b≤y-1∧y-1<s.a
def lft(c:Int→Int→Bool)(x y:Int)(d:Nat):Bool:=match d with |0=>c x y|1=>c (x-1) y|2=>c (x-1) (y-1)|_=>c x (y-1)
def rgt(c:Int→Int→Bool)(x y:Int)(d:Nat):Bool:=match d with |0=>c x (y-1)|1=>c x y|2=>c (x-1) y|_=>c (x-1) (y-1)
def bor(c:Int→Int→Bool)(x y:Int)(d:Nat):Bool:=lft c x y d&& !rgt c x y d
theorem KM(E:List Sg)(i k:Int):dE E (i-1) k=dE E i k+oH (fun s=>if s.up=true∧s.line=i then xR s.a s.b k else 0) E:=by
 unfold dE;rw[←FX];refine tK fun s _=>?_;obtain⟨sd,up,line,a,b⟩:=s;cases up<;>simp only[Lr,bS,true_and,false_and,if_false]<;>(repeat' split)<;>omega
theorem Qg {ls:List (List Sg)} (h:∀ l∈ls,Aj l) (i k:Int):dE ls.flatten i k=dE ls.flatten i (k - 1) + oH (fun s=> if s.up=false∧s.line=k then xR s.a s.b i else 0) ls.flatten:=by
 have h1:=EV h i k;have h2:=EV h i (k - 1);have h3:oH (leS · i (k - 1)) ls.flatten=oH (leS · i k) ls.flatten + oH (fun s=> if s.up=false∧s.line=k then xR s.a s.b i else 0) ls.flatten:=by
  rw [← FX];refine tK fun s _=> ?_;obtain⟨sd,up,line,a,b⟩:=s;cases up <;> simp only [leS,reduceCtorEq,true_and,false_and,if_false] <;> (repeat' split) <;> omega
 unfold dE;omega
theorem YX{a b i:Int}(h:0<xR a b i):a≤i∧i<b:=by
 unfold xR at h;split at h
 ·assumption
 ·split at h<;>omega
theorem YY{a b i:Int}(h:xR a b i<0):b≤i∧i<a:=by
 unfold xR at h;split at h
 ·omega
 ·split at h
  ·assumption
  ·omega
theorem uw{X Y:Int}{E:List Sg}(hg:∀s∈E,lQ X Y s){i k:Int}(h:X≤i+1∨Y≤k+1∨k<0):dE E i k=0:=by
 refine Ct fun s hs=>?_;obtain⟨h1,h2,h3,h4,-⟩:=hg s hs;unfold Lr;split
 ·rename_i hu;obtain⟨q1,q2,q3⟩:=h4 hu.1;unfold xR;(repeat' split)<;>omega
 ·rfl
theorem FY {X Y:Int} {ls:List (List Sg)} (hr:∀ l∈ls,Aj l) (hg:∀ s∈ls.flatten,lQ X Y s) {i:Int} (hi:i < 0) (k:Int):dE ls.flatten i k=0:=by
 have h1:=EV hr i k;have h2:oH (leS · i k) ls.flatten=0:=by
  refine Ct fun s hs=> ?_;obtain⟨q1,q2,q3, -, -⟩:=hg s hs;unfold leS;split
  ·unfold xR;(repeat' split) <;> omega
  ·rfl
 unfold dE;omega
theorem rC{X Y:Int}{E:List Sg}{i k:Int}(h:gD X Y E i k=true):0≤i∧0≤k∧i+1<X∧k+1<Y∧0<dE E i k:=by unfold gD at h;exact of_decide_eq_true h
theorem sA{X Y:Int}{ls:List (List Sg)}(hr:∀l∈ls,Aj l)(hg:∀s∈ls.flatten,lQ X Y s){i k:Int}(h:gD X Y ls.flatten i k=false):dE ls.flatten i k≤0:=by
 unfold gD at h;have h:=of_decide_eq_false h;by_cases h1:i<0
 ·rw[FY hr hg h1];exact G4 _
 ·by_cases h2:X≤i+1∨Y≤k+1∨k<0
  ·rw[uw hg h2];exact G4 _
  ·omega
theorem uz{X Y:Int}{ls:List (List Sg)}(hr:∀l∈ls,Aj l)(hg:∀s∈ls.flatten,lQ X Y s){x y:Int}{d:Nat}(h:bor (gD X Y ls.flatten) x y d=true):∃s∈ls.flatten,Iv s x y d:=by
 unfold bor at h;rw[bQ,dP]at h;obtain⟨hl,hn⟩:=h;match d,hl,hn with
 |0,hl,hn=>
  obtain⟨-,-,-,-,h1⟩:=rC hl;have h2:=sA hr hg hn;have h3:=Qg hr x y;obtain⟨s,hs,h4⟩:=YU (f:=fun s=>if s.up=false∧s.line=y then xR s.a s.b x else 0) (l:=ls.flatten) (by omega);split at h4
  ·rename_i hu;exact⟨s,hs,hu.1,hu.2,YX h4⟩
  ·omega
 |1,hl,hn=>
  obtain⟨-,-,-,-,h1⟩:=rC hl;have h2:=sA hr hg hn;have h3:=KM ls.flatten x y;obtain⟨s,hs,h4⟩:=YU (f:=fun s=>if s.up=true∧s.line=x then xR s.a s.b y else 0) (l:=ls.flatten) (by omega);split at h4
  ·rename_i hu;exact⟨s,hs,hu.1,hu.2,YX h4⟩
  ·omega
 |2,hl,hn=>
  obtain⟨-,-,-,-,h1⟩:=rC hl;have h2:=sA hr hg hn;have h3:=Qg hr (x-1) y;obtain⟨s,hs,h4⟩:=YW (f:=fun s=>if s.up=false∧s.line=y then xR s.a s.b (x-1)else 0) (l:=ls.flatten) (by omega);split at h4
  ·rename_i hu;exact⟨s,hs,hu.1,hu.2,YY h4⟩
  ·omega
 |d+3,hl,hn=>
  obtain⟨-,-,-,-,h1⟩:=rC hl;have h2:=sA hr hg hn;have h3:=KM ls.flatten x (y-1);obtain⟨s,hs,h4⟩:=YW (f:=fun s=>if s.up=true∧s.line=x then xR s.a s.b (y-1)else 0) (l:=ls.flatten) (by omega);split at h4
  ·rename_i hu;exact⟨s,hs,hu.1,hu.2,YY h4⟩
  ·omega
structure Wy where
 x:Int
 y:Int
 d:Nat
deriving Inhabited,DecidableEq
def jE(x:Int)(d:Nat):Int:=match d with |0=>x+1|2=>x-1|_=>x
def jF(y:Int)(d:Nat):Int:=match d with |1=>y+1|3=>y-1|_=>y
def lH(c:Int→Int→Bool)(w:Wy):Bool:=decide (w.d<4)&&bor c w.x w.y w.d
def jX(c:Int→Int→Bool)(w:Wy):Wy:=
 let x:=jE w.x w.d
 let y:=jF w.y w.d
 if bor c x y ((w.d+1)%4)=true then⟨x,y,(w.d+1)%4⟩else if bor c x y (w.d%4)=true then⟨x,y,w.d%4⟩else if bor c x y ((w.d+3)%4)=true then⟨x,y,(w.d+3)%4⟩else w
def SO(a b e f:Bool)(d:Nat):Bool:=match d with |0=>b&& !e|1=>e&& !f|2=>f&& !a|_=>a&& !b
def goes'(a b e f:Bool)(d:Nat):Bool:=match d with |0=>a&& !f|1=>b&& !a|2=>e&& !b|_=>f&& !e
def Eg(a b e f:Bool)(d:Nat):Nat:=if goes' a b e f ((d+1)%4)=true then(d+1)%4 else if goes' a b e f (d%4)=true then d%4 else if goes' a b e f ((d+3)%4)=true then(d+3)%4 else 4
theorem ve:∀a b e f:Bool,∀d:Fin 4,SO a b e f d=true→Eg a b e f d<4∧goes' a b e f (Eg a b e f d)=true:=by decide
theorem cw:∀a b e f:Bool,∀d d':Fin 4,SO a b e f d=true→SO a b e f d'=true→Eg a b e f d=Eg a b e f d'→d=d':=by decide
theorem FZ(c:Int→Int→Bool)(x y:Int)(d:Nat):bor c x y d=goes' (c x y) (c (x-1) y) (c (x-1) (y-1)) (c x (y-1)) d:=by
 unfold bor lft rgt goes';match d with
 |0=>rfl
 |1=>rfl
 |2=>rfl
 |d+3=>rfl
theorem Iw(c:Int→Int→Bool)(x y:Int){d:Nat}(hd:d<4):bor c x y d=SO (c (jE x d) (jF y d)) (c (jE x d-1) (jF y d)) (c (jE x d-1) (jF y d-1)) (c (jE x d) (jF y d-1)) d:=by
 unfold bor lft rgt SO jE jF;match d,hd with
 |0,_=>simp only[show x+1-1=x by omega]
 |1,_=>simp only[show y+1-1=y by omega]
 |2,_=>rfl
 |3,_=>rfl
theorem wH{c:Int→Int→Bool}{w:Wy}(h:lH c w=true):
 ∃t,t<4∧t=Eg (c (jE w.x w.d) (jF w.y w.d)) (c (jE w.x w.d-1) (jF w.y w.d)) (c (jE w.x w.d-1) (jF w.y w.d-1)) (c (jE w.x w.d) (jF w.y w.d-1)) w.d∧
  jX c w=⟨jE w.x w.d,jF w.y w.d,t⟩∧bor c (jE w.x w.d) (jF w.y w.d) t=true:=by
 unfold lH at h;rw[bQ,decide_eq_true_eq]at h;obtain⟨hd,hb⟩:=h;rw[Iw c w.x w.y hd]at hb;obtain⟨h1,h2⟩:=ve _ _ _ _ ⟨w.d,hd⟩ hb;refine⟨_,h1,rfl,?_,by rw[FZ];exact h2⟩;dsimp only at h1 h2⊢;unfold jX;dsimp only;simp only[FZ];unfold Eg at h1⊢;split
 ·rfl
 ·split
  ·rfl
  ·split
   ·rfl
   ·rename_i q1 q2 q3;rw[iN q1,iN q2,iN q3]at h1;omega
theorem KN{c:Int→Int→Bool}{w:Wy}(h:lH c w=true):lH c (jX c w)=true:=by
 obtain⟨t,h1,-,h2,h3⟩:=wH h;rw[h2];unfold lH;rw[bQ,decide_eq_true_eq];exact⟨h1,h3⟩
theorem nxt_inj{c:Int→Int→Bool}{v w:Wy}(hv:lH c v=true)(hw:lH c w=true)(h:jX c v=jX c w):v=w:=by
 obtain⟨t,h1,h2,h3,-⟩:=wH hv;obtain⟨u,k1,k2,k3,-⟩:=wH hw;rw[h3,k3]at h;injection h with ex ey et;have dv:v.d<4∧bor c v.x v.y v.d=true:=by unfold lH at hv;rwa[bQ,decide_eq_true_eq]at hv
 have dw:w.d<4∧bor c w.x w.y w.d=true:=by unfold lH at hw;rwa[bQ,decide_eq_true_eq]at hw
 have bv:=dv.2;have bw:=dw.2;rw[Iw c _ _ dv.1]at bv;rw[Iw c _ _ dw.1]at bw;rw[h2,k2,←ex,←ey]at et;rw[←ex,←ey]at bw;have ed:=cw _ _ _ _ ⟨v.d,dv.1⟩ ⟨w.d,dw.1⟩ bv bw et;have ed:v.d=w.d:=congrArg Fin.val ed;obtain⟨x,y,d⟩:=v;obtain⟨x',y',d'⟩:=w;dsimp only at ed ex ey;subst ed;have hd:=dv.1;dsimp only at hd;unfold jE at ex;unfold jF at ey;have:x=x'∧y=y':=by
  match d,hd,ex,ey with
  |0,_,ex,ey=>exact⟨by have:x+1=x'+1:=ex;omega,ey⟩
  |1,_,ex,ey=>exact⟨ex,by have:y+1=y'+1:=ey;omega⟩
  |2,_,ex,ey=>exact⟨by have:x-1=x'-1:=ex;omega,ey⟩
  |3,_,ex,ey=>exact⟨ex,by have:y-1=y'-1:=ey;omega⟩
 rw[this.1,this.2]
def jY{α:Type}(f:α→α):Nat→α→α
 |0,w=>w
 |k+1,w=>f (jY f k w)
theorem mU{α:Type}(f:α→α)(j k:Nat)(w:α):jY f (j+k) w=jY f j (jY f k w):=by
 induction j with
 |zero=>rw[cC];rfl
 |succ j ih=>rw[show j+1+k=(j+k)+1 by omega,jY,ih];rfl
theorem Dt{α:Type}[DecidableEq α]:∀{l m:List α},l.Nodup→(∀x∈l,x∈m)→l.length≤m.length
 |[],_,_,_=>bM _
 |x::l,m,h,hs=>by
  rw[List.nodup_cons]at h
  have h1:=Dt (m:=m.erase x) h.2 fun y hy=>(List.mem_erase_of_ne (fun e=>h.1 (by rw[←e];exact hy))).2 (hs y (dA _ hy))
  have h2:=List.length_erase_of_mem (hs x (cW ..))
  have h3:=List.length_pos_of_mem (hs x (cW ..))
  rw[bD]
  omega
theorem vg{α:Type}[DecidableEq α]{f:α→α}{S:List α}(hs:∀w∈S,f w∈S)(hi:∀v∈S,∀w∈S,f v=f w→v=w){w:α}(hw:w∈S):∃k,0<k∧k≤S.length∧jY f k w=w:=by
 have hm:∀k,jY f k w∈S:=fun k=>by
  induction k with
  |zero=>exact hw
  |succ k ih=>exact hs _ ih
 have hp:∃i j,i<j∧j≤S.length∧jY f i w=jY f j w:=by
  apply cZ;intro hn;have iC:∀i j,i<j→j≤S.length→jY f i w≠jY f j w:=fun i j h1 h2 h3=>hn ⟨i,j,h1,h2,h3⟩;have hnd:((dD (S.length+1)).map fun k=>jY f k w).Nodup:=by
   rw[List.nodup_iff_pairwise_ne,List.pairwise_map];refine PP ?_ (List.pairwise_lt_range (n:=S.length+1));intro i j _ hj Lt;rw[List.mem_range]at hj;exact iC i j Lt (by omega)
  have Qh:∀x∈((dD (S.length+1)).map fun k=>jY f k w),x∈S:=by
   intro x hx;rw[List.mem_map]at hx;obtain⟨k,-,rfl⟩:=hx;exact hm k
  have:=Dt hnd Qh;rw[List.length_map,List.length_range]at this;omega
 obtain⟨i,j,h1,h2,h3⟩:=hp;have back:∀i j,i≤j→jY f i w=jY f j w→jY f (j-i) w=w:=by
  intro i;induction i with
  |zero=>intro j _ h;rw[Ka,←h];rfl
  |succ i ih=>
   intro j hj h;have e:j=(j-1)+1:=by omega
   rw[e]at h;have:=ih (j-1) (by omega) (hi _ (hm i) _ (hm (j-1)) h);rwa[show j-(i+1)=j-1-i by omega]
 exact⟨j-i,by omega,by omega,back i j (Nat.le_of_lt h1) h3⟩
end
section
open Go Go.RowKit Go.Lib
theorem key_way(x y d:Int)(w:aF):(xS true 10000 167 (cF #[aC aB x,aC aB y,aC aB d])).run aE w=.ok () w:=by kernel_rfl
theorem vh(x y:Int)(w:aF):(xS true 10000 165 (cF #[aC aB x,aC aB y])).run aE w=.ok () w:=by kernel_rfl
theorem Cv(w:aF):(A7 151).run aE w=.ok (.map 167 3) w:=by kernel_rfl
theorem vi(w:aF):(A7 152).run aE w=.ok (.map 165 4) w:=by kernel_rfl
theorem vl(w:aF):(A7 160).run aE w=.ok (.map 167 4) w:=by kernel_rfl
theorem YZ(w:aF):(ol 3).run aE w=.ok (aC aB 0) w:=by kernel_rfl
theorem zer_b(w:aF):(ol 4).run aE w=.ok (aV false) w:=by kernel_rfl
def kW(v:Wy):aP:=cF #[aC aB v.x,aC aB v.y,aC aB v.d]
def kS(p:Int×Int):aP:=cF #[aC aB p.1,aC aB p.2]
def vI(n:Int):aP:=aC aB n
def vB(b:Bool):aP:=aV b
theorem vm(n:Nat)(a b c e:Int)(w:aF):(Dn (n+2) 165 (cF #[aC aB a,aC aB b]) (cF #[aC aB c,aC aB e])).run aE w=.ok (a==c&&b==e) w:=by
 have u3:=dL;have a3:=jG;have z3:=iB;have hS:Tryz.prog.underlying 165=some (.struct (Tryz.prog.fieldsOf 165)):=by kernel_rfl
 have hp:Tryz.prog.stoodInHeld 165=false:=by kernel_rfl
 rw[show n+2=(n+1)+1 from rfl,run_equalIn_agg w (n+1) 165 _ _ hS hp];simp only[G6,underlying165];go_simp;by_cases h1:a=c<;>by_cases h2:b=e<;>simp[h1,h2]
theorem eqWay(n:Nat)(a b d a' b' d':Int)(w:aF):(Dn (n+3) 167 (cF #[aC aB a,aC aB b,aC aB d]) (cF #[aC aB a',aC aB b',aC aB d'])).run aE w=.ok ((a==a'&&b==b')&&d==d') w:=by
 have u3:=dL;have a3:=jG;have z3:=iB;have a4:=isAgg165;have z4:=sizeOf165;have hS:Tryz.prog.underlying 167=some (.struct (Tryz.prog.fieldsOf 167)):=by kernel_rfl
 have hp:Tryz.prog.stoodInHeld 167=false:=by kernel_rfl
 have he:=fun a b c e w=>vm n a b c e w;rw[show n+3=(n+2)+1 from rfl,run_equalIn_agg w (n+2) 167 _ _ hS hp];simp only[G6,underlying167];go_simp;by_cases h1:a=a'<;>by_cases h2:b=b'<;>by_cases h3:d=d'<;>simp[h1,h2,h3]
theorem kS_ok:FU aE 165 kS:={
 chk b k w:=by
  obtain⟨x,y⟩:=k
  cases b
  ·have:∀x y:Int,(xS false 10000 165 (cF #[aC aB x,aC aB y])).run aE w=.ok () w:=fun x y=>by kernel_rfl
   exact this x y
  ·exact vh x y w
 eq a b w:=by
  obtain⟨x,y⟩:=a
  obtain⟨x',y'⟩:=b
  refine(vm 9998 x y x' y' w).trans ?_
  congr 1
  by_cases h1:x=x'<;>by_cases h2:y=y'<;>simp[h1,h2]
 und:=⟨.struct (Tryz.prog.fieldsOf 165),fun w=>by kernel_rfl,fun _ _=>rfl⟩
 same k:=by
  obtain⟨x,y⟩:=k
  show(2==2&&List.all [_,_] _)=true
  simp[NG]}
theorem Eh:FU aE 167 kW:={
 chk b k w:=by
  obtain⟨x,y,d⟩:=k
  cases b
  ·have:∀x y d:Int,(xS false 10000 167 (cF #[aC aB x,aC aB y,aC aB d])).run aE w=.ok () w:=fun x y d=>by kernel_rfl
   exact this x y d
  ·exact key_way x y d w
 eq a b w:=by
  obtain⟨x,y,d⟩:=a
  obtain⟨x',y',d'⟩:=b
  refine(eqWay 9997 x y d x' y' d' w).trans ?_
  congr 1
  rw[pI,decide_eq_true_eq,Wy.mk.injEq]
  simp only[bQ,beq_iff_eq]
  constructor
  ·rintro⟨⟨h1,h2⟩,h3⟩;exact⟨h1,h2,by omega⟩
  ·rintro⟨h1,h2,h3⟩;exact⟨⟨h1,h2⟩,by omega⟩
 und:=⟨.struct (Tryz.prog.fieldsOf 167),fun w=>by kernel_rfl,fun _ _=>rfl⟩
 same k:=by
  obtain⟨x,y,d⟩:=k
  show(3==3&&List.all [_,_,_] _)=true
  simp[NG]}
end
section
open Go.Shelf
def Tryz.laysM171_ren:iK:=⟨fun |171=>64|243=>133|246=>179|283=>222|284=>223|285=>224|286=>225|129=>220|317=>249|318=>250|319=>251|320=>252|337=>274|338=>275|n=>n,fun |3=>3|9=>9|2=>2|4=>4|171=>291|0=>0|53=>287|37=>293|5=>5|173=>294|212=>316|51=>285|20=>20|213=>317|46=>236|232=>355|233=>356|n=>n,fun |17=>1|18=>4|19=>5|n=>n⟩
theorem Tryz.laysM171:Go.Proofs.LaysM.n171 aE Tryz.laysM171_ren:={
 mixed:=by kernel_rfl
 f129:=func220.trans (congrArg some (by kernel_rfl))
 f171:=func64.trans (congrArg some (by kernel_rfl))
 f243:=func133.trans (congrArg some (by kernel_rfl))
 f246:=func179.trans (congrArg some (by kernel_rfl))
 f283:=func222.trans (congrArg some (by kernel_rfl))
 f284:=func223.trans (congrArg some (by kernel_rfl))
 f285:=func224.trans (congrArg some (by kernel_rfl))
 f286:=func225.trans (congrArg some (by kernel_rfl))
 f317:=func249.trans (congrArg some (by kernel_rfl))
 f318:=func250.trans (congrArg some (by kernel_rfl))
 f319:=func251.trans (congrArg some (by kernel_rfl))
 f320:=func252.trans (congrArg some (by kernel_rfl))
 f337:=func274.trans (congrArg some (by kernel_rfl))
 f338:=func275.trans (congrArg some (by kernel_rfl))
 t0:=rA
 a0:=BW
 z0:=zQ
 v0:=sQ
 t2:=underlying2
 a2:=isAgg2
 z2:=sizeOf2
 v2:=zeroValue2
 t3:=dL
 a3:=jG
 z3:=iB
 v3:=gZ
 t4:=fM
 a4:=lN
 z4:=jV
 v4:=gC
 t5:=BJ
 a5:=Lg
 z5:=Jp
 v5:=Cn
 t9:=jN
 a9:=pY
 z9:=oJ
 v9:=mP
 t20:=KC
 a20:=YI
 z20:=VA
 v20:=Nh
 t37:=oo
 a37:=isAgg293
 z37:=sizeOf293
 v37:=te
 t46:=yA
 a46:=FH
 z46:=D7
 v46:=zX
 t51:=G7
 a51:=RP
 z51:=Ob
 v51:=Jq
 t53:=oq
 a53:=isAgg287
 z53:=sizeOf287
 v53:=tf
 t171:=ou
 a171:=isAgg291
 z171:=sizeOf291
 v171:=tg
 t173:=ow
 a173:=isAgg294
 z173:=sizeOf294
 v173:=th
 t212:=pd
 a212:=isAgg316
 z212:=sizeOf316
 v212:=ti
 t213:=ph
 a213:=isAgg317
 z213:=sizeOf317
 t232:=pi
 a232:=isAgg355
 z232:=sizeOf355
 v232:=tj
 t233:=pj
 a233:=isAgg356
 z233:=sizeOf356
 v233:=tk
 g17:=by kernel_rfl
 g18:=by kernel_rfl
 g19:=by kernel_rfl
 i0:=by kernel_rfl
 i2:=by kernel_rfl
 i3:=by kernel_rfl
 i4:=by kernel_rfl
 i5:=by kernel_rfl
 i9:=by kernel_rfl
 i20:=by kernel_rfl
 i37:=by kernel_rfl
 i46:=by kernel_rfl
 i51:=by kernel_rfl
 i53:=by kernel_rfl
 i171:=by kernel_rfl
 i173:=by kernel_rfl
 i212:=by kernel_rfl
 i232:=by kernel_rfl
 i233:=by kernel_rfl
 m17:=by kernel_rfl
 m18:=by kernel_rfl
 m19:=by kernel_rfl}
def Tryz.lays172_ren:iK:=⟨fun |172=>202|244=>237|245=>238|247=>264|279=>265|280=>266|281=>267|282=>268|287=>281|316=>282|171=>64|205=>283|321=>295|322=>296|243=>133|246=>179|283=>222|284=>223|285=>224|286=>225|129=>220|317=>249|318=>250|319=>251|320=>252|337=>274|338=>275|n=>n,fun |9=>9|3=>3|75=>268|76=>269|4=>4|5=>5|167=>326|37=>293|0=>0|85=>327|2=>2|168=>329|53=>287|175=>344|46=>236|210=>347|127=>336|145=>363|143=>361|21=>21|171=>291|173=>294|212=>316|51=>285|20=>20|213=>317|232=>355|233=>356|80=>309|n=>n,fun |15=>2|16=>3|17=>1|18=>4|19=>5|n=>n⟩
theorem Tryz.lays172:Go.Proofs.Lays.n172 aE Tryz.lays172_ren:={
 mixed:=by kernel_rfl
 f129:=func220.trans (congrArg some (by kernel_rfl))
 f171:=func64.trans (congrArg some (by kernel_rfl))
 f172:=func202.trans (congrArg some (by kernel_rfl))
 f205:=func283.trans (congrArg some (by kernel_rfl))
 f243:=func133.trans (congrArg some (by kernel_rfl))
 f244:=func237.trans (congrArg some (by kernel_rfl))
 f245:=func238.trans (congrArg some (by kernel_rfl))
 f246:=func179.trans (congrArg some (by kernel_rfl))
 f247:=func264.trans (congrArg some (by kernel_rfl))
 f279:=func265.trans (congrArg some (by kernel_rfl))
 f280:=func266.trans (congrArg some (by kernel_rfl))
 f281:=func267.trans (congrArg some (by kernel_rfl))
 f282:=func268.trans (congrArg some (by kernel_rfl))
 f283:=func222.trans (congrArg some (by kernel_rfl))
 f284:=func223.trans (congrArg some (by kernel_rfl))
 f285:=func224.trans (congrArg some (by kernel_rfl))
 f286:=func225.trans (congrArg some (by kernel_rfl))
 f287:=func281.trans (congrArg some (by kernel_rfl))
 f316:=func282.trans (congrArg some (by kernel_rfl))
 f317:=func249.trans (congrArg some (by kernel_rfl))
 f318:=func250.trans (congrArg some (by kernel_rfl))
 f319:=func251.trans (congrArg some (by kernel_rfl))
 f320:=func252.trans (congrArg some (by kernel_rfl))
 f321:=func295.trans (congrArg some (by kernel_rfl))
 f322:=func296.trans (congrArg some (by kernel_rfl))
 f337:=func274.trans (congrArg some (by kernel_rfl))
 f338:=func275.trans (congrArg some (by kernel_rfl))
 t0:=rA
 a0:=BW
 z0:=zQ
 v0:=sQ
 t2:=underlying2
 a2:=isAgg2
 z2:=sizeOf2
 v2:=zeroValue2
 t3:=dL
 a3:=jG
 z3:=iB
 v3:=gZ
 t4:=fM
 a4:=lN
 z4:=jV
 v4:=gC
 t5:=BJ
 a5:=Lg
 z5:=Jp
 v5:=Cn
 t9:=jN
 a9:=pY
 z9:=oJ
 v9:=mP
 t20:=KC
 a20:=YI
 z20:=VA
 v20:=Nh
 t21:=tp
 a21:=isAgg21
 z21:=sizeOf21
 v21:=zeroValue21
 t37:=oo
 a37:=isAgg293
 z37:=sizeOf293
 v37:=te
 t46:=yA
 a46:=FH
 z46:=D7
 v46:=zX
 t51:=G7
 a51:=RP
 z51:=Ob
 v51:=Jq
 t53:=oq
 a53:=isAgg287
 z53:=sizeOf287
 v53:=tf
 t75:=underlying268
 a75:=isAgg268
 z75:=sizeOf268
 v75:=zeroValue268
 t76:=underlying269
 a76:=isAgg269
 z76:=sizeOf269
 v76:=zeroValue269
 t85:=underlying327
 a85:=isAgg327
 z85:=sizeOf327
 v85:=zeroValue327
 t127:=underlying336
 a127:=isAgg336
 z127:=sizeOf336
 v127:=zeroValue336
 t143:=underlying361
 a143:=isAgg361
 z143:=sizeOf361
 v143:=zeroValue361
 t145:=underlying363
 a145:=isAgg363
 z145:=sizeOf363
 v145:=zeroValue363
 t167:=underlying326
 a167:=isAgg326
 z167:=sizeOf326
 v167:=zeroValue326
 t168:=underlying329
 a168:=isAgg329
 z168:=sizeOf329
 v168:=zeroValue329
 t171:=ou
 a171:=isAgg291
 z171:=sizeOf291
 v171:=tg
 t173:=ow
 a173:=isAgg294
 z173:=sizeOf294
 v173:=th
 t175:=underlying344
 a175:=isAgg344
 z175:=sizeOf344
 v175:=zeroValue344
 t210:=underlying347
 a210:=isAgg347
 z210:=sizeOf347
 v210:=zeroValue347
 t212:=pd
 a212:=isAgg316
 z212:=sizeOf316
 v212:=ti
 t213:=ph
 a213:=isAgg317
 z213:=sizeOf317
 t232:=pi
 a232:=isAgg355
 z232:=sizeOf355
 v232:=tj
 t233:=pj
 a233:=isAgg356
 z233:=sizeOf356
 v233:=tk
 g15:=by kernel_rfl
 g16:=by kernel_rfl
 g17:=by kernel_rfl
 g18:=by kernel_rfl
 g19:=by kernel_rfl}
def Tryz.lays101_ren:iK:=⟨fun |101=>122|208=>178|206=>180|n=>n,fun |9=>9|4=>4|3=>3|n=>n,fun |n=>n⟩
theorem Tryz.lays101:Go.Proofs.Lays.n101 aE Tryz.lays101_ren:={
 mixed:=by kernel_rfl
 f101:=func122.trans (congrArg some (by kernel_rfl))
 f206:=func180.trans (congrArg some (by kernel_rfl))
 f208:=func178.trans (congrArg some (by kernel_rfl))
 t3:=dL
 a3:=jG
 z3:=iB
 v3:=gZ
 t4:=fM
 a4:=lN
 z4:=jV
 v4:=gC
 t9:=jN
 a9:=pY
 z9:=oJ
 v9:=mP}
def Tryz.lays99_ren:iK:=⟨fun |99=>134|206=>180|n=>n,fun |9=>9|4=>4|3=>3|n=>n,fun |n=>n⟩
theorem Tryz.lays99:Go.Proofs.Lays.n99 aE Tryz.lays99_ren:={
 mixed:=by kernel_rfl
 f99:=func134.trans (congrArg some (by kernel_rfl))
 f206:=func180.trans (congrArg some (by kernel_rfl))
 t3:=dL
 a3:=jG
 z3:=iB
 v3:=gZ
 t4:=fM
 a4:=lN
 z4:=jV
 v4:=gC
 t9:=jN
 a9:=pY
 z9:=oJ
 v9:=mP}
def Tryz.lays103_ren:iK:=⟨fun |103=>181|210=>226|206=>180|n=>n,fun |9=>9|4=>4|24=>248|3=>3|n=>n,fun |n=>n⟩
theorem Tryz.lays103:Go.Proofs.Lays.n103 aE Tryz.lays103_ren:={
 mixed:=by kernel_rfl
 f103:=func181.trans (congrArg some (by kernel_rfl))
 f206:=func180.trans (congrArg some (by kernel_rfl))
 f210:=func226.trans (congrArg some (by kernel_rfl))
 t3:=dL
 a3:=jG
 z3:=iB
 v3:=gZ
 t4:=fM
 a4:=lN
 z4:=jV
 v4:=gC
 t9:=jN
 a9:=pY
 z9:=oJ
 v9:=mP
 t24:=underlying248
 a24:=isAgg248
 z24:=sizeOf248
 v24:=zeroValue248}
def Tryz.lays122_ren:iK:=⟨fun |122=>140|215=>186|n=>n,fun |3=>3|4=>4|n=>n,fun |n=>n⟩
theorem Tryz.lays122:Go.Proofs.Lays.n122 aE Tryz.lays122_ren:={
 mixed:=by kernel_rfl
 f122:=func140.trans (congrArg some (by kernel_rfl))
 f215:=func186.trans (congrArg some (by kernel_rfl))
 t3:=dL
 a3:=jG
 z3:=iB
 v3:=gZ
 t4:=fM
 a4:=lN
 z4:=jV
 v4:=gC}
def Tryz.lays145_ren:iK:=⟨fun |145=>234|220=>256|219=>276|217=>288|225=>289|224=>290|267=>291|266=>298|314=>299|n=>n,fun |9=>9|4=>4|59=>301|3=>3|5=>5|46=>236|146=>351|51=>285|n=>n,fun |1=>6|n=>n⟩
theorem Tryz.lays145:Go.Proofs.Lays.n145 aE Tryz.lays145_ren:={
 mixed:=by kernel_rfl
 f145:=func234.trans (congrArg some (by kernel_rfl))
 f217:=func288.trans (congrArg some (by kernel_rfl))
 f219:=func276.trans (congrArg some (by kernel_rfl))
 f220:=func256.trans (congrArg some (by kernel_rfl))
 f224:=func290.trans (congrArg some (by kernel_rfl))
 f225:=func289.trans (congrArg some (by kernel_rfl))
 f266:=func298.trans (congrArg some (by kernel_rfl))
 f267:=func291.trans (congrArg some (by kernel_rfl))
 f314:=func299.trans (congrArg some (by kernel_rfl))
 t3:=dL
 a3:=jG
 z3:=iB
 v3:=gZ
 t4:=fM
 a4:=lN
 z4:=jV
 v4:=gC
 t5:=BJ
 a5:=Lg
 z5:=Jp
 v5:=Cn
 t9:=jN
 a9:=pY
 z9:=oJ
 v9:=mP
 t46:=yA
 a46:=FH
 z46:=D7
 v46:=zX
 t51:=G7
 a51:=RP
 z51:=Ob
 v51:=Jq
 t59:=underlying301
 a59:=isAgg301
 z59:=sizeOf301
 v59:=zeroValue301
 t146:=underlying351
 a146:=isAgg351
 z146:=sizeOf351
 v146:=zeroValue351
 g1:=by kernel_rfl}
def Tryz.lays160_ren:iK:=⟨fun |160=>236|232=>258|231=>257|227=>259|234=>261|233=>260|236=>263|235=>262|228=>277|271=>280|151=>279|197=>278|120=>294|152=>293|260=>292|137=>300|119=>301|224=>290|225=>289|217=>288|266=>298|n=>n,fun |9=>9|4=>4|3=>3|5=>5|117=>322|116=>321|0=>0|124=>325|21=>21|105=>341|46=>236|119=>366|139=>369|138=>368|n=>n,fun |3=>7|4=>8|n=>n⟩
theorem Tryz.lays160:Go.Proofs.Lays.n160 aE Tryz.lays160_ren:={
 mixed:=by kernel_rfl
 f119:=func301.trans (congrArg some (by kernel_rfl))
 f120:=func294.trans (congrArg some (by kernel_rfl))
 f137:=func300.trans (congrArg some (by kernel_rfl))
 f151:=func279.trans (congrArg some (by kernel_rfl))
 f152:=func293.trans (congrArg some (by kernel_rfl))
 f160:=func236.trans (congrArg some (by kernel_rfl))
 f197:=func278.trans (congrArg some (by kernel_rfl))
 f217:=func288.trans (congrArg some (by kernel_rfl))
 f224:=func290.trans (congrArg some (by kernel_rfl))
 f225:=func289.trans (congrArg some (by kernel_rfl))
 f227:=func259.trans (congrArg some (by kernel_rfl))
 f228:=func277.trans (congrArg some (by kernel_rfl))
 f231:=func257.trans (congrArg some (by kernel_rfl))
 f232:=func258.trans (congrArg some (by kernel_rfl))
 f233:=func260.trans (congrArg some (by kernel_rfl))
 f234:=func261.trans (congrArg some (by kernel_rfl))
 f235:=func262.trans (congrArg some (by kernel_rfl))
 f236:=func263.trans (congrArg some (by kernel_rfl))
 f260:=func292.trans (congrArg some (by kernel_rfl))
 f266:=func298.trans (congrArg some (by kernel_rfl))
 f271:=func280.trans (congrArg some (by kernel_rfl))
 t0:=rA
 a0:=BW
 z0:=zQ
 v0:=sQ
 t3:=dL
 a3:=jG
 z3:=iB
 v3:=gZ
 t4:=fM
 a4:=lN
 z4:=jV
 v4:=gC
 t5:=BJ
 a5:=Lg
 z5:=Jp
 v5:=Cn
 t9:=jN
 a9:=pY
 z9:=oJ
 v9:=mP
 t21:=tp
 a21:=isAgg21
 z21:=sizeOf21
 v21:=zeroValue21
 t46:=yA
 a46:=FH
 z46:=D7
 v46:=zX
 t105:=underlying341
 a105:=isAgg341
 z105:=sizeOf341
 v105:=zeroValue341
 t116:=underlying321
 a116:=isAgg321
 z116:=sizeOf321
 t117:=underlying322
 a117:=isAgg322
 z117:=sizeOf322
 v117:=zeroValue322
 t119:=underlying366
 a119:=isAgg366
 z119:=sizeOf366
 t124:=underlying325
 a124:=isAgg325
 z124:=sizeOf325
 v124:=zeroValue325
 t138:=underlying368
 a138:=isAgg368
 z138:=sizeOf368
 v138:=zeroValue368
 t139:=underlying369
 a139:=isAgg369
 z139:=sizeOf369
 v139:=zeroValue369
 g3:=by kernel_rfl
 g4:=by kernel_rfl}
open Go Go.RowKit Go.Shelf Go.Lib
def vn:String:=String.ofList ([105,110,116,101,114,110,97,108,47,115,116,114,99,111,110,118,46,117,105,110,116,54,52,112,111,119,49,48].map Char.ofNat)
structure mN(w:aF):Prop where
 tab:Lib.TabIs aE w vn .u64 Lib.pow10Tab
 cut:∃m,w.cell? ⟨6,0,none⟩=some (aC aB m)
theorem mN.below{w w':aF}(h:mN w)(hb:Below w.heap.size w w'):mN w':=by
 obtain⟨h1,m,h2⟩:=h;refine⟨?_,m,(hb.cell (bB w _ h2)).trans h2⟩;unfold Lib.TabIs World.var? at h1⊢;cases hg:Tryz.prog.globalNamed vn with
 |none=>rw[hg]at h1;simp at h1
 |some g=>
  rw[hg]at h1;simp only[Option.bind_some]at h1⊢;have hlt:g<w.heap.size:=by
   by_cases h:g<w.heap.size
   ·exact h
   ·rw[Array.getElem?_eq_none (by omega)]at h1;simp at h1
  rw[hb.block g hlt];exact h1
theorem oO(n:Int)(w:aF)(h:mN w)(h0: -9223372036854775808≤n)(h1:n≤9223372036854775807):
 bE aE 64 #[aC aB n] w (Rt (aA (bs (cG n))) w):=by
 refine(Any.strconv_Itoa Tryz.laysM171 n h0 h1 w h.tab).mono ?_;rintro e w'⟨rfl,k,os,rfl⟩;exact⟨rfl,Lib.below_grow _ _ (aH _) _ _⟩
theorem SQ(s:ByteArray)(n:Int)(w:aF)(hl:s.size≤18)(h:G8 s.data.toList=some n):
 bE aE 202 #[aA s] w (Rt (cK #[aC aB n,.nilIface]) w):=by
 refine(Any.strconv_Atoi Tryz.lays172 s n hl h w).mono ?_;rintro e w'⟨rfl,t,rfl⟩;exact⟨rfl,Lib.bytesWorld_below _ _ _⟩
theorem sB(s p:ByteArray)(w:aF):
 bE aE 122 #[aA s,aA p] w fun e w'=>e=bA (aA (bs (yX s.data.toList p.data.toList)))∧w=w':=
 (Any.strings_TrimPrefix Tryz.lays101 s p w).mono fun _ _ h=>⟨h.1,h.2.symm⟩
theorem Ei(s p:ByteArray)(w:aF):
 bE aE 134 #[aA s,aA p] w fun e w'=>e=bA (aV (BK s.data.toList p.data.toList))∧w=w':=
 (Any.strings_HasPrefix Tryz.lays99 s p w).mono fun _ _ h=>⟨h.1,h.2.symm⟩
theorem Ej(s p:ByteArray)(w:aF):
 bE aE 181 #[aA s,aA p] w fun e w'=>e=bA (cK #[aA (bs (yX s.data.toList p.data.toList)),aV (BK s.data.toList p.data.toList)])∧w=w':=
 (Any.strings_CutPrefix Tryz.lays103 s p w).mono fun _ _ h=>⟨h.1,h.2.symm⟩
theorem JC(x y:Int)(w:aF):
 bE aE 140 #[aC aB x,aC aB y] w fun e w'=>e=bA (aC aB (PQ x y))∧w=w':=
 (Any.cmp_Compare_int Tryz.lays122 x y w).mono fun _ _ h=>⟨h.1,h.2.symm⟩
theorem lib_Cut(s sep:ByteArray)(w:aF)(h:mN w)(hs:s.size<4294967281):
 bE aE 234 #[aA s,aA sep] w (Rt (cK #[aA (bs (Lib.cut s.data.toList sep.data.toList).1),aA (bs (Lib.cut s.data.toList sep.data.toList).2.1),aV (Lib.cut s.data.toList sep.data.toList).2.2]) w):=by
 obtain⟨m,hm⟩:=h.cut;refine(Any.strings_Cut Tryz.lays145 s sep m w hs hm).mono ?_;rintro e w'⟨rfl,n,rfl⟩;exact⟨rfl,eF (aL _ _) n⟩
def vo:List UInt8:=[48,49,50,51,52,53,54,55,56,57]
theorem vp(s cs:ByteArray)(w:aF)(hs:s.size≤9223372036854775807)(BM:cs.data.toList=vo):
 bE aE 236 #[aA s,aA cs] w (Rt (aA (bs (D8 s.data.toList vo))) w):=by
 have:=Any.strings_Trim_laid Tryz.lays160 (by kernel_rfl) s cs w hs (by rw[be,←Array.length_toList,BM];decide) (by rw[BM];exact ascii_of_all (by decide));rw[BM]at this;exact this
end
section
open Go Go.Lib
def vr(n:Int):Int:=if n<0 then -1 else if 0<n then 1 else 0
end
section
open Go
open Go.Lib (hasPrefix trimPrefix)
theorem Bh(l:List UInt8):BK l [45]=decide (l.head? =some 45):=by
 cases l with
 |nil=>rfl
 |cons c r=>
  by_cases h:c=45
  ·subst h;rfl
  ·have h':¬(45:UInt8)=c:=fun e=>h e.symm;simp[BK,List.isPrefixOf,h,h']
theorem WE(l:List UInt8):yX l [45]=mag l:=by
 unfold yX mag;rw[Bh];by_cases h:l.head? =some 45
 ·rw[ip (by simp[h]),ip h];cases l<;>simp
 ·rw[iN (by simp[h]),iN h]
end
section
open Go
open Go.Lib (trimS trimLeftS trimRightS)
def Ak:List UInt8:=[48,49,50,51,52,53,54,55,56,57]
theorem F6(c:UInt8):Ak.contains c=xW c:=by
 rw[pI];simp only[Ak,xW,List.contains_cons,List.contains_nil,Bool.or_false,jC,beq_iff_eq,bQ,decide_eq_true_eq,←UInt8.toNat_inj];simp;omega
theorem WG{α:Type}(p:α→Bool):∀l:List α,l.dropWhile p=[]↔∀x∈l,p x=true
 |[]=>by simp
 |a::l=>by
  rw[Fy]
  by_cases h:p a=true
  ·rw[ip h,WG p l];simp[h]
  ·rw[iN h];simp[h]
theorem Y5{α:Type}(p:α→Bool):∀(l:List α)(c:α)(r:List α),l.dropWhile p=c::r→p c=false
 |[],_,_,h=>by cases h
 |a::l,c,r,h=>by
  rw[Fy]at h
  by_cases k:p a=true
  ·rw[ip k]at h;exact Y5 p l c r h
  ·rw[iN k]at h;injection h with h1 h2;subst h1;simpa using k
theorem vt{α:Type}(p:α→Bool):∀(l:List α)(x:α),x∈l.dropWhile p→x∈l
 |[],_,h=>by cases h
 |a::l,x,h=>by
  rw[Fy]at h
  by_cases k:p a=true
  ·rw[ip k]at h;exact dA _ (vt p l x h)
  ·rw[iN k]at h;exact h
theorem cz(l:List UInt8):D8 l Ak=[]↔l.all xW=true:=by
 have hall:(∀x∈l,Ak.contains x=true)↔l.all xW=true:=by
  rw[List.all_eq_true];exact forall_congr' fun x=>by rw[F6]
 rw[←hall];unfold D8 trimLeftS trimRightS;rw[WG];constructor
 ·intro h;cases he:List.dropWhile (fun x=>Ak.contains x) l.reverse with
  |nil=>
   rw[WG]at he;exact fun x hx=>he x (List.mem_reverse.2 hx)
  |cons c r=>
   have h1:=Y5 _ _ _ _ he;have h2:=h c (List.mem_reverse.2 (by rw[he];exact cW));rw[h1]at h2;cases h2
 ·intro h x hx;exact h x (List.mem_reverse.1 (vt _ _ _ (List.mem_reverse.1 hx)))
theorem JD:∀(l:List UInt8)(a:Nat),l.all xW=true→Go.Lib.decFrom a l=some (l.foldl (fun a c=>a*10+(c.toNat-48)) a)
 |[],_,_=>rfl
 |b::r,a,h=>by
  rw[vC,bQ]at h
  have hd:tq b=some (b.toNat-48):=by
   have:=h.1;simp only[xW,bQ,decide_eq_true_eq]at this;rw[tq,ip this]
  rw[Go.Lib.decFrom,hd,oI];exact JD r _ h.2
theorem Lu{l:List UInt8}(h:l.all xW=true)(h0:l≠[]):Go.Lib.decNat l=some (num l):=by
 rw[Go.Lib.decNat,iN (by simpa using h0),JD l 0 h];rfl
theorem vu{l:List UInt8}(h:uj l=true):G8 l=some (Qf l):=by
 have hd:=Ww h;have hl:=Wv h;cases l with
 |nil=>simp[frm]at hl
 |cons b r=>
  by_cases h45:b=45
  ·subst h45;have hm:mag (45::r)=r:=by simp[mag]
   rw[hm]at hd;have hr0:r≠[]:=by rintro rfl;simp[frm]at hl
   rw[G8,ip (by rfl),Lu hd hr0];simp[Qf,hm]
  ·have hh:(b::r).head?≠some 45:=by simpa using h45
   have hm:mag (b::r)=b::r:=by rw[mag,iN hh]
   rw[hm]at hd;have hb:xW b=true:=by rw[vC,bQ]at hd;exact hd.1
   have h43:¬b=43:=by rintro rfl;revert hb;decide
   rw[G8,iN (by simpa using h45),iN (by simpa using h43),Lu hd (by simp)];simp[Qf,hm,h45]
end
section
open Go Go.Lib
def nS(s:List UInt8):List UInt8:=s.takeWhile (·!=47)
def dS(s:List UInt8):List UInt8:=(s.dropWhile (·!=47)).tail
def JE(s:List UInt8):Bool:=s.any (·==47)
theorem F7(c:UInt8)(s:List UInt8)(h:c≠47):nS (c::s)=c::nS s∧dS (c::s)=dS s∧JE (c::s)=JE s:=by
 have h1:(c !=47)=true:=by simpa using h
 have h2:(c==47)=false:=by simpa using h
 simp[nS,dS,JE,h1,h2]
theorem Cw(s:List UInt8):nS (47::s)=[]∧dS (47::s)=s∧JE (47::s)=true:=by
 simp[nS,dS,JE]
theorem vv:∀(n d:List UInt8),(∀c∈n,c≠47)→nS (n++47::d)=n∧dS (n++47::d)=d∧JE (n++47::d)=true
 |[],d,_=>Cw d
 |c::n,d,h=>by
  obtain⟨h1,h2,h3⟩:=F7 c (n++47::d) (h c (cW ..))
  obtain⟨i1,i2,i3⟩:=vv n d fun x hx=>h x (dA _ hx)
  rw[cJ,h1,h2,h3,i1,i2,i3]
  exact⟨rfl,rfl,rfl⟩
theorem SU:∀(n:List UInt8),(∀c∈n,c≠47)→nS n=n∧dS n=[]∧JE n=false
 |[],_=>⟨rfl,rfl,rfl⟩
 |c::n,h=>by
  obtain⟨h1,h2,h3⟩:=F7 c n (h c (cW ..))
  obtain⟨i1,i2,i3⟩:=SU n fun x hx=>h x (dA _ hx)
  rw[h1,h2,h3,i1,i2,i3]
  exact⟨rfl,rfl,rfl⟩
theorem Lv:∀(s:List UInt8),JE s=true→s=nS s++47::dS s
 |[],h=>by cases h
 |c::s,h=>by
  by_cases e:c=47
  ·subst e
   obtain⟨h1,h2,_⟩:=Cw s
   rw[h1,h2];rfl
  ·obtain⟨h1,h2,h3⟩:=F7 c s e
   rw[h1,h2,cJ,←Lv s (by rw[←h3];exact h)]
theorem F8:∀(s:List UInt8),JE s=false→nS s=s∧dS s=[]
 |[],_=>⟨rfl,rfl⟩
 |c::s,h=>by
  by_cases e:c=47
  ·subst e;rw[(Cw s).2.2]at h;cases h
  ·obtain⟨h1,h2,h3⟩:=F7 c s e
   obtain⟨i1,i2⟩:=F8 s (by rw[←h3];exact h)
   rw[h1,h2,i1,i2];exact⟨rfl,rfl⟩
def okQ(s:List UInt8):Bool:=uj (nS s)&&(!JE s||(bu (dS s)&&dS s !=[48]&&dS s !=[49]))
def SX(s:List UInt8):Bool:=decide (300<(mag (nS s)).length)||decide (300<(dS s).length)
def qN(s:List UInt8):Int:=Qf (nS s)
def qD(s:List UInt8):Nat:=if JE s=true then num (dS s)else 1
def Iy(s:List UInt8):Int:=
 if okQ s=true then(if SX s=true then 4 else if iA (qN s).natAbs (qD s)=1 then 0 else 11)else 11
def cT(s:List UInt8):Rat:=mkRat (qN s) (qD s)
def bG(q:Rat):List UInt8:=if q.den=1 then cG q.num else cG q.num++47::bZ q.den
theorem SY{c:UInt8}(h:xW c=true):c≠47:=by rintro rfl;revert h;decide
theorem BN{l:List UInt8}(h:l.all xW=true):∀c∈l,c≠47:=fun c hc=>SY (List.all_eq_true.1 h c hc)
theorem Ek(n:Int):∀c∈cG n,c≠47:=by
 intro c hc;by_cases h:n<0
 ·rw[xD h]at hc;rcases List.mem_cons.1 hc with rfl|hc
  ·decide
  ·exact BN (kM _) c hc
 ·rw[kN (by omega)]at hc;exact BN (kM _) c hc
theorem Qi{s:List UInt8}(h:Iy s=0):okQ s=true∧SX s=false∧iA (qN s).natAbs (qD s)=1:=by
 unfold Iy at h;split at h
 ·split at h
  ·cases h
  ·split at h
   ·exact⟨‹_›,by simpa using‹¬SX s=true›,‹_›⟩
   ·cases h
 ·cases h
theorem Oo{s:List UInt8}(h:okQ s=true):uj (nS s)=true∧(JE s=true→bu (dS s)=true∧dS s≠[48]∧dS s≠[49]):=by
 simp only[okQ,bQ,jC,dP,bne_iff_ne,ne_eq]at h;refine⟨h.1,fun e=>?_⟩;rcases h.2 with h|h
 ·rw[e]at h;cases h
 ·exact⟨h.1.1,h.1.2,h.2⟩
theorem SZ{l:List UInt8}(h:bu l=true)(h0:l≠[48]):num l≠0:=by
 intro e;have:=tY l h;rw[e,mW]at this;exact h0 this.symm
theorem El:bZ 1=[49]:=by rw[iO (by decide)];rfl
theorem WH{l:List UInt8}(h:bu l=true)(h0:l≠[49]):num l≠1:=by
 intro e;have:=tY l h;rw[e,El]at this;exact h0 this.symm
theorem qD_pos{s:List UInt8}(h:okQ s=true):qD s≠0:=by
 unfold qD;split
 ·obtain⟨h1,h2,-⟩:=(Oo h).2 ‹_›;exact SZ h1 h2
 ·decide
theorem NJ{n:Int}{d:Nat}(hd:d≠0)(h:iA n.natAbs d=1):(mkRat n d).num=n∧(mkRat n d).den=d:=by
 rw[Rat.num_mkRat,Rat.den_mkRat,iN hd,iN hd,xT,h];exact⟨by simp,by simp⟩
theorem WI{s:List UInt8}(h:Iy s=0):(cT s).num=qN s∧(cT s).den=qD s:=
 NJ (qD_pos (Qi h).1) (Qi h).2.2
theorem vw{s:List UInt8}(h:Iy s=0):bG (cT s)=s:=by
 obtain⟨h1,h2⟩:=WI h;obtain⟨k1,k2⟩:=Oo (Qi h).1;rw[bG,h1,h2,qN,cd _ k1,qD];by_cases hs:JE s=true
 ·obtain⟨e1,e2,e3⟩:=k2 hs;rw[ip hs,iN (WH e1 e3),tY _ e1];exact(Lv s hs).symm
 ·rw[iN hs,ip rfl];exact(F8 s (by simpa using hs)).1
theorem okZ_len{n:Int}(h:n.natAbs<10^300):(mag (cG n)).length≤300:=by
 rw[FM,mT _ _ (by decide)];exact h
theorem EW(q:Rat):nS (bG q)=cG q.num∧qN (bG q)=q.num∧qD (bG q)=q.den∧(JE (bG q)=false→q.den=1)∧(JE (bG q)=true→dS (bG q)=bZ q.den∧q.den≠1):=by
 unfold bG;by_cases h:q.den=1
 ·rw[ip h];obtain⟨h1,h2,h3⟩:=SU _ (Ek q.num);refine⟨h1,by rw[qN,h1,Ae],by rw[qD,h3,iN (by decide),h],fun _=>h,fun e=>?_⟩;rw[h3]at e;cases e
 ·rw[iN h];obtain⟨h1,h2,h3⟩:=vv _ (bZ q.den) (Ek q.num);refine⟨h1,by rw[qN,h1,Ae],by rw[qD,h3,ip rfl,h2,mK],fun e=>?_,fun _=>⟨h2,h⟩⟩;rw[h3]at e;cases e
theorem vz(q:Rat)(h1:q.num.natAbs<10^300)(h2:q.den<10^300):Iy (bG q)=0:=by
 obtain⟨e1,e2,e3,e4,e5⟩:=EW q;have Cd:okQ (bG q)=true:=by
  simp only[okQ,bQ,jC,dP,bne_iff_ne,ne_eq];refine⟨by rw[e1];exact Cs _,?_⟩;by_cases hs:JE (bG q)=true
  ·obtain⟨d1,d2⟩:=e5 hs;right;rw[d1];refine⟨⟨Ef _,fun e=>?_⟩,fun e=>?_⟩
   ·have:=congrArg num e;rw[mK]at this;exact q.den_nz this
   ·have:=congrArg num e;rw[mK]at this;exact d2 this
  ·left;simpa using hs
 have hl:SX (bG q)=false:=by
  simp only[SX,Bool.or_eq_false_iff,decide_eq_false_iff_not];refine⟨by rw[e1];have:=okZ_len h1;omega,?_⟩;by_cases hs:JE (bG q)=true
  ·rw[(e5 hs).1];have:=(mT q.den 300 (by decide)).2 h2;omega
  ·rw[(F8 _ (by simpa using hs)).2];decide
 rw[Iy,ip Cd,iN (by rw[hl];decide),e2,e3,ip q.reduced]
theorem gG(q:Rat):cT (bG q)=q:=by
 obtain⟨e1,e2,e3,-⟩:=EW q;rw[cT,e2,e3,Rat.mkRat_self]
theorem wa{p q:Rat}(h:bG p=bG q):p=q:=by rw[←gG p,←gG q,h]
def Oq(s t:List UInt8):Int:=if Iy s=0 then Iy t else Iy s
def okZ(n:Int):Bool:=decide (n.natAbs<10^300)
def Qj(x y:Rat):Bool:=okZ (x.num*y.den)&&okZ (y.num*x.den)
def mulOk(x y:Rat):Bool:=okZ (x.num*y.num)&&okZ (x.den*y.den)
def nH(x y:Rat):Int:=if x<y then -1 else if y<x then 1 else 0
def mulQ(s t:List UInt8):List UInt8×Int:=if Oq s t=0 then(if mulOk (cT s) (cT t)=true then(bG (cT s*cT t),0)else([],4))else([],Oq s t)
def fH(s t:List UInt8):Int×Int:=if Oq s t=0 then(if Qj (cT s) (cT t)=true then(nH (cT s) (cT t),0)else(0,4))else(0,Oq s t)
theorem IA(x y:Rat):mkRat (x.num*y.den+y.num*x.den) (x.den*y.den)=x+y:=(Rat.add_def' x y).symm
theorem IB(x y:Rat):mkRat (x.num*y.den-y.num*x.den) (x.den*y.den)=x-y:=(Rat.sub_def' x y).symm
theorem IC(x y:Rat):mkRat (x.num*y.num) (x.den*y.den)=x*y:=(Rat.mul_def' x y).symm
theorem Lw(x y:Rat):Ih (x.num*y.den) (y.num*x.den)=x/y:=by
 have h:x/y=Ih x.num x.den*Ih y.den y.num:=by rw[Rat.div_def,Rat.inv_def,Rat.num_divInt_den]
 rw[h,Rat.divInt_mul_divInt,Int.mul_comm y.num]
theorem wg(x y:Rat):nH x y=vr (x.num*y.den-y.num*x.den):=by
 have h1:=Rat.lt_iff x y;have h2:=Rat.lt_iff y x;generalize x.num*y.den=a at *;generalize y.num*x.den=b at *;unfold nH vr;by_cases h:x<y
 ·have:=h1.1 h;rw[ip h,ip (by omega)]
 ·have k:¬a<b:=fun e=>h (h1.2 e);have k0:¬a-b<0:=by omega
  rw[iN h,iN k0];by_cases g:y<x
  ·have:=h2.1 g;rw[ip g,ip (by omega)]
  ·have k2:¬b<a:=fun e=>g (h2.2 e);have k3:¬0<a-b:=by omega
   rw[iN g,iN k3]
theorem Cx(n:Int)(d:Nat)(hd:d≠0):(mkRat n d).num=n/(iA n.natAbs d:Nat)∧(mkRat n d).den=d/iA n.natAbs d:=by
 rw[Rat.num_mkRat,Rat.den_mkRat,iN hd,iN hd,xT];exact⟨rfl,rfl⟩
def HQ(k:Nat)(q:Rat):Prop:=q.num.natAbs<10^k∧q.den<10^k
theorem HQ.mono{j k:Nat}{q:Rat}(h:HQ j q)(hk:j≤k):HQ k q:=
 ⟨dC h.1 (pJ (by decide) hk),dC h.2 (pJ (by decide) hk)⟩
theorem Al(n:Int)(d:Nat)(hd:d≠0):(mkRat n d).num.natAbs≤n.natAbs∧(mkRat n d).den≤d:=by
 obtain⟨h1,h2⟩:=Cx n d hd;rw[h1,h2];refine⟨?_,Nat.div_le_self _ _⟩;have hg:((iA n.natAbs d:Nat):Int)∣n:=Int.natAbs_dvd_natAbs.1 (by rw[eD];exact Nat.gcd_dvd_left _ _);have:=Int.ediv_mul_cancel hg;by_cases h0:n=0
 ·subst h0;simp
 ·have hd':(n/((iA n.natAbs d:Nat):Int))∣n:=⟨_,this.symm⟩;exact Nat.le_of_dvd (by omega) (Int.natAbs_dvd_natAbs.2 hd')
theorem fO{x y:Int}{a b:Nat}(h1:x.natAbs<10^a)(h2:y.natAbs<10^b):(x*y).natAbs<10^(a+b):=by
 rw[Int.natAbs_mul,Nat.pow_add];exact Nat.mul_lt_mul'' h1 h2
theorem wh{n:Int}{k:Nat}(h:n.natAbs<10^k)(hk:k≤300):okZ n=true:=by
 simp only[okZ,decide_eq_true_eq];exact wZ 300 h hk
theorem Lx{x y:Int}{k:Nat}(h1:x.natAbs<10^k)(h2:y.natAbs<10^k):(x+y).natAbs<10^(k+1):=by
 rw[Ck];omega
theorem Ly{x y:Int}{k:Nat}(h1:x.natAbs<10^k)(h2:y.natAbs<10^k):(x-y).natAbs<10^(k+1):=by
 rw[Ck];omega
section
variable{a b:Nat}{x y:Rat}
theorem HQ.n(h:HQ a x):x.num.natAbs<10^a:=h.1
theorem HQ.d(h:HQ a x):((x.den:Nat):Int).natAbs<10^a:=by rw[eD];exact h.2
theorem HQ.cross(h1:HQ a x)(h2:HQ b y):(x.num*y.den).natAbs<10^(a+b)∧(y.num*x.den).natAbs<10^(a+b):=
 ⟨fO h1.n h2.d,by rw[Nat.add_comm];exact fO h2.n h1.d⟩
theorem WJ(h1:HQ a x)(h2:HQ b y)(h:a+b≤300):Qj x y=true:=by
 simp only[Qj,bQ];exact⟨wh (h1.cross h2).1 h,wh (h1.cross h2).2 h⟩
theorem yG(x y:Rat):x.den*y.den≠0:=Nat.mul_ne_zero x.den_nz y.den_nz
end
theorem Du{q:Rat}{k:Nat}(h:HQ k q)(hk:k≤300):Iy (bG q)=0:=vz q (h.mono hk).1 (h.mono hk).2
section
variable{a b:Nat}{x y:Rat}
theorem bothQ_T(h1:HQ a x)(h2:HQ b y)(ha:a≤300)(hb:b≤300):Oq (bG x) (bG y)=0:=by
 rw[Oq,ip (Du h1 ha)];exact Du h2 hb
theorem cmpQ_T(h1:HQ a x)(h2:HQ b y)(h:a+b≤300):fH (bG x) (bG y)=(nH x y,0):=by
 rw[fH,ip (bothQ_T h1 h2 (by omega) (by omega)),gG,gG,ip (WJ h1 h2 h)]
end
end
section
open Go Go.RowKit
section
variable{P:dN}{f:BS}{ar:Array aP}{W:aF}{v:aP}{S:aF→Prop}{R:wG→aF→Prop}{p r:Prop}
theorem ka(H:bE P f ar W fun e w'=>e=bA v∧S w')(k:∀w',S w'→R (bA v) w'):bE P f ar W R:=
 (H.mono fun _ w'⟨h1,h2⟩=>h1▸k w' h2)
theorem kb{a:aF}(H:bE P f ar W (Rt (v) W))(B:Below a.heap.size a W)(k:∀w',bK (Below a.heap.size a w')→R (bA v) w'):bE P f ar W R:=
 (H.mono fun _ w'⟨h1,h2⟩=>h1▸k w' (cI B h2 B.size))
theorem kc{a:aF}(H:bE P f ar W (Rt (v) W))(B:Below a.heap.size a W)(k:∀w',Below a.heap.size a w'→R (bA v) w'):bE P f ar W R:=
 (H.mono fun _ w'⟨h1,h2⟩=>h1▸k w' (cI B h2 B.size))
theorem kr(H:bE P f ar W fun e w'=>e=bA v∧W=w')(k:R (bA v) W):bE P f ar W R:=
 (H.mono fun _ _⟨h1,h2⟩=>h1▸h2▸k)
theorem pu(h:r)(g:r→p:=by intro h;(try simp only[Act.put,List.getElem_toArray,List.getElem_cons_succ,List.getElem_cons_zero,List.setIfInBounds_toArray,List.set_cons_zero,List.set_cons_succ]);exact h):p:=g h
end
theorem nm{α:Type}(a:α):∃x,a=x:=⟨a,rfl⟩
theorem bT.ce{w:World}{b:Nat}{cs:Array Value}{T:TypeId}(h:bT w b cs T)(i:Nat){v:Value}(e:cs[i]? =some v:=by(simp only[List.getElem?_toArray,List.getElem?_cons_zero,List.getElem?_cons_succ];exact rfl)):w.cell? ⟨b,i,none⟩=some v:=(h.cell i).trans e
end
section
open Go Go.Lib
theorem Ot(s:ByteArray)(h:0<s.size):s.data.toList.head? =some s[0]:=by
 have h':0<s.data.toList.length:=h;rw[Cb,bN h'];rfl
theorem xE(l:List UInt8)(c:List UInt8):((bs l).toList==c)=(l==c):=by rw[dV];rfl
theorem uG(n:Nat):cG (n:Int)=bZ n:=by rw[kN (by omega)];rfl
theorem Y6(z y:Int):(cG z==cG y)=decide (z=y):=by
 by_cases h:z=y
 ·subst h;simp
 ·rw[decide_eq_false h,beq_eq_false_iff_ne];exact fun e=>h (uq e)
theorem Qk:cG 1=[49]:=(uG 1).trans El
theorem F9:cG 0=[48]:=(uG 0).trans mW
theorem Ga(n:Nat):(cG ((n:Nat):Int)==[49])=decide (n=1):=by
 rw[←Qk,Y6];exact decide_eq_decide.2 (by omega)
theorem nZ(z:Int):(cG z==[48])=decide (z=0):=by rw[←F9,Y6]
theorem Cy(z:Int):BK (cG z) [45]=decide (z<0):=by
 rw[Bh];exact decide_eq_decide.2 (wF z)
theorem wI(z:Int):yX (cG z) [45]=bZ z.natAbs:=by rw[WE,FM]
theorem iD{n k:Nat}(h:n<10^k)(hk:0<k):(bZ n).length≤k:=(mT n k hk).2 h
theorem xF{n:Int}{k:Nat}(h:n.natAbs<10^k)(hk:0<k):(cG n).length≤k+1:=by
 have:=iD h hk;by_cases h0:n<0
 ·rw[xD h0,bD];omega
 ·rw[kN (by omega)];omega
theorem wJ{n k:Nat}(h:n<10^k)(hk:0<k):(cG (n:Int)).length≤k:=by rw[uG];exact iD h hk
theorem Dv{n:Int}{k:Nat}(h:n.natAbs<10^k)(hk:0<k):(bs (cG n)).size≤k+1:=by rw[lD];exact xF h hk
def ID(x y:Int):Int:=if y<0 then -x else x
theorem Gb(a b:Int):mkRat (ID a b) b.natAbs=Ih a b:=by
 by_cases h:b<0
 ·obtain⟨d,rfl⟩:∃d:Nat,b= -(d:Int):=⟨(-b).toNat,by omega⟩;rw[ID,ip h,Rat.divInt_neg',Rat.divInt_ofNat,Int.natAbs_neg,eD]
 ·obtain⟨d,rfl⟩:∃d:Nat,b=(d:Int):=⟨b.toNat,by omega⟩;rw[ID,iN h,Rat.divInt_ofNat,eD]
theorem wn(n:Int)(d:Nat):mkRat (ID n d) (d:Int).natAbs=mkRat n d:=by
 rw[ID,iN (by omega),eD]
theorem Gc(x y:Rat)(n:Int):mkRat (ID n ((x.den:Int)*y.den)) ((x.den:Int)*y.den).natAbs=mkRat n (x.den*y.den):=by
 rw[←Int.natCast_mul,wn]
def HB(a b:Nat)(q:Rat):Prop:=q.num.natAbs<10^a∧q.den<10^b
theorem HB.mono{a b c d:Nat}{q:Rat}(h:HB a b q)(h1:a≤c)(h2:b≤d):HB c d q:=⟨wZ c h.1 h1,wZ d h.2 h2⟩
theorem HB.dz{a b:Nat}{q:Rat}(h:HB a b q):((q.den:Nat):Int).natAbs<10^b:=by rw[eD];exact h.2
theorem HB.hq{a b k:Nat}{q:Rat}(h:HB a b q)(h1:a≤k)(h2:b≤k):HQ k q:=h.mono h1 h2
theorem HB.int{n:Int}{k:Nat}(h:n.natAbs<10^k):HB k 1 (n:Rat):=⟨by rw[Rat.num_intCast];exact h,by rw[Rat.den_intCast];decide⟩
theorem HB.of{q:Rat}{N:Int}{D:Int}{a b:Nat}(h:q*D=N)(h0:D≠0)(h1:N.natAbs<10^a)(h2:D.natAbs<10^b):HB a b q:=by
 have e:q=Ih N D:=by
  rw[Rat.divInt_eq_div,←h,Rat.mul_div_cancel (by exact_mod_cast h0)]
 rw[←Gb]at e;have hd:D.natAbs≠0:=by omega
 obtain⟨l1,l2⟩:=Al (ID N D) D.natAbs hd;rw[←e]at l1 l2;refine⟨jZ l1 ?_,jZ l2 h2⟩;unfold ID;split <;>omega
def Sm(s:List UInt8):Prop:=Iy s=0∧HB 11 6 (cT s)
theorem Sm.eq{s:List UInt8}(h:Sm s):bG (cT s)=s:=vw h.1
theorem Sm.of{q:Rat}(h:HB 11 6 q):Sm (bG q):=by
 refine⟨Du (h.hq (k:=11) (by decide) (by decide)) (by decide),?_⟩;rw[gG];exact h
theorem Sm.cmp{s t:List UInt8}(hs:Sm s)(ht:Sm t):fH s t=(nH (cT s) (cT t),0):=by
 have:=cmpQ_T (hs.2.hq (k:=11) (by decide) (by decide)) (ht.2.hq (k:=11) (by decide) (by decide)) (by decide);rwa[hs.eq,ht.eq]at this
end
section
open Go Go.RowKit Go.Lib
theorem Cz(x y:Int):PQ x y=vr (x-y):=by
 unfold PQ vr;by_cases h:x<y
 ·rw[ip h,ip (by omega)]
 ·by_cases k:x>y
  ·rw[iN h,ip k,iN (by omega),ip (by omega)]
  ·rw[iN h,iN k,iN (by omega),iN (by omega)]
theorem S6(n:Int):G8 (cG n)=some n:=by
 have:=vu (Cs n);rwa[Ae]at this
theorem Ou(n:Int)(w:aF)(hn:n.natAbs<10^17):
 bE aE 201 #[aA (bs (cG n))] w fun e w'=>e=bA (aC aB 0)∧Below w.heap.size w w':=by
 have ht:=zq (fun W=>sB (bs (cG n)) {data:= #[45]} W);rw[show(bs (cG n)).data.toList=cG n from rfl,show({data:= #[45]}:ByteArray).data.toList=[45]from rfl,wI]at ht;have hl:=iD hn (by decide);obtain⟨r,hr⟩:=nm (bs (bZ n.natAbs));have hrl:r.data.toList=bZ n.natAbs:=by rw[←hr];rfl
 have hs:r.size≤17:=by rw[←hr,lD];exact hl
 have hd:=kM n.natAbs;rw[←hrl]at hd;have h0:0<r.size:=by
  have:=gS n.natAbs;rw[←hr,lD];exact List.length_pos_iff.2 this
 have he:(r.toList==[])=false:=by
  rw[dV,hrl];exact beq_false_of_ne (gS _)
 have htrim:=zq (fun W=>vp r {data:= #[48,49,50,51,52,53,54,55,56,57]} W (by omega) rfl);have Iu:((bs (D8 r.data.toList vo)).toList==[])=true:=by
  rw[dV,show(bs (D8 r.data.toList vo)).data.toList=D8 r.data.toList Ak from rfl,(cz _).2 hd];rfl
 generalize bs (D8 r.data.toList vo)=T at *;have es:((bs (cG n)).toList==[48])=decide (n=0):=by rw[xE];exact nZ n
 have hh:n≠0→((r[0].toNat:Int)==48)=false:=by
  intro NK;rw[beq_eq_false_iff_ne];intro e;refine xC n.natAbs (by omega) ?_;rw[←hrl,Ot r h0];exact congrArg some (UInt8.toNat_inj.1 (show r[0].toNat=48 by omega))
 rw[hr]at ht;generalize bs (cG n)=A at *;clear hr hrl hd hl hn;by_cases h:n=0
 ·have e48:((r[0].toNat:Int)==48)=true∨((r[0].toNat:Int)==48)=false:=by cases((r[0].toNat:Int)==48)<;>simp
  rw[decide_eq_true h]at es;clear hh h;rcases e48 with e48|e48;all_goals
   go_enter func201,ntmps201;go_wp2_with fail
   refine kr (ht.out w) ?_;go_wp2_with fail
   refine ka (htrim.out w) fun w' hb1=>?_;go_wp2;go_ret;exact⟨rfl,hb1⟩
 ·have hh:=hh h;clear es h;go_enter func201,ntmps201;go_wp2_with fail
  refine kr (ht.out w) ?_;go_wp2_with fail
  refine ka (htrim.out w) fun w' hb1=>?_;go_wp2;go_ret;exact⟨rfl,hb1⟩
section
variable(x y:Int)(w:aF)(hx:x.natAbs<10^17)(hy:y.natAbs<10^17)
include hx hy
theorem Am:
 bE aE 151 #[aA (bs (cG x)),aA (bs (cG y))] w fun e w'=>e=bA (aC aB 0)∧Below w.heap.size w w':=by
 have H1:=zq (Ou x w hx);have H2:=zq (fun W=>Ou y W hy);generalize bs (cG x)=X at *;generalize bs (cG y)=Y at *;clear hx hy;go_enter func151,ntmps151;go_wp2_with fail
 refine ka H1.out fun w1 hb1=>?_;go_wp2_with fail
 refine kc (H2.out w1) hb1 fun w2 hB=>?_;go_wp2;go_ret;exact⟨rfl,hB⟩
theorem wK:
 bE aE 152 #[aA (bs (cG x)),aA (bs (cG y)),aC aB 18] w fun e w'=>e=bA (cK #[aC aB x,aC aB y,aV true])∧Below w.heap.size w w':=by
 have c1:=zq (fun W=>SQ (bs (cG x)) _ W (Dv hx (by decide)) (S6 x));have c2:=zq (fun W=>SQ (bs (cG y)) _ W (Dv hy (by decide)) (S6 y));have s1:=Dv hx (by decide);have s2:=Dv hy (by decide);generalize bs (cG x)=X at *;generalize bs (cG y)=Y at *;clear hx hy;go_enter func152,ntmps152;go_wp2_with fail
 refine ka (c1.out w) fun w1 hb1=>?_;go_wp2_with fail
 refine kc (c2.out w1) hb1 fun w2 hB=>?_;go_wp2;go_region;go_wp2;go_ret3;exact⟨rfl,eF hB 1⟩
variable(hE:mN w)
include hE
theorem int_Add:
 bE aE 209 #[aA (bs (cG x)),aA (bs (cG y))] w fun e w'=>e=bA (cK #[aA (bs (cG (x+y))),aC aB 0])∧Below w.heap.size w w':=by
 have Hb:=zq (Am x y w hx hy);have Hc:=zq (fun W=>wK x y W hx hy);have HE:=zq hE;clear hE;generalize bs (cG x)=X at *;generalize bs (cG y)=Y at *;have hx': -100000000000000000<x∧x<100000000000000000:=by omega
 have hy': -100000000000000000<y∧y<100000000000000000:=by omega
 clear hx hy;go_enter func209,ntmps209;go_wp2_with fail
 refine ka Hb.out fun w1 hb1=>?_;go_wp2_with fail
 refine kc (Hc.out w1) hb1 fun w2 lM=>?_;clear hb1;go_wp2_with fail
 refine kc (oO _ _ (HE.out.below lM) (by omega) (by omega)) lM fun w3 hB=>?_;go_wp2;go_ret2;exact⟨rfl,hB⟩
theorem int_Sub:
 bE aE 84 #[aA (bs (cG x)),aA (bs (cG y))] w fun e w'=>e=bA (cK #[aA (bs (cG (x-y))),aC aB 0])∧Below w.heap.size w w':=by
 have Hb:=zq (Am x y w hx hy);have Hc:=zq (fun W=>wK x y W hx hy);have HE:=zq hE;clear hE;generalize bs (cG x)=X at *;generalize bs (cG y)=Y at *;have hx': -100000000000000000<x∧x<100000000000000000:=by omega
 have hy': -100000000000000000<y∧y<100000000000000000:=by omega
 clear hx hy;go_enter func84,ntmps84;go_wp2_with fail
 refine ka Hb.out fun w1 hb1=>?_;go_wp2_with fail
 refine kc (Hc.out w1) hb1 fun w2 lM=>?_;clear hb1;go_wp2_with fail
 refine kc (oO _ _ (HE.out.below lM) (by omega) (by omega)) lM fun w3 hB=>?_;go_wp2;go_ret2;exact⟨rfl,hB⟩
theorem Ql(hl:(cG x).length+(cG y).length≤18)(hp:(x*y).natAbs<10^18):
 bE aE 81 #[aA (bs (cG x)),aA (bs (cG y))] w fun e w'=>e=bA (cK #[aA (bs (cG (x*y))),aC aB 0])∧Below w.heap.size w w':=by
 have Hb:=zq (Am x y w hx hy);have Hc:=zq (fun W=>wK x y W hx hy);have HE:=zq hE;clear hE;rw[←lD,←lD]at hl;generalize bs (cG x)=X at *;generalize bs (cG y)=Y at *;have e1:IntKind.i64.wrap ((X.size:Int)+(Y.size:Int))=(X.size:Int)+(Y.size:Int):=bI _ (by omega);have hli:(X.size:Int)+(Y.size:Int)≤18:=by omega
 obtain⟨p,hP⟩:=nm (x*y);have q1:IntKind.i64.wrap (x*y)=p:=by rw[hP];exact bI _ (by omega)
 rw[hP]at hp;rw[hP];clear hP hx hy hl;go_enter func81,ntmps81;go_wp2_with fail
 refine ka Hb.out fun w1 hb1=>?_;go_wp2_with fail
 refine kc (Hc.out w1) hb1 fun w2 lM=>?_;clear hb1;go_wp2_with fail
 refine kc (oO _ _ (HE.out.below lM) (by omega) (by omega)) lM fun w3 hB=>?_;go_wp2;go_ret2;exact⟨rfl,hB⟩
theorem S7:
 bE aE 177 #[aA (bs (cG x)),aA (bs (cG y))] w fun e w'=>e=bA (cK #[aC aB (vr (x-y)),aC aB 0])∧Below w.heap.size w w':=by
 have Hb:=zq (Am x y w hx hy);have Hc:=zq (fun W=>wK x y W hx hy);rw[←Cz];generalize bs (cG x)=X at *;generalize bs (cG y)=Y at *;clear hx hy hE;go_enter func177,ntmps177;go_wp2_with fail
 refine ka Hb.out fun w1 hb1=>?_;go_wp2_with fail
 refine kc (Hc.out w1) hb1 fun w2 lM=>?_;go_wp2_with fail
 refine kr (JC x y w2) ?_;go_wp2;go_ret2;exact⟨rfl,lM⟩
theorem Y7:
 bE aE 136 #[aA (bs (cG x)),aA (bs (cG y))] w fun e w'=>e=bA (cK #[aA (bs (cG ((iA x.natAbs y.natAbs:Nat):Int))),aC aB 0])∧Below w.heap.size w w':=by
 have Hb:=zq (Am x y w hx hy);have Hc:=zq (fun W=>wK x y W hx hy);have HE:=zq hE;clear hE;generalize bs (cG x)=X at *;generalize bs (cG y)=Y at *;go_enter func136,ntmps136;go_wp2_with fail
 refine ka Hb.out fun w1 hb1=>?_;go_wp2_with fail
 refine kc (Hc.out w1) hb1 fun w2 lM=>?_;clear hb1;go_wp2;go_loopw[7,8] (fun a b wr=>∃X Y:Int,a=aC aB X∧b=aC aB Y∧X.natAbs<10^17∧Y.natAbs<10^17∧bK (iA X.natAbs Y.natAbs=iA x.natAbs y.natAbs)∧Below w.heap.size w wr)
  (fun _ b _=>(aK b).natAbs)
 case atStart=>exact⟨x,y,rfl,rfl,hx,hy,rfl,lM⟩
 case round=>
  obtain⟨X,Y,rfl,rfl,hX,hY,hg,hBr⟩:=hrel;clear lM;by_cases hy0:Y=0
  ·subst hy0;have hm:bK (max X (-X)=((iA x.natAbs y.natAbs:Nat):Int)):=by
    show _=_;rw[←hg.out,show(0:Int).natAbs=0 from rfl,ts];omega
   have q1:IntKind.i64.wrap (-X)= -X:=bI _ (by omega);clear hg;go_wp2_with fail
   refine kc (oO _ _ (HE.out.below hBr) (by omega) (by omega)) hBr fun w3 hB=>?_;go_wp2;go_ret2;rw[hm.out];exact⟨rfl,hB⟩
  ·have hlt:(X.tmod Y).natAbs<Y.natAbs:=by rw[Int.natAbs_tmod];exact dB _ (by omega)
   have hgs:bK (iA Y.natAbs (X.tmod Y).natAbs=iA x.natAbs y.natAbs):=by
    show _=_;rw[←hg.out,Int.natAbs_tmod,xT X.natAbs,Nat.gcd_rec Y.natAbs X.natAbs,xT]
   have q1:IntKind.i64.wrap (X.tmod Y)=X.tmod Y:=bI _ (by omega);go_wp2;go_region;go_wp2;go_roundw;case rel=>exact⟨Y,X.tmod Y,rfl,rfl,hY,by omega,hgs.out,eF hBr 1⟩
   case measure=>simp only[aK];omega
theorem LA(hy0:0<y)(hr:y∣x):
 bE aE 137 #[aA (bs (cG x)),aA (bs (cG y))] w fun e w'=>e=bA (cK #[aA (bs (cG (x/y))),aA (bs (cG 0)),aC aB 0])∧Below w.heap.size w w':=by
 have Hb:=zq (Am x y w hx hy);have Hc:=zq (fun W=>wK x y W hx hy);have HE:=zq hE;clear hE;have htz:((bs (cG y)).toList==[48])=false:=by rw[xE,nZ];exact decide_eq_false (by omega)
 generalize bs (cG x)=X at *;generalize bs (cG y)=Y at *;have e1:x.tdiv y=x/y:=Int.tdiv_eq_ediv_of_dvd hr;have e2:x.tmod y=0:=Int.tmod_eq_zero_of_dvd hr;have hq:(x.tdiv y).natAbs<10^17:=by rw[Int.natAbs_tdiv];exact jZ (Nat.div_le_self _ _) hx
 rw[←e1];have q1:IntKind.i64.wrap (x.tdiv y)=x.tdiv y:=bI _ (by omega);have q2:IntKind.i64.wrap (x.tmod y)=x.tmod y:=by rw[e2];exact bI _ (by omega)
 clear hr e1;go_enter func137,ntmps137;go_wp2_with fail
 refine ka Hb.out fun w1 hb1=>?_;go_wp2_with fail
 refine kc (Hc.out w1) hb1 fun w2 lM=>?_;clear hb1;go_wp2;go_region;replace lM:=eF lM 1;change Below w.heap.size w w2.drew at lM;clear q1 q2;generalize hqe:x.tdiv y=q at *;generalize x.tmod y=r at *;have Hq:=zq hqe;subst e2;clear hqe;go_wp2_with fail
 refine kc (oO _ _ (HE.out.below lM) (by omega) (by omega)) lM fun w3 Dw=>?_;go_wp2_with fail
 refine kc (oO _ _ (HE.out.below Dw) (by omega) (by omega)) Dw fun w4 Ov=>?_;go_wp2;go_ret3;exact⟨by first |rfl|(rw[Hq.out];rfl),Ov⟩
end
theorem Y8(x y:Nat)(w:aF)(hx:x≤9223372036854775807)(hy:y≤9223372036854775807):
 bE aE 199 #[iv x,iv y] w fun e w'=>e=bA (iv (iA x y))∧∃n,w'=w.drewN n:=by
 go_enter func199,ntmps199;go_wp2;go_loopw[0,1] (fun a b wr=>∃X Y:Nat,a=aC aB X∧b=aC aB Y∧X≤9223372036854775807∧Y≤9223372036854775807∧bK (iA X Y=iA x y)∧∃n,wr=w.drewN n)
  (fun _ b _=>(aK b).toNat)
 case atStart=>exact⟨x,y,rfl,rfl,hx,hy,rfl,0,rfl⟩
 case round=>
  obtain⟨X,Y,rfl,rfl,hX,hY,hg,nd,rfl⟩:=hrel;by_cases hy0:Y=0
  ·subst hy0;have hm:bK (iA x y=X):=by
    show _=_;rw[←hg.out,ts]
   clear hg;go_wp2;go_ret;exact⟨ret_int (by rw[hm.out]),nd,rfl⟩
  ·have hlt:X%Y<Y:=dB _ (by omega);have hgs:bK (iA Y (X%Y)=iA x y):=by
    show _=_;rw[←hg.out,xT X,Nat.gcd_rec Y X,xT]
   obtain⟨R,hR⟩:∃R,X%Y=R:=⟨_,rfl⟩;have hRb:R≤9223372036854775807:=by omega
   have q3:((X:Int))%(Y:Int)=(R:Int):=by rw[←hR,Int.natCast_emod]
   have q1:((X:Int)).tmod (Y:Int)=(R:Int):=(Int.tmod_eq_emod_of_nonneg (Int.natCast_nonneg _)).trans q3;have q2:IntKind.i64.wrap (R:Int)=(R:Int):=bI _ (by omega);have q0:((Y:Int) !=0)=true:=by rw[bne_iff_ne];omega
   have q4:¬(Y:Int)=0:=by omega
   rw[hR]at hgs hlt;clear hR hg;go_wp2;go_region;go_wp2;go_roundw;case rel=>exact⟨Y,R,rfl,rfl,hY,hRb,hgs.out,nd+1,rfl⟩
   case measure=>simp only[aK,Int.toNat_natCast];exact hlt
theorem NL(s:ByteArray)(k:Nat)(h:k<s.size):num (s.data.toList.take (k+1))=num (s.data.toList.take k)*10+(s[k].toNat-48):=by
 rw[List.take_succ_eq_append_getElem (show k<s.data.toList.length from h),Ln];rfl
theorem Ow{n L:Nat}{r:List UInt8}{s:ByteArray}(e:s.data.toList=bZ n++r)(hl:(bZ n).length=L)(hr:r=[]∨r.head? =some 47):
 s.size=L+r.length∧0<L∧(∀k(h:k<s.size),k<L→48≤s[k].toNat∧s[k].toNat≤57)∧(∀h:L<s.size,s[L].toNat=47)∧(1<L→∀h:0<s.size,s[0].toNat≠48):=by
 have hs:s.size=L+r.length:=by
  have:s.data.toList.length=s.size:=rfl;rw[←this,e,bO,hl]
 have hg:∀k(h:k<s.size),s[k]=(bZ n++r)[k]'(by rw[bO,hl];omega):=by
  intro k h;have:s[k]=s.data.toList[k]'h:=rfl;rw[this];exact List.getElem_of_eq e _
 refine⟨hs,by rw[←hl];exact List.length_pos_iff.2 (gS n),fun k h hk=>?_,fun h=>?_,fun h1 h=>?_⟩
 ·have:=List.all_eq_true.1 (kM n) _ (List.getElem_mem (show k<(bZ n).length by omega));rw[hg k h,RQ (by omega)];simpa[xW]using this
 ·rw[hg L h,List.getElem_append_right (by omega)];rcases hr with rfl|hr
  ·simp at hs;omega
  ·rw[Cb]at hr;obtain⟨q,hq⟩:=List.getElem?_eq_some_iff.1 hr;simp only[hl,A6,hq];rfl
 ·intro h48;have hn:n≠0:=by
   rintro rfl;rw[mW]at hl;simp at hl;omega
  refine xC n hn ?_;rw[Cb,bN (by omega)];have:=hg 0 h;rw[RQ (by omega)]at this;rw[←this];exact congrArg some (UInt8.toNat_inj.1 h48)
theorem Em(n:Nat)(r:List UInt8)(s:ByteArray)(w:aF)(e:s.data.toList=bZ n++r)(hr:r=[]∨r.head? =some 47)(hs:s.size≤1000):
 bE aE 198 #[aA s] w fun e w'=>e=bA (if n<10^8 then cK #[aC aB n,aA (bs r),aV true]else cK #[aC aB 0,aA (bs []),aV false])∧∃n,w'=w.drewN n:=by
 obtain⟨L,hL⟩:=nm (bZ n).length;obtain⟨BX,h0,hd,h47,h48⟩:=Ow e hL hr;have h8:=mT n 8 (by decide);rw[hL]at h8;have hall:(s.data.toList.take L).all xW=true:=by rw[e,←hL,List.take_left];exact kM n
 have hn:num (s.data.toList.take L)=n:=by rw[e,←hL,List.take_left,mK]
 have hlt:∀k,k≤L→k≤9→num (s.data.toList.take k)<10^9:=by
  intro k h1 h2;have:=uo (s.data.toList.take k) (by
   rw[List.all_eq_true]at hall⊢;intro x hx;have e2:s.data.toList.take k=(s.data.toList.take L).take k:=by rw[List.take_take,Nat.min_eq_left h1]
   rw[e2]at hx;exact hall x (List.mem_of_mem_take hx))
  exact dC this (pJ (by decide) (by rw[List.length_take];omega))
 have da:s.extract L s.size=bs r:=ut (by rw[Ii,e,←hL,List.drop_left]);have HL:=zq hlt;have Hd:=zq hd;replace BX:L≤s.size:=by omega
 have H48:=zq h48;clear hL hlt hd h48 hall e hr;generalize hV:(if n<10^8 then cK #[aC aB n,aA (bs r),aV true]else cK #[aC aB 0,aA (bs []),aV false]:aP)=V;have HV:=zq hV;clear hV;go_enter func198,ntmps198;go_wp2;go_loop [5,6] (fun n i=>∃k:Nat,i=aC aB k∧k≤L∧k≤9∧n=aC aB (num (s.data.toList.take k):Nat)) (fun _ i=>s.size-(aK i).toNat);case atStart=>exact⟨0,rfl,bM _,bM _,rfl⟩
 case round=>
  obtain⟨k,rfl,hk,hk9,rfl⟩:=hrel;have hb:=HL.out k hk hk9;by_cases hc:k<L∧k≤8
  ·obtain⟨hlt,h8k⟩:=hc;have hlt2:k<s.size:=by omega
   have S8:=zq (NL s k hlt2);obtain⟨g48,g57⟩:=Hd.out k hlt2 hlt;have g48':48≤(s[k].toNat:Int):=by omega
   have g57':(s[k].toNat:Int)≤57:=by omega
   obtain⟨d,hdv⟩:∃d:Nat,(s[k].toNat:Int)-48=(d:Int):=⟨s[k].toNat-48,by omega⟩;have q1:IntKind.u8.wrap ((s[k].toNat:Int)-48)=(d:Int):=by rw[hdv];exact IntWalk.u8_in _ (by omega)
   have q2:((s[k].toNat:Int)-48)%256=(d:Int):=by rw[hdv];omega
   have hd2:bK (s[k].toNat-48=d):=by show _=_;omega
   have hd9:d≤9:=by omega
   generalize num (s.data.toList.take k)=N at *;have hN:N≤999999999:=by omega
   clear hb hdv g48 g57 h47 da;go_wp2;go_round;case rel=>exact⟨k+1,by go_num,by omega,by omega,by rw[S8.out,hd2.out];congr 1;omega⟩
   case measure=>simp only[aK];omega
  ·by_cases hk8:8<k
   ·have R:¬n<10^8:=fun c=>by have:=h8.2 c;omega
    have R:=zq (HV.out.symm.trans (iN R));have h8':¬(k:Int)≤8:=by omega
    clear HV hc h8 hn h47 da;go_wp2;all_goals(go_ret3;exact⟨by rw[R.out];rfl,0,rfl⟩)
   ·have hkL:k=L:=by omega
    subst hkL;have R:n<10^8:=h8.1 (by omega);have R:=zq (HV.out.symm.trans (ip R));rw[hn];have hp:0<s.size:=by omega
    have b8:decide ((8:Int)<(k:Int))=false:=by simp;omega
    have b0:((k:Int)==0)=false:=by simp;omega
    have e2:1<k→((s[0].toNat:Int)==48)=false:=fun h1=>by rw[beq_eq_false_iff_ne];exact fun e=>H48.out h1 hp (by omega)
    clear HV hc h8 hn hb;by_cases hlen:k<s.size
    ·have g47:=h47 hlen;have g48:¬48≤(s[k].toNat:Int):=by omega
     clear h47 g47;by_cases h1:1<k
     ·have e2:=e2 h1;go_wp2;go_region;go_wp2;go_ret3;exact⟨by rw[R.out,←da];rfl,1,rfl⟩
     ·clear e2;go_wp2;go_region;go_wp2;go_ret3;exact⟨by rw[R.out,←da];rfl,1,rfl⟩
    ·clear h47;by_cases h1:1<k
     ·have e2:=e2 h1;go_wp2;go_region;go_wp2;go_ret3;exact⟨by rw[R.out,←da];rfl,1,rfl⟩
     ·clear e2;go_wp2;go_region;go_wp2;go_ret3;exact⟨by rw[R.out,←da];rfl,1,rfl⟩
def Nv(x:Rat):Prop:=HB 8 8 x
instance(x:Rat):Decidable (Nv x):=inferInstanceAs (Decidable (_∧_))
def IE(d:Nat):List UInt8:=if d=1 then[]else 47::bZ d
theorem An(x:Rat):bG x=cG x.num++IE x.den:=by
 unfold bG IE;split <;>simp
theorem db(d:Nat):IE d=[]∨(IE d).head? =some 47:=by
 unfold IE;split <;>simp
theorem S9{x:Rat}{a b:Nat}(h:HB a b x)(ha:0<a)(hb:0<b):(bG x).length≤a+b+2:=by
 rw[An,bO];have h1:=xF h.1 ha;have h2:=iD h.2 hb;unfold IE;split
 ·simp;omega
 ·rw[bD];omega
theorem wq(x:Rat):∃O:ByteArray,O.data.toList=bZ x.num.natAbs++IE x.den∧0<(bs (bG x)).size∧
 (∀h:0<(bs (bG x)).size,(((bs (bG x))[0].toNat:Int)==45)=decide (x.num<0))∧
 (x.num<0→(bs (bG x)).extract 1 (bs (bG x)).size=O∧(bs (bG x)).size=O.size+1)∧(¬x.num<0→bs (bG x)=O):=by
 refine⟨bs (bZ x.num.natAbs++IE x.den),rfl,?_,?_,?_,?_⟩
 ·rw[lD,An,bO];have:cG x.num≠[]:=fun e=>by have:=Cs x.num;rw[e]at this;revert this;decide
  have:=List.length_pos_iff.2 this;omega
 ·intro h;have h1:=Ot (bs (bG x)) h;rw[fY]at h1;have h2:=wF x.num;have h3:(bG x).head? =(cG x.num).head? :=by
   rw[An];exact qG fun e=>by have:=Cs x.num;rw[e]at this;revert this;decide
  rw[←h3,h1]at h2;rw[pI,beq_iff_eq,decide_eq_true_eq,←h2];constructor
  ·intro e;exact congrArg some (UInt8.toNat_inj.1 (show(bs (bG x))[0].toNat=45 by omega))
  ·intro e;rw[eG e];rfl
 ·intro h;have e:bG x=45::(bZ x.num.natAbs++IE x.den):=by rw[An,xD h];rfl
  rw[e];exact⟨ut (by rw[Ii];rfl),by rw[lD,lD];rfl⟩
 ·intro h;rw[An,kN (by omega)]
theorem nN (x : Rat) (w : aF) (hx : HB 17 17 x) :
    bE aE 148 #[aA (bs (bG x))] w fun e w' => e = bA (if Nv x then cK #[cF #[aC aB x.num, aC aB x.den], aV true] else cK #[cF #[aC aB 0, aC aB 0], aV false]) ∧ Below w.heap.size w w' := by
  obtain ⟨O, hO, hpos, hneg, hm1, hm0⟩ := wq x
  have BX : (bs (bG x)).size ≤ 36 := by rw [lD]; exact S9 hx (by decide) (by decide)
  generalize bs (bG x) = a at *
  replace hneg := hneg hpos
  have hOs : O.size ≤ 36 := by
    by_cases h : x.num < 0
    · have := (hm1 h).2; omega
    · rw [← hm0 h]; exact BX
  have Hn := zq (fun W => Em x.num.natAbs (IE x.den) O W hO (db _) (by omega))
  have M1 : bK (decide (x.num < 0) = true → a.extract 1 a.size = O ∧ a.size = O.size + 1) := fun h => hm1 (of_decide_eq_true h)
  have M0 : bK (decide (x.num < 0) = false → a = O) := fun h => hm0 (of_decide_eq_false h)
  have hnum : bK (x.num = if decide (x.num < 0) = true then -(x.num.natAbs : Int) else (x.num.natAbs : Int)) := by
    show _ = _; simp only [decide_eq_true_eq]; split <;> omega
  have hz : decide (x.num < 0) = true → ((x.num.natAbs : Int) == 0) = false := fun h => by
    have := of_decide_eq_true h; rw [beq_eq_false_iff_ne]; omega
  have he : a.toList.isEmpty = false := by
    rw [dV]; cases k : a.data.toList with
    | nil => have : a.data.toList.length = a.size := rfl
             rw [k] at this; simp at this; omega
    | cons _ _ => rfl
  have hR : ∀ c, decide (x.num < 0) = c → x.num.natAbs < 10 ^ 8 → x.den < 10 ^ 8 → bK ((if Nv x then cK #[cF #[aC aB x.num, aC aB x.den], aV true] else cK #[cF #[aC aB 0, aC aB 0], aV false] : aP) = cK #[cF #[aC aB (if c = true then -(x.num.natAbs : Int) else (x.num.natAbs : Int)), aC aB x.den], aV true]) := by
    intro c hc h1 h2
    show _ = _
    rw [ip (show Nv x from ⟨h1, h2⟩), ← hc, ← hnum.out]
  have hRn : ¬ (x.num.natAbs < 10 ^ 8 ∧ x.den < 10 ^ 8) → bK ((if Nv x then cK #[cF #[aC aB x.num, aC aB x.den], aV true] else cK #[cF #[aC aB 0, aC aB 0], aV false] : aP) = cK #[cF #[aC aB 0, aC aB 0], aV false]) := fun h => by
    show _ = _
    rw [iN (show ¬ Nv x from h)]
  have wt : iA x.num.natAbs x.den = 1 := x.reduced
  have hden0 := x.den_nz
  have hOl : (IE x.den).length ≤ O.size := by
    have : O.data.toList.length = O.size := rfl
    rw [← this, hO, bO]; omega
  generalize x.num.natAbs = n at *
  generalize x.den = d at *
  generalize (if Nv x then cK #[cF #[aC aB x.num, aC aB d], aV true] else cK #[cF #[aC aB 0, aC aB 0], aV false] : aP) = V at *
  clear hO hm1 hm0 hnum hx
  go_enter func148, ntmps148
  go_upto_region 2 with fail
  go_cut [16] (fun v w' => v = aV (decide (x.num < 0)) ∧ w' = w.alloc (aN #[aC aB 0, aC aB 0] 122))
  case first =>
    go_wp2; go_meet
    case rel => exact ⟨rfl, rfl⟩
  obtain ⟨rfl, rfl⟩ := hcut
  go_upto_if 16 with fail
  go_cut [4] (fun o w' => o = aA O ∧ w' = w.alloc (aN #[aC aB 0, aC aB 0] 122))
  case first =>
    cases hm : decide (x.num < 0) with
    | true =>
      have c := (M1.out hm).1
      have h1 : (1 : Int) ≤ (a.size : Int) := by omega
      clear hm
      go_wp2; go_meet
      case rel => exact ⟨rfl, rfl⟩
    | false =>
      have c := zq (M0.out hm)
      clear hm
      go_wp2; go_meet
      case rel => exact ⟨by rw [← c.out], rfl⟩
  case rest =>
    obtain ⟨rfl, rfl⟩ := hcut
    have hlt : decide (O.size < a.size) = decide (x.num < 0) := by
      cases h : decide (x.num < 0) with
      | true => exact decide_eq_true (by have := (M1.out h).2; omega)
      | false => exact decide_eq_false (by rw [← M0.out h]; omega)
    clear M1 M0 hneg
    generalize decide (x.num < 0) = m at *
    have hR := hR m rfl
    by_cases h8 : n < 10 ^ 8
    · rw [ip h8] at Hn
      have hR := hR h8
      by_cases hd1 : d = 1
      · have R := hR (by omega)
        have e1 : IE d = [] := ip hd1
        rw [e1] at Hn
        subst hd1
        have he : (bs []).toList.isEmpty = true := by rw [dV]; rfl
        clear hRn e1 wt hden0 hR hOl
        cases m
        case' false => clear hz
        case' true => replace hz := hz rfl
        all_goals
          go_wp2_with fail
          refine (Hn.out _).mono ?_
          rintro e w1 ⟨rfl, k1, rfl⟩
          go_wp2
        · exact dU (v := cK #[cF #[aC aB (-(n : Int)), aC aB 1], aV true]) (by simp [lF, rN, go_sem]) rfl ⟨by rw [R.out] <;> first | rfl | simp, by repeat (first | exact aL _ _ | refine oF ?_ (by simp) _ | refine rX ?_ (by simp) _ | refine eF ?_ _)⟩
        · exact dU (v := cK #[cF #[aC aB n, aC aB 1], aV true]) (by simp [lF, rN, go_sem]) rfl ⟨by rw [R.out] <;> first | rfl | simp, by repeat (first | exact aL _ _ | refine oF ?_ (by simp) _ | refine rX ?_ (by simp) _ | refine eF ?_ _)⟩
      · have e1 : IE d = 47 :: bZ d := iN hd1
        rw [e1] at Hn hOl
        obtain ⟨RS, hRS⟩ := nm (bs (47 :: bZ d))
        have iC : RS.toList.isEmpty = false := by rw [← hRS, dV]; rfl
        have hsz2 : 0 < RS.size := by rw [← hRS, lD]; simp
        have h1i : (1 : Int) ≤ (RS.size : Int) := by omega
        have h47 : ((RS[0].toNat : Int) != 47) = false := by subst hRS; rfl
        have hex : RS.extract 1 RS.size = bs (bZ d) := by subst hRS; exact ut (by rw [Ii, fY]; rfl)
        rw [hRS] at Hn
        have Ox : (bZ d).length ≤ 36 := by rw [bD] at hOl; omega
        have H2 := zq (fun W => Em d [] (bs (bZ d)) W (by rw [fY, List.append_nil]) (.inl rfl) (by rw [lD]; omega))
        have he : (bs []).toList.isEmpty = true := by rw [dV]; rfl
        clear e1 hRS Ox hOl
        by_cases hd8 : d < 10 ^ 8
        · have R := hR hd8
          rw [ip hd8] at H2
          have Hg := zq (fun W => Y8 n d W (by omega) (by omega))
          rw [wt] at Hg
          unfold iv at Hg
          have d2 : ¬ (d : Int) < 2 := by omega
          clear hR hRn wt hd1
          cases m
          case' false => clear hz
          case' true => replace hz := hz rfl
          all_goals
            go_wp2_with fail
            refine (Hn.out _).mono ?_
            rintro e w1 ⟨rfl, k1, rfl⟩
            go_wp2_with fail
            refine (H2.out _).mono ?_
            rintro e w1 ⟨rfl, k2, rfl⟩
            go_wp2_with fail
            refine (Hg.out _).mono ?_
            rintro e w1 ⟨rfl, k3, rfl⟩
            go_wp2
          · exact dU (v := cK #[cF #[aC aB (-(n : Int)), aC aB d], aV true]) (by simp [lF, rN, go_sem]) rfl ⟨by rw [R.out] <;> first | rfl | simp, by repeat (first | exact aL _ _ | refine oF ?_ (by simp) _ | refine rX ?_ (by simp) _ | refine eF ?_ _)⟩
          · exact dU (v := cK #[cF #[aC aB n, aC aB d], aV true]) (by simp [lF, rN, go_sem]) rfl ⟨by rw [R.out] <;> first | rfl | simp, by repeat (first | exact aL _ _ | refine oF ?_ (by simp) _ | refine rX ?_ (by simp) _ | refine eF ?_ _)⟩
        · have R := hRn fun c => hd8 c.2
          rw [iN hd8] at H2
          clear hR hRn wt hd1
          cases m
          case' false => clear hz
          case' true => replace hz := hz rfl
          all_goals
            go_wp2_with fail
            refine (Hn.out _).mono ?_
            rintro e w1 ⟨rfl, k1, rfl⟩
            go_wp2_with fail
            refine (H2.out _).mono ?_
            rintro e w1 ⟨rfl, k2, rfl⟩
            go_wp2
            exact dU (v := cK #[cF #[aC aB 0, aC aB 0], aV false]) (by simp [lF, rN, go_sem]) rfl ⟨by rw [R.out] <;> first | rfl | simp, by repeat (first | exact aL _ _ | refine oF ?_ (by simp) _ | refine rX ?_ (by simp) _ | refine eF ?_ _)⟩
    · have R := hRn fun c => h8 c.1
      rw [iN h8] at Hn
      clear hR hRn wt hz
      go_wp2_with fail
      refine (Hn.out _).mono ?_
      rintro e w1 ⟨rfl, k1, rfl⟩
      go_wp2
      exact dU (v := cK #[cF #[aC aB 0, aC aB 0], aV false]) (by simp [lF, rN, go_sem]) rfl ⟨by rw [R.out] <;> first | rfl | simp, by repeat (first | exact aL _ _ | refine oF ?_ (by simp) _ | refine rX ?_ (by simp) _ | refine eF ?_ _)⟩
end
end Go.Proofs.YtkchhginppjaiaaGreatDoor
