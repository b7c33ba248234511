import Derived.WalkKit
import Derived.OrdersIn
import Derived.OwnWalkIn
import Derived.RangeFuncCalls
import Derived.Test.YtcimoodjlopdaaaGreatDoorProg
import Derived.WalkSpells
import Derived.WalkLawsBesides
import Derived.RegionTactic
import Derived.ChangeAlike
import Derived.Deep.QuietTactic
import Derived.BigQuiet
import Derived.Lib.Hide
import Derived.Deep.DeepCutAuto
import Derived.Deep.RegionHeld3
import Derived.Sort.CutIn
import Derived.Sort.QuietIn
import Derived.RegionIn
import Derived.Test.YtcimoodjlopdaaaGreatDoorZ0
import Derived.Test.YtcimoodjlopdaaaGreatDoorZ4
import Derived.Test.YtcimoodjlopdaaaGreatDoorZ6
import Derived.Test.YtcimoodjlopdaaaGreatDoorZ7
namespace Go.Proofs.YtcimoodjlopdaaaGreatDoor
set_option maxRecDepth 100000
set_option maxHeartbeats 8000000
set_option linter.all false
open Go.Proofs.Tryz
open _root_.Array renaming replicate->pG
open Go renaming World->aE,Calls->aQ,Value->bB,below_drewN->bH,maxLen->cA,wpAnyIn_done->eK,undef->iZ,KeepsFrom->kC,Oper->A8,Act->EI,wpAnyIn->OJ
open Go.AllReadyIn renaming nil->aR,cons->dV
open Go.ByteArray renaming toList_eq->cI
open Go.Code renaming region->OK
open Go.Ending renaming returned->aO
open Go.Fence renaming wide->dW
open Go.IntKind renaming i64->aG
open Go.IntWalk renaming i64_in->aP
open Go.KeepsFrom renaming refl->T5
open Go.KeepsOthers renaming setCell->cE
open Go.Lib renaming trimS->kR,hasPrefix->Ba
open Go.Obj renaming cells->aL
open Go.Oper renaming semAt_plain->se
open Go.OwnFrom renaming and->tE
open Go.Proofs.Tryz renaming prog->aC,ntmps197->pH,func197->rC,ntmps140->Qv,func140->T6
open Go.RowKit renaming Below->aJ,intOf->aK,Hid->aY
open Go.RowKit.Below renaming refl->aI
open Go.Value renaming string->aA,slice->aB,int->aF,bool->aM,tuple->bO,pointer->cB
open Go.World renaming size_alloc->aS,ownsRow_nil->I5
open Go.World.ownsRow renaming frozenAt->eO
open Int renaming toNat_natCast->gX,natCast_mul->gZ,tdiv_eq_ediv_of_nonneg->jO,tmod_eq_emod_of_nonneg->sT
open List renaming eq_nil_of_length_eq_zero->dD,length_set->fS,eq_of_mem_replicate->nY,map_append->qO,map_singleton->Aw
open Nat renaming le_refl->aD,pow_le_pow_right->bN,lt_of_lt_of_le->bQ,le_trans->cC,mod_lt->fW,mul_le_mul->H7
open Option.some renaming inj->vI
section
open Go Go.RowKit
section
variable{P:Program}
theorem jT{f:FuncId}{fn:Func}{c:Code}{args:Array bB}{w:aE}{R:Ending→aE→Prop}(hf:P.funcs[f]? =some fn)(hb:fn.body=some c)
 (h:c.wp P (bodyPostM dW 9 P fn R) {tmps:=args++pG (fn.ntmps-args.size) iZ,defers:=[]} w):aQ P f args w R:=
 callsIn_wide.1 (callsIn_of_wp_marks (F:=dW) (n:=9) hf hb trivial (wpIn_wide.2 h) rfl)
theorem BH{g:Operand}{ps:Array Tmp}{assign body:Code}{Q:Exit→EI→aE→Prop}{a:EI}{w:aE}
 {gf:Nat}{lb:Array bB}(hg:a.eval g=.func (.func gf) #[] lb)(eg:∀args w,(callFunc gf args).run P w=.ok (.enter gf args) w)
 {nV:Nat→Array bB}{Kp:aE→aE→Prop}{N:Nat}(BF:Vf dW 8 P gf lb nV Kp N w)
 (Kd:∀{A B C:aE},Kp A B→Kp B C→Kp A C)(KD:∀(W:aE)(l:Nat)(o o':Obj),w.heap.size≤l→W.heap[l]? =some o→o.isCells=false→o.isWalk=false→Kp W (W.putObj l o'))(rV:∀k,(nV k).size=ps.size)
 (I:Nat→aE→Prop)(Ix:Code→Nat→aE→Prop)(hI:OwnFrom w.heap.size I)(DP:∀c,OwnFrom w.heap.size (Ix c))(h0:I 0 w)(vE:Nat→EI)
 (kW:∀(l:Nat)(k:Nat)(W:aE)(K:EI→aE→Prop),K (vE k) W→
  assign.wpIn (Fence.wide.inRound l) 7 P (Exit.then K (fun _ _ _=>False)) {tmps:=(ps.zip (nV k)).foldl (fun t(p,v)=>t.setIfInBounds p v) a.tmps,defers:=[]} W)
 (tS:∀(l:Nat)(k:Nat)(W:aE),k<N→I k W→body.wpIn (Fence.wide.inRound l) 7 P (sM w.heap.size Kp I Ix (k+1) W) (vE k) W)
 (pV:∀(D:Nat)(W:aE),w.heap.size≤D→I N W→W.heap[D]? =some (.deferred (some []))→Q .normal {a with defers:={target:=.collected D,args:= #[]}::a.defers} W)
 (tT:∀(D:Nat)(c:Code)(k:Nat)(W:aE),w.heap.size≤D→k≤N→Ix c k W→W.heap[D]? =some (.deferred (some []))→c.wp P Q {a with defers:={target:=.collected D,args:= #[]}::a.defers} W):
 (Code.rangeFunc g ps assign body).wp P Q a w:=
 (wpIn_wide (n:=9)).1 (Gz (F:=dW) rfl (by decide) hg trivial eg BF (aI _ _) Kd KD rV I Ix hI DP h0 vE kW tS pV (fun D c k W h1 h2 h3 h4=>wpIn_wide.2 (tT D c k W h1 h2 h3 h4)))
theorem Calls.round{f:FuncId}{args:Array bB}{w:aE}{R:Ending→aE→Prop}(h:aQ P f args w R)(l n:Nat):CallsIn (Fence.wide.inRound l) n P f args w R:=
 (callsIn_wide.2 h).inRound l
theorem gI{fn:Func}{p u:Tmp}{ty:TypeId}(h:fn.results= #[.cell p ty,.tmp u])(tmps:Array bB)(w:aE)(g:Nat)(v:bB)
 (hp:tmps.getD p iZ=cB (some ⟨g,0,none⟩))(hc:w.cell? ⟨g,0,none⟩=some v)(ha:(isAgg ty).run P w=.ok false w):
 (results fn tmps).run P w=.ok (bO #[v,tmps.getD u iZ]) w:=by
 have xq:tmps[p]?.getD iZ=cB (some ⟨g,0,none⟩):=by simpa using hp
 simp[results,h,go_sem,xq,hc,ha]
def GD(fA:Array A8):Bool:=fA.all fun o=>match o.op with |.defer _=>false|_=>true
theorem LK{fA:Array A8}(h:GD fA=true){i:Nat}{o:A8}(ho:fA[i]? =some o):∀c,o.op≠.defer c:=by
 intro c hc;obtain⟨hi,rfl⟩:=Array.getElem?_eq_some_iff.1 ho;have:=Array.all_eq_true.1 h i hi;rw[hc]at this;cases this
theorem Sq{F:Fence}{n:Nat}{md:Region.Mode}{fA:Array A8}{Q:Exit→EI→aE→Prop}(l:Nat)(hd:GD fA=true):
 ∀(fuel:Nat)(jN:Array Bool)(a:EI)(w:aE),OJ F n P md fA Q fuel jN a w→OJ (F.inRound l) n P md fA Q fuel jN a w:=by
 intro fuel;induction fuel with
 |zero=>exact fun _ _ _ h=>h
 |succ fuel ih=>
  intro jN a w h;refine⟨h.1,fun i hi=>?_⟩;have tj:=h.2 i hi;unfold wpOpIn at tj⊢;cases ho:fA[i]? with
  |none=>rw[ho]at tj;exact ih _ _ _ tj
  |some o=>
   rw[ho]at tj;simp only at tj⊢;split
   ·rename_i hw;rw[ip hw]at tj;have hm:=Oper.wpIn_mono (K':=OJ (F.inRound l) n P md fA Q fuel (jN.setIfInBounds i true)) (fun a w=>ih _ a w) tj;unfold Oper.wpIn at hm⊢;refine⟨hm.1,?_⟩;have h2:=hm.2;rw[se F _ _ (LK hd ho)]at h2;rw[se (F.inRound l) _ _ (LK hd ho)];exact h2
   ·rename_i hw;rw[iN hw]at tj;exact⟨tj.1,ih _ _ _ tj.2⟩
theorem xJ{n:Nat}{id:Nat}{fA:Array A8}{Q:Exit→EI→aE→Prop}{a:EI}{w:aE}{l:Nat}(hm:P.follows .mixedOrders=true)(hd:GD fA=true)
 (h:OJ dW n P .any fA Q fA.size (pG fA.size false) a w.drew):(OK id fA true).wpIn (Fence.wide.inRound l) n P Q a w:=
 wpIn_region_any hm (Sq l hd _ _ _ _ h)
theorem CW{id:Nat}{fA:Array A8}{Q:Exit→EI→aE→Prop}{a:EI}{w:aE}(hm:P.follows .mixedOrders=true)
 (h:OJ dW 9 P .any fA Q fA.size (pG fA.size false) a w.drew):(OK id fA true).wp P Q a w:=
 (wpIn_wide (n:=9)).1 (wpIn_region_any hm h)
end
end
section
open Go Go.RowKit Go.Shelf
section
attribute[local go_sem] Oper.semAt_some
theorem JE(s:ByteArray):Ba s.data.toList [45]=dY s:=by
 rw[xG];have:=rG s;unfold rF at this;by_cases h:s.data.toList.head? =some 45
 ·rw[ip h]at this;by_cases k:dY s=true
  ·simp[h,k]
  ·rw[iN k]at this;cases this
 ·rw[iN h]at this;by_cases k:dY s=true
  ·rw[ip k]at this;cases this
  ·simp[h,k]
theorem oO(s:ByteArray)(w:aE)(hs:s.size≤3000)(hok:wS s.data.toList=true):
 aQ aC 142 #[aA s] w fun e w'=>∃v,e=aO (.agg #[aM (dY s),v])∧mI w' w.heap.size v PB (num (mag s.data.toList))∧aJ w.heap.size w w':=by
 have Ur:=kE hok
 have zW:=gP s.data.toList
 have hcut:=zq (fun W=>Am s {data:= #[45]} W)
 have ht:aY (Lib.trimPrefix s.data.toList [45]=mag s.data.toList):=pZ _
 have hp:aY (Ba s.data.toList [45]=dY s):=JE s
 obtain⟨rest,Sr⟩:∃rest:ByteArray,bs (mag s.data.toList)=rest:=⟨_,rfl⟩
 have hR:rest.size≤3000:=by rw[←Sr,bU];have:s.data.toList.length=s.size:=rfl;omega
 have Hdg:aY (rest.data.toList.all dG=true):=by show _=_;rw[←Sr];exact Ur
 have HN:aY (num (mag s.data.toList)=num rest.data.toList):=by show _=_;rw[←Sr];rfl
 have Hrest:=zq Sr
 clear Ur zW hok Sr
 generalize dY s=ng at *
 have eL:((rest.size:Int)+9-1).tdiv 9=(((rest.size+8)/9:Nat):Int):=by
  rw[show(rest.size:Int)+9-1=((rest.size+8:Nat):Int) by omega]
  exact(Int.natCast_ediv _ _).symm▸jO (by omega)
 obtain⟨L,hL⟩:=nm ((rest.size+8)/9)
 rw[hL]at eL
 have hLb:L≤400:=by omega
 have HL:=zq hL
 refine jT func142 rfl ?_
 simp only[ntmps142,List.size_toArray,List.length_cons,List.length_nil,Nat.reduceAdd,Nat.reduceSub,Array.replicate_succ,Array.replicate_zero,List.push_toArray,List.append_toArray,List.nil_append,List.cons_append]
 go_wp2_with fail
 refine kr (hcut.out _) ?_
 rw[ht.out,hp.out,Hrest.out]
 clear hL
 go_wp2_with (at_make;refine yG rfl _ _ rfl (w.heap.size+1) _ L rfl rfl rfl (by omega) (by simp) ?_;intro w1 eF gH)
 simp only[aS]at eF
 have gG:aJ w.heap.size w w1:=((aI _ w).alloc (aD _) _).grown gH (by simp) (fun k hk=>by cases hk)
 have b0:bZ w1 w.heap.size #[aM false,aB none 0 0] 181:=(bZ.new w _ _).grown gH (by simp)
 have Dx:w.heap.size+1<w1.heap.size:=(dJ eF).2.1
 clear gH
 generalize hg1:w1.heap.size=g1 at *
 have Hg1:=zq hg1
 refine(callsIn_wide.1 (xu dW 9 trivial rfl _ _)).mono ?_
 rintro e w'⟨rfl,rfl⟩
 go_wp2_with fail
 obtain⟨W0,iU⟩:=nm (((w1.alloc (aL #[aM ng,aB (some ⟨w.heap.size+1,0,none⟩) L L] 181)).alloc (aL #[aF aG 1] 3)).alloc (aL #[aA rest] 9))
 have ER:aJ w1.heap.size w1 W0:=by rw[←iU];exact(((aI _ _).alloc (aD _) _).alloc (by simp) _).alloc (by simp;omega) _
 have c0:bZ W0 w.heap.size #[aM false,aB none 0 0] 181:=b0.below ER b0.lt
 have c1:bZ W0 g1 #[aM ng,aB (some ⟨w.heap.size+1,0,none⟩) L L] 181:=by rw[←iU,←hg1];exact((bZ.new w1 _ _).alloc _).alloc _
 have c2:bZ W0 (g1+1) #[aF aG 1] 3:=by
  rw[←iU]
  have:=(bZ.new (w1.alloc (aL #[aM ng,aB (some ⟨w.heap.size+1,0,none⟩) L L] 181)) #[aF aG 1] 3).alloc (aL #[aA rest] 9)
  rwa[aS,hg1]at this
 have c3:bZ W0 (g1+1+1) #[aA rest] 9:=by
  rw[←iU]
  have:=bZ.new ((w1.alloc (aL #[aM ng,aB (some ⟨w.heap.size+1,0,none⟩) L L] 181)).alloc (aL #[aF aG 1] 3)) #[aA rest] 9
  rwa[aS,aS,hg1]at this
 have ho0:=cT eF ER
 have Yt:W0.heap.size=g1+3:=by rw[←iU,←hg1];simp
 have fP:=aH gG ER (by rw[hg1];omega)
 clear ER eF b0 gG hg1
 rw[iU]
 clear iU
 have Pj:rest.data.toList.length=rest.size:=rfl
 refine BH (gf:=252) (lb:= #[cB (some ⟨g1+1+1,0,none⟩)]) rfl (enters_of func252 (by kernel_rfl) rfl)
  (ik dW 8 trivial rfl (by decide) (g1+1+1) rest rest.size rfl (by omega) Hdg.out W0 (c3.cell 0)) dA.trans (dA.putObj (by rintro k rfl;omega)) (fun _=>rfl)
  (fun k W=>(∃(os:List Nat)(u:Nat),(os.length=L∧(∀x∈os,x<PB)∧bS PB os=Iy rest.data.toList k∧(k%9≠0→u=10^(k%9)))∧W.ownsRow (w.heap.size+1) 3 1 (aB (some ⟨w.heap.size+1,0,none⟩) L L) L (os.map iv)∧
   bZ W w.heap.size #[aM false,aB none 0 0] 181∧bZ W g1 #[aM ng,aB (some ⟨w.heap.size+1,0,none⟩) L L] 181∧bZ W (g1+1) #[iv u] 3)∧aJ w.heap.size w W)
  (fun _ _ _=>False)
  (tE (Own.from (fun s A B uJ hs hg hr=>by obtain⟨os,u,h1,h2,h3,h4,h5⟩:=hs;exact⟨os,u,h1,tU h2 hg hr,h3.own hg hr,h4.own hg hr,h5.own hg hr⟩) _) (ownFrom_below (aD _) (by omega)))
  (fun c _ _ _ _ hs _ _=>hs)
  ⟨⟨List.replicate L 0,1,⟨by simp,fun x hx=>by rw[nY hx];decide,by rw[Bn,YG],fun h=>absurd rfl h⟩,ho0,c0,c1,c2⟩,fP⟩
  ?rF ?assign ?body ?done ?stop
 case assign=>
  intro l k W K hK
  gi_wp2
  exact hK
 case body=>
  rintro l k W hk⟨⟨os,u,⟨tk,M7,QJ,hu⟩,hown,hb0,hb5,hb6⟩,hB⟩
  have Q7:k<rest.data.toList.length:=hk
  obtain⟨d,MO⟩:=nm ((rest.data.toList.getD (rest.data.toList.length-1-k) 0).toNat-48)
  have hdx:dX rest k=d:=MO
  have h9d:d≤9:=by
   have:=Bt rest Hdg.out (rest.size-1-k) (by omega)
   rw[Pj,NF rest _ (by omega)]at MO
   omega
  have hkL:k/9<L:=by have:=HL.out;omega
  rw[hdx]
  clear hdx
  by_cases h9:k%9=0
  ·have k6:=hb6.ce 0
   have k7:=hb6.fz 0
   have h9':(k:Int).tmod 9=0:=by rw[sT (by omega)];omega
   gi_upto_region 9 with fail
   obtain⟨V,hV⟩:=nm (W.setCell ⟨g1+1,0,none⟩ (aF aG 1))
   rw[hV]
   obtain⟨v,vU⟩:∃v:Nat,1=v:=⟨_,rfl⟩
   have hv:v=10^(k%9):=by rw[←vU];exact gn h9
   have lE:w.heap.size+1≠g1+1:=by omega
   have xw:bZ V w.heap.size #[aM false,aB none 0 0] 181:=by rw[←hV];exact hb0.other _ (by show w.heap.size≠g1+1;omega)
   have gb5:bZ V g1 #[aM ng,aB (some ⟨w.heap.size+1,0,none⟩) L L] 181:=by rw[←hV];exact hb5.other _ (by show g1≠g1+1;omega)
   have gb6:bZ V (g1+1) #[iv v] 3:=by rw[←hV,←vU];exact hb6.set 0 _
   have Pk:V.ownsRow (w.heap.size+1) 3 1 (aB (some ⟨w.heap.size+1,0,none⟩) L L) L (os.map iv):=by rw[←hV];exact cX hown lE _
   have gB:aJ w.heap.size w V:=by rw[←hV];exact hB.setCell (p:=⟨g1+1,0,none⟩) (by show w.heap.size≤g1+1;omega) _
   have gS:dA (·=g1+1+1) W V:=by rw[←hV];intro q hq;exact heap_setCell_other _ _ _ _ (by subst hq;show g1+1+1≠g1+1;omega)
   have gK:kC W0.heap.size W V:=by rw[←hV];exact(cE _ _ _).from _
   have Hv1:=zq vU
   clear hV vU h9' k6 k7 lE hb0 hb5 hb6 hown hB hu
   have k5:=gb5.ce 1
   have k6:=gb6.ce 0
   have k7:=gb6.fz 0
   obtain⟨X,hX⟩:=nm (os.getD (k/9) 0)
   obtain⟨Ip,J8⟩:=Lv rest.data.toList os k d v Q7 (by omega) QJ Hdg.out hv MO h9d
   rw[hX]at Ip J8
   have k8:=lL Pk (show k/9<L by omega)
   rw[hX]at k8
   have k9:=eO Pk (k/9)
   have Vh:X<1000000000:=by have:=eJ M7 (by decide) (k/9);rw[hX]at this;exact this
   have hv8:v≤100000000:=WX hv
   obtain⟨m,hm⟩:=nm (d*v)
   have hm9:m≤900000000:=by rw[←hm];exact cC (H7 h9d hv8) (by decide)
   have q0:((d:Int)*(v:Int))=(m:Int):=by rw[←gZ,hm]
   have q1:IntKind.i64.wrap ((d:Int)*(v:Int))=(m:Int):=by rw[q0];exact aP _ (by omega)
   obtain⟨j,hj⟩:=nm (k/9)
   have q2:(k:Int).tdiv 9=(j:Int):=by rw[jO (by omega)];omega
   have q5:(k:Int)/9=(j:Int):=by omega
   have q3:(j:Int)<(L:Int):=by omega
   have q6:j<L:=by omega
   rw[hj]at hX J8 k8 k9
   have Hj:=zq hj;clear hj hkL
   rw[hm]at Ip J8
   have hst3:X+m<1000000000:=Ip
   have q7:IntKind.i64.wrap (j:Int)=(j:Int):=aP _ (by omega)
   have q8:(0:Int)≤(j:Int):=by omega
   have q9:IntKind.i64.wrap ((X:Int)+(m:Int))=(X:Int)+(m:Int):=aP _ (by omega)
   have NG:=zq (And.intro Ip J8);clear Ip J8
   have Hv:=zq hv;clear hv
   have Hm:=zq hm;clear hm
   have HX:=zq hX;clear hX
   have Hlv:=zq QJ;clear QJ
   have Hdv:=zq MO;clear MO q0
   have HF:aY (kC W0.heap.size W ((V.setCell ⟨w.heap.size+1,j,none⟩ (aF aG ((X:Int)+(m:Int)))).setCell ⟨g1+1,0,none⟩ (aF aG ((v:Int)*10)))∧
    dA (·=g1+1+1) W ((V.setCell ⟨w.heap.size+1,j,none⟩ (aF aG ((X:Int)+(m:Int)))).setCell ⟨g1+1,0,none⟩ (aF aG ((v:Int)*10)))∧
    (∃(os:List Nat)(u:Nat),(os.length=L∧(∀x∈os,x<PB)∧bS PB os=Iy rest.data.toList (k+1)∧((k+1)%9≠0→u=10^((k+1)%9)))∧((V.setCell ⟨w.heap.size+1,j,none⟩ (aF aG ((X:Int)+(m:Int)))).setCell ⟨g1+1,0,none⟩ (aF aG ((v:Int)*10))).ownsRow (w.heap.size+1) 3 1 (aB (some ⟨w.heap.size+1,0,none⟩) L L) L (os.map iv)∧
     bZ ((V.setCell ⟨w.heap.size+1,j,none⟩ (aF aG ((X:Int)+(m:Int)))).setCell ⟨g1+1,0,none⟩ (aF aG ((v:Int)*10))) w.heap.size #[aM false,aB none 0 0] 181∧bZ ((V.setCell ⟨w.heap.size+1,j,none⟩ (aF aG ((X:Int)+(m:Int)))).setCell ⟨g1+1,0,none⟩ (aF aG ((v:Int)*10))) g1 #[aM ng,aB (some ⟨w.heap.size+1,0,none⟩) L L] 181∧bZ ((V.setCell ⟨w.heap.size+1,j,none⟩ (aF aG ((X:Int)+(m:Int)))).setCell ⟨g1+1,0,none⟩ (aF aG ((v:Int)*10))) (g1+1) #[iv u] 3)∧
    aJ w.heap.size w ((V.setCell ⟨w.heap.size+1,j,none⟩ (aF aG ((X:Int)+(m:Int)))).setCell ⟨g1+1,0,none⟩ (aF aG ((v:Int)*10)))):=by
    refine⟨gK.trans (((cE _ _ _).from _).trans ((cE _ _ _).from _)),gS.trans (dA.trans (dA.setCell (by rintro q rfl;show g1+1+1≠w.heap.size+1;omega) _) (dA.setCell (by rintro q rfl;show g1+1+1≠g1+1;omega) _)),⟨os.set j (X+m),v*10,⟨by rw[fS];exact tk,yC M7 NG.out.1,NG.out.2,fun h=>NM Hv.out h⟩,?_,?_,?_,?_⟩,?_⟩
    ·exact cX (tJ Pk j (X+m)) (by show w.heap.size+1≠g1+1;omega) _
    ·exact(xw.other _ (by show w.heap.size≠w.heap.size+1;omega)).other _ (by show w.heap.size≠g1+1;omega)
    ·exact(gb5.other _ (by show g1≠w.heap.size+1;omega)).other _ (by show g1≠g1+1;omega)
    ·exact(gb6.other _ (by show g1+1≠w.heap.size+1;omega)).set 0 _
    ·exact(gB.setCell (p:=⟨w.heap.size+1,j,none⟩) (by show w.heap.size≤w.heap.size+1;omega) _).setCell (p:=⟨g1+1,0,none⟩) (by show w.heap.size≤g1+1;omega) _
   gi_wp2
   refine xJ (by kernel_rfl) (by kernel_rfl) ?_
   refine tI 0 rfl ?_
   refine tI 2 rfl ?_
   refine tI 3 rfl ?_
   refine tI 6 rfl ?_
   refine eI 1 [7] rfl (fun K hK=>?_) ?_
   ·go_simp
    refine hK _ _ ?_
    clear hK K
    refine tI 4 rfl ?_
    refine eI 5 [7] rfl (fun K hK=>?_) ?_
    ·go_simp
     refine hK _ _ ?_
     clear hK K
     refine eI 7 [] rfl (fun K hK=>?_) ?_
     ·go_simp
      refine hK _ _ ?_
      clear hK K
      refine tI 8 rfl ?_
      refine tI 9 rfl ?_
      refine tI 10 rfl ?_
      refine eI 11 [] rfl (fun K hK=>?_) ?_
      ·go_simp
       refine hK _ _ ?_
       clear hK K
       refine eK (by kernel_rfl) ?_ _
       gi_wp2
       exact⟨⟨HF.out.1.size,HF.out.1.same⟩,HF.out.2.1,HF.out.2.2.1,bH HF.out.2.2.2 1⟩
      exact aR
     exact aR
    refine dV rfl (fun K hK=>?_) ?_
    ·go_simp
     refine hK _ _ ?_
     clear hK K
     refine tI 8 rfl ?_
     refine eI 5 [] rfl (fun K hK=>?_) ?_
     ·go_simp
      refine hK _ _ ?_
      clear hK K
      refine tI 9 rfl ?_
      refine tI 10 rfl ?_
      refine eI 11 [] rfl (fun K hK=>?_) ?_
      ·go_simp
       refine hK _ _ ?_
       clear hK K
       refine eK (by kernel_rfl) ?_ _
       gi_wp2
       exact⟨⟨HF.out.1.size,HF.out.1.same⟩,HF.out.2.1,HF.out.2.2.1,bH HF.out.2.2.2 1⟩
      exact aR
     exact aR
    exact aR
   refine dV rfl (fun K hK=>?_) ?_
   ·go_simp
    refine hK _ _ ?_
    clear hK K
    refine tI 8 rfl ?_
    refine eI 1 [] rfl (fun K hK=>?_) ?_
    ·go_simp
     refine hK _ _ ?_
     clear hK K
     refine tI 4 rfl ?_
     refine eI 5 [] rfl (fun K hK=>?_) ?_
     ·go_simp
      refine hK _ _ ?_
      clear hK K
      refine tI 9 rfl ?_
      refine tI 10 rfl ?_
      refine eI 11 [] rfl (fun K hK=>?_) ?_
      ·go_simp
       refine hK _ _ ?_
       clear hK K
       refine eK (by kernel_rfl) ?_ _
       gi_wp2
       exact⟨⟨HF.out.1.size,HF.out.1.same⟩,HF.out.2.1,HF.out.2.2.1,bH HF.out.2.2.2 1⟩
      exact aR
     exact aR
    exact aR
   exact aR
  ·have hv:=hu h9
   have h9':((k:Int).tmod 9==0)=false:=by rw[sT (by omega)];simp;omega
   gi_upto_region 9 with fail
   obtain⟨V,hV⟩:∃V,V=W:=⟨_,rfl⟩
   obtain⟨v,vU⟩:∃v,v=u:=⟨_,rfl⟩
   have gS:dA (·=g1+1+1) W V:=by rw[hV];exact dA.refl _ _
   have gK:kC W0.heap.size W V:=by rw[hV];exact T5 _ _
   rw[←hV]at hb0 hb5 hb6 hown hB⊢
   rw[←vU]at hv hb6
   have xw:=hb0
   have gb5:=hb5
   have gb6:=hb6
   have Pk:=hown
   have gB:=hB
   have Hv1:=zq vU
   clear hV vU h9' hb0 hb5 hb6 hown hB hu
   have k5:=gb5.ce 1
   have k6:=gb6.ce 0
   have k7:=gb6.fz 0
   obtain⟨X,hX⟩:=nm (os.getD (k/9) 0)
   obtain⟨Ip,J8⟩:=Lv rest.data.toList os k d v Q7 (by omega) QJ Hdg.out hv MO h9d
   rw[hX]at Ip J8
   have k8:=lL Pk (show k/9<L by omega)
   rw[hX]at k8
   have k9:=eO Pk (k/9)
   have Vh:X<1000000000:=by have:=eJ M7 (by decide) (k/9);rw[hX]at this;exact this
   have hv8:v≤100000000:=WX hv
   obtain⟨m,hm⟩:=nm (d*v)
   have hm9:m≤900000000:=by rw[←hm];exact cC (H7 h9d hv8) (by decide)
   have q0:((d:Int)*(v:Int))=(m:Int):=by rw[←gZ,hm]
   have q1:IntKind.i64.wrap ((d:Int)*(v:Int))=(m:Int):=by rw[q0];exact aP _ (by omega)
   obtain⟨j,hj⟩:=nm (k/9)
   have q2:(k:Int).tdiv 9=(j:Int):=by rw[jO (by omega)];omega
   have q5:(k:Int)/9=(j:Int):=by omega
   have q3:(j:Int)<(L:Int):=by omega
   have q6:j<L:=by omega
   rw[hj]at hX J8 k8 k9
   have Hj:=zq hj;clear hj hkL
   rw[hm]at Ip J8
   have hst3:X+m<1000000000:=Ip
   have q7:IntKind.i64.wrap (j:Int)=(j:Int):=aP _ (by omega)
   have q8:(0:Int)≤(j:Int):=by omega
   have q9:IntKind.i64.wrap ((X:Int)+(m:Int))=(X:Int)+(m:Int):=aP _ (by omega)
   have NG:=zq (And.intro Ip J8);clear Ip J8
   have Hv:=zq hv;clear hv
   have Hm:=zq hm;clear hm
   have HX:=zq hX;clear hX
   have Hlv:=zq QJ;clear QJ
   have Hdv:=zq MO;clear MO q0
   have HF:aY (kC W0.heap.size W ((V.setCell ⟨w.heap.size+1,j,none⟩ (aF aG ((X:Int)+(m:Int)))).setCell ⟨g1+1,0,none⟩ (aF aG ((v:Int)*10)))∧
    dA (·=g1+1+1) W ((V.setCell ⟨w.heap.size+1,j,none⟩ (aF aG ((X:Int)+(m:Int)))).setCell ⟨g1+1,0,none⟩ (aF aG ((v:Int)*10)))∧
    (∃(os:List Nat)(u:Nat),(os.length=L∧(∀x∈os,x<PB)∧bS PB os=Iy rest.data.toList (k+1)∧((k+1)%9≠0→u=10^((k+1)%9)))∧((V.setCell ⟨w.heap.size+1,j,none⟩ (aF aG ((X:Int)+(m:Int)))).setCell ⟨g1+1,0,none⟩ (aF aG ((v:Int)*10))).ownsRow (w.heap.size+1) 3 1 (aB (some ⟨w.heap.size+1,0,none⟩) L L) L (os.map iv)∧
     bZ ((V.setCell ⟨w.heap.size+1,j,none⟩ (aF aG ((X:Int)+(m:Int)))).setCell ⟨g1+1,0,none⟩ (aF aG ((v:Int)*10))) w.heap.size #[aM false,aB none 0 0] 181∧bZ ((V.setCell ⟨w.heap.size+1,j,none⟩ (aF aG ((X:Int)+(m:Int)))).setCell ⟨g1+1,0,none⟩ (aF aG ((v:Int)*10))) g1 #[aM ng,aB (some ⟨w.heap.size+1,0,none⟩) L L] 181∧bZ ((V.setCell ⟨w.heap.size+1,j,none⟩ (aF aG ((X:Int)+(m:Int)))).setCell ⟨g1+1,0,none⟩ (aF aG ((v:Int)*10))) (g1+1) #[iv u] 3)∧
    aJ w.heap.size w ((V.setCell ⟨w.heap.size+1,j,none⟩ (aF aG ((X:Int)+(m:Int)))).setCell ⟨g1+1,0,none⟩ (aF aG ((v:Int)*10)))):=by
    refine⟨gK.trans (((cE _ _ _).from _).trans ((cE _ _ _).from _)),gS.trans (dA.trans (dA.setCell (by rintro q rfl;show g1+1+1≠w.heap.size+1;omega) _) (dA.setCell (by rintro q rfl;show g1+1+1≠g1+1;omega) _)),⟨os.set j (X+m),v*10,⟨by rw[fS];exact tk,yC M7 NG.out.1,NG.out.2,fun h=>NM Hv.out h⟩,?_,?_,?_,?_⟩,?_⟩
    ·exact cX (tJ Pk j (X+m)) (by show w.heap.size+1≠g1+1;omega) _
    ·exact(xw.other _ (by show w.heap.size≠w.heap.size+1;omega)).other _ (by show w.heap.size≠g1+1;omega)
    ·exact(gb5.other _ (by show g1≠w.heap.size+1;omega)).other _ (by show g1≠g1+1;omega)
    ·exact(gb6.other _ (by show g1+1≠w.heap.size+1;omega)).set 0 _
    ·exact(gB.setCell (p:=⟨w.heap.size+1,j,none⟩) (by show w.heap.size≤w.heap.size+1;omega) _).setCell (p:=⟨g1+1,0,none⟩) (by show w.heap.size≤g1+1;omega) _
   gi_wp2
   refine xJ (by kernel_rfl) (by kernel_rfl) ?_
   refine tI 0 rfl ?_
   refine tI 2 rfl ?_
   refine tI 3 rfl ?_
   refine tI 6 rfl ?_
   refine eI 1 [7] rfl (fun K hK=>?_) ?_
   ·go_simp
    refine hK _ _ ?_
    clear hK K
    refine tI 4 rfl ?_
    refine eI 5 [7] rfl (fun K hK=>?_) ?_
    ·go_simp
     refine hK _ _ ?_
     clear hK K
     refine eI 7 [] rfl (fun K hK=>?_) ?_
     ·go_simp
      refine hK _ _ ?_
      clear hK K
      refine tI 8 rfl ?_
      refine tI 9 rfl ?_
      refine tI 10 rfl ?_
      refine eI 11 [] rfl (fun K hK=>?_) ?_
      ·go_simp
       refine hK _ _ ?_
       clear hK K
       refine eK (by kernel_rfl) ?_ _
       gi_wp2
       exact⟨⟨HF.out.1.size,HF.out.1.same⟩,HF.out.2.1,HF.out.2.2.1,bH HF.out.2.2.2 1⟩
      exact aR
     exact aR
    refine dV rfl (fun K hK=>?_) ?_
    ·go_simp
     refine hK _ _ ?_
     clear hK K
     refine tI 8 rfl ?_
     refine eI 5 [] rfl (fun K hK=>?_) ?_
     ·go_simp
      refine hK _ _ ?_
      clear hK K
      refine tI 9 rfl ?_
      refine tI 10 rfl ?_
      refine eI 11 [] rfl (fun K hK=>?_) ?_
      ·go_simp
       refine hK _ _ ?_
       clear hK K
       refine eK (by kernel_rfl) ?_ _
       gi_wp2
       exact⟨⟨HF.out.1.size,HF.out.1.same⟩,HF.out.2.1,HF.out.2.2.1,bH HF.out.2.2.2 1⟩
      exact aR
     exact aR
    exact aR
   refine dV rfl (fun K hK=>?_) ?_
   ·go_simp
    refine hK _ _ ?_
    clear hK K
    refine tI 8 rfl ?_
    refine eI 1 [] rfl (fun K hK=>?_) ?_
    ·go_simp
     refine hK _ _ ?_
     clear hK K
     refine tI 4 rfl ?_
     refine eI 5 [] rfl (fun K hK=>?_) ?_
     ·go_simp
      refine hK _ _ ?_
      clear hK K
      refine tI 9 rfl ?_
      refine tI 10 rfl ?_
      refine eI 11 [] rfl (fun K hK=>?_) ?_
      ·go_simp
       refine hK _ _ ?_
       clear hK K
       refine eK (by kernel_rfl) ?_ _
       gi_wp2
       exact⟨⟨HF.out.1.size,HF.out.1.same⟩,HF.out.2.1,HF.out.2.2.1,bH HF.out.2.2.2 1⟩
      exact aR
     exact aR
    exact aR
   exact aR
 case done=>
  rintro D W hD⟨⟨os,u,⟨tk,M7,QJ,-⟩,hown,hb0,hb5,hb6⟩,hB⟩hK
  have hlv':aY (bS PB os=num (mag s.data.toList)):=by show _=_;rw[HN.out,QJ];exact gm _
  have Hos:=zq M7;clear M7
  have Hol:=zq tk;clear tk QJ
  have htr:=zq (jF cR hown Hol.out Hos.out hlv'.out)
  have xD:=zq (Rd.own hown)
  have hk5:=hb5.ce 1
  have hk5f:=hb5.fz 1
  go_wp2_with fail
  refine kr (vS (some ⟨w.heap.size+1,0,none⟩) L L os W Hol.out (aD _) (by simp only[cA];omega) xD.out) ?_
  generalize hT:(jS os).length=T at *
  have HT:=zq hT;clear hT
  go_upto_region 12 with fail
  obtain⟨V,hV⟩:=nm (W.setCell ⟨g1,1,none⟩ (aB (some ⟨w.heap.size+1,0,none⟩) T L))
  rw[hV]
  have xw:bZ V w.heap.size #[aM false,aB none 0 0] 181:=by rw[←hV];exact hb0.other _ (by show w.heap.size≠g1;omega)
  have gb5:bZ V g1 #[aM ng,aB (some ⟨w.heap.size+1,0,none⟩) T L] 181:=by rw[←hV];exact hb5.set 1 _
  have Pk:mI V (w.heap.size+1) (aB (some ⟨w.heap.size+1,0,none⟩) T L) PB (num (mag s.data.toList)):=by
   rw[←hV]
   obtain⟨g,n,cap,e,h⟩:=htr.out
   injection e with e1 e2 e3
   injection e1 with e1;injection e1 with e1
   subst e1 e2 e3
   exact⟨_,_,_,rfl,cX h (by show w.heap.size+1≠g1;omega) _⟩
  have gK:V.heap[D]? =some (.deferred (some [])):=by rw[←hV];exact(cE W _ _).same D _ hK rfl
  have gB:aJ w.heap.size w V:=by rw[←hV];exact hB.setCell (p:=⟨g1,1,none⟩) (by show w.heap.size≤g1;omega) _
  clear hV htr xD hk5 hk5f hb0 hb5 hb6 hB hK hown
  have f1:=gb5.ce 0;have f2:=gb5.ce 1;have f3:=xw.ce 0;have f4:=xw.ce 1;have f5:=xw.fz 0;have f6:=xw.fz 1
  go_wp2
  obtain⟨U,hU⟩:=nm ((V.setCell ⟨w.heap.size,0,none⟩ (aM ng)).setCell ⟨w.heap.size,1,none⟩ (aB (some ⟨w.heap.size+1,0,none⟩) T L))
  rw[hU]
  have uK:U.heap[D]? =some (.deferred (some [])):=by rw[←hU];exact(cE _ _ _).same D _ ((cE V _ _).same D _ gK rfl) rfl
  have ub:bZ U w.heap.size #[aM ng,aB (some ⟨w.heap.size+1,0,none⟩) T L] 181:=by rw[←hU];exact(xw.set 0 _).set 1 _
  have uB:aJ w.heap.size w U:=by rw[←hU];exact(gB.setCell (p:=⟨w.heap.size,0,none⟩) (aD _) _).setCell (p:=⟨w.heap.size,1,none⟩) (aD _) _
  have uo:mI U (w.heap.size+1) (aB (some ⟨w.heap.size+1,0,none⟩) T L) PB (num (mag s.data.toList)):=by
   rw[←hU];exact(Pk.set_other (a:=⟨w.heap.size,0,none⟩) (by show w.heap.size<_;omega) _).set_other (a:=⟨w.heap.size,1,none⟩) (by show w.heap.size<_;omega) _
  refine⟨by simp,.inl ⟨_,_,rfl,run_takeDeferred uK,?_⟩⟩
  refine⟨_,results_cell_row Tryz.results142 _ _ w.heap.size 181 _ _ _ rfl (ub.putObj _ uK rfl) underlying181 rfl (by kernel_rfl),_,rfl,?_,?_⟩
  ·exact(uo.mono (by omega)).putObj _ uK rfl
  ·exact uB.trans (belowK_b (w:=w) (aD _) U D _ _ (by omega) uK rfl rfl)
 case stop=>
  intro D c k W _ _ h _
  exact h.elim
end
end
section
open Go Go.RowKit
abbrev Pm(s:ByteArray)(w:aE):Prop:=
 aQ aC 197 #[aA s] w (Rt (aF aG (jE s.data.toList)) w)
theorem xx(s r:ByteArray)(w:aE)(h:bs (mag s.data.toList)=r):
 aQ aC 100 #[aA s,aA {data:= #[45]}] w fun e w'=>e=aO (aA r)∧w=w':=by
 refine(pX s {data:= #[45]} w).mono ?_;rintro e w'⟨rfl,rfl⟩;refine⟨?_,rfl⟩;rw[←h,←pZ]
theorem ID(s:ByteArray)(w:aE)(hs:s.size≤cA):Pm s w:=by
 unfold Pm;have hB:=aI w.heap.size w;obtain⟨r,hr⟩:∃r:ByteArray,bs (mag s.data.toList)=r:=⟨_,rfl⟩;have Pj:r.data.toList=mag s.data.toList:=by rw[←hr];rfl
 have ht:=zq (fun W=>xx s r W hr);have U4:r.size≤cA:=by
  have h1:r.size=(mag s.data.toList).length:=by rw[←hr,bU]
  rw[gP]at h1;have:s.data.toList.length=s.size:=rfl;omega
 clear hr;by_cases h0:r.size=0
 ·have hc:=zq (YI (l:=s.data.toList) (by rw[←Pj];exact dD h0));have he:(r.toList==[])=true:=by rw[cI,dD (show r.data.toList.length=0 from h0)];rfl
  clear Pj h0;go_enter rC,pH;go_wp2_with fail
  refine kr (ht.out w) ?_;go_wp2;go_ret;exact⟨nJ hc.out.symm,hB⟩
 ·have hpos:0<r.size:=by omega
  have he:(r.toList==[])=false:=by
   rw[cI];exact beq_false_of_ne fun e=>h0 (by show r.data.toList.length=0;rw[e];rfl)
  have hh:(mag s.data.toList).head? =some r[0]:=by
   rw[←Pj,List.head?_eq_getElem?,List.getElem?_eq_getElem (show 0<r.data.toList.length from hpos)];rfl
  have Vi:mag s.data.toList≠[]:=by intro e;rw[e]at hh;cases hh
  have LL:=zq (fun W=>fk r {data:= #[48,49,50,51,52,53,54,55,56,57]} W (by unfold cA at U4;omega) rfl);by_cases h48:r[0].toNat=48
  ·have e48:((r[0].toNat:Int)==48)=true:=by simp[h48]
   by_cases hs48:s.data.toList=[48]
   ·have es:(s.toList==[48])=true:=by rw[cI,hs48];rfl
    have Al:(mag s.data.toList).head?≠some 48∨s.data.toList=[48]:=.inr hs48;by_cases hall:(mag s.data.toList).all dG=true
    ·have KY:((bs (kR r.data.toList F7)).toList==[])=true:=by
      rw[cI,show(bs (kR r.data.toList F7)).data.toList=kR r.data.toList tP from rfl,(DM _).2 (by rw[Pj];exact hall)];rfl
     have hc:=zq (Si Vi Al hall);have zW:aY ((mag s.data.toList).length=r.size):=by show _=_;rw[←Pj];rfl
     generalize bs (kR r.data.toList F7)=T at *;unfold cA at U4;clear Pj Vi hh hall Al;by_cases hlong:300<r.size
     ·clear h48 hs48;go_enter rC,pH;go_wp2_with fail
      refine kr (ht.out w) ?_;go_wp2_with fail
      refine ka (LL.out w) fun w' hb1=>?_;go_wp2;go_ret;exact⟨nJ (by rw[hc.out,zW.out,ip hlong]),hb1⟩
     ·clear h48 hs48;go_enter rC,pH;go_wp2_with fail
      refine kr (ht.out w) ?_;go_wp2_with fail
      refine ka (LL.out w) fun w' hb1=>?_;go_wp2;go_ret;exact⟨nJ (by rw[hc.out,zW.out,iN hlong]),hb1⟩
    ·have KY:((bs (kR r.data.toList F7)).toList==[])=false:=by
      rw[cI,show(bs (kR r.data.toList F7)).data.toList=kR r.data.toList tP from rfl];exact beq_false_of_ne fun e=>hall (by rw[←Pj];exact(DM _).1 e)
     have hc:=zq (WZ (l:=s.data.toList) (by simpa using hall));generalize bs (kR r.data.toList F7)=T at *;clear Pj Vi hh hall Al;clear h48 hs48;go_enter rC,pH;go_wp2_with fail
     refine kr (ht.out w) ?_;go_wp2_with fail
     refine ka (LL.out w) fun w' hb1=>?_;go_wp2;go_ret;exact⟨nJ hc.out.symm,hb1⟩
   ·have es:(s.toList==[48])=false:=by rw[cI];exact beq_false_of_ne hs48
    have hc:=zq (gt (l:=s.data.toList) (by rw[hh];exact congrArg some (UInt8.toNat_inj.1 h48)) hs48);clear Pj Vi hh h48 hs48 LL;go_enter rC,pH;go_wp2_with fail
    refine kr (ht.out w) ?_;go_wp2;go_ret;exact⟨nJ hc.out.symm,hB⟩
  ·have e48:((r[0].toNat:Int)==48)=false:=by simp;omega
   have Al:(mag s.data.toList).head?≠some 48∨s.data.toList=[48]:=.inl (by rw[hh];intro e;exact h48 (by rw[vI e];rfl));by_cases hall:(mag s.data.toList).all dG=true
   ·have KY:((bs (kR r.data.toList F7)).toList==[])=true:=by
     rw[cI,show(bs (kR r.data.toList F7)).data.toList=kR r.data.toList tP from rfl,(DM _).2 (by rw[Pj];exact hall)];rfl
    have hc:=zq (Si Vi Al hall);have zW:aY ((mag s.data.toList).length=r.size):=by show _=_;rw[←Pj];rfl
    generalize bs (kR r.data.toList F7)=T at *;unfold cA at U4;clear Pj Vi hh hall Al;by_cases hlong:300<r.size
    ·clear h48;go_enter rC,pH;go_wp2_with fail
     refine kr (ht.out w) ?_;go_wp2_with fail
     refine ka (LL.out w) fun w' hb1=>?_;go_wp2;go_ret;exact⟨nJ (by rw[hc.out,zW.out,ip hlong]),hb1⟩
    ·clear h48;go_enter rC,pH;go_wp2_with fail
     refine kr (ht.out w) ?_;go_wp2_with fail
     refine ka (LL.out w) fun w' hb1=>?_;go_wp2;go_ret;exact⟨nJ (by rw[hc.out,zW.out,iN hlong]),hb1⟩
   ·have KY:((bs (kR r.data.toList F7)).toList==[])=false:=by
     rw[cI,show(bs (kR r.data.toList F7)).data.toList=kR r.data.toList tP from rfl];exact beq_false_of_ne fun e=>hall (by rw[←Pj];exact(DM _).1 e)
    have hc:=zq (WZ (l:=s.data.toList) (by simpa using hall));generalize bs (kR r.data.toList F7)=T at *;clear Pj Vi hh hall Al;clear h48;go_enter rC,pH;go_wp2_with fail
    refine kr (ht.out w) ?_;go_wp2_with fail
    refine ka (LL.out w) fun w' hb1=>?_;go_wp2;go_ret;exact⟨nJ hc.out.symm,hb1⟩
theorem tV(s t:ByteArray)(w:aE)(hs:s.size≤cA)(ht:t.size≤cA):
 aQ aC 139 #[aA s,aA t] w (Rt (aF aG (dK s.data.toList t.data.toList)) w):=by
 by_cases h:jE s.data.toList=0
 ·have hb:aY (dK s.data.toList t.data.toList=jE t.data.toList):=by show _=_;rw[dK,ip h]
  go_enter func139,ntmps139;go_wp2_with fail
  refine ka (ID s w hs) fun w1 hb1=>?_;rw[h];clear h;go_wp2_with fail
  refine ka (ID t w1 ht) fun w2 hb2=>?_;have hB:=aH hb1 hb2 hb1.size;go_wp2;go_ret;exact⟨nJ hb.out.symm,hB⟩
 ·have hb:aY (dK s.data.toList t.data.toList=jE s.data.toList):=by show _=_;rw[dK,iN h]
  have h':(jE s.data.toList !=0)=true:=by simp[h]
  have hc:=zq (ID s w hs);unfold Pm at hc;have BK:aY (jE s.data.toList=dK s.data.toList t.data.toList):=hb.out.symm;generalize jE s.data.toList=c at *;clear h;go_enter func139,ntmps139;go_wp2_with fail
  refine ka hc.out fun w1 hb1=>?_;go_wp2;go_ret;exact⟨nJ BK.out,hb1⟩
theorem xS(s t:ByteArray)(w:aE)(h1:wS s.data.toList=true)(h2:wS t.data.toList=true)(hs:s.size≤18)(ht:t.size≤18):
 aQ aC 140 #[aA s,aA t,aF aG 18] w (Rt (bO #[aF aG (dI s.data.toList),aF aG (dI t.data.toList),aM true]) w):=by
 have c1:=zq (fun W=>RH s _ W hs (Sj h1));have c2:=zq (fun W=>RH t _ W ht (Sj h2));clear h1 h2;go_enter T6,Qv;go_wp2_with fail
 refine ka (c1.out w) fun w1 hb1=>?_;go_wp2_with fail
 refine ka (c2.out w1) fun w2 hb2=>?_;have hB:=aH hb1 hb2 hb1.size;go_wp2;go_region;go_wp2;go_ret3;exact⟨rfl,bH hB 1⟩
theorem qC(s t:ByteArray)(w:aE)(hs:s.size≤cA)(ht:t.size≤cA)(h:18<s.size∨18<t.size):
 aQ aC 140 #[aA s,aA t,aF aG 18] w (Rt (bO #[aF aG 0,aF aG 0,aM false]) w):=by
 have hB:=aI w.heap.size w;unfold cA at hs ht;by_cases h1:18<s.size
 ·clear h;go_enter T6,Qv;go_wp2;go_ret3;exact⟨rfl,hB⟩
 ·have h2:18<t.size:=by omega
  clear h;go_enter T6,Qv;go_wp2;go_ret3;exact⟨rfl,hB⟩
theorem Vj(a1 a2:Option Addr)(c1 c2 n1 n2:Nat)(xs ys:List Nat)(w:aE)(hn1:xs.length=n1)(hn2:ys.length=n2)(hx:n1≤1000)(hy:n2≤1000)(h1:Rd w a1 xs)(h2:Rd w a2 ys)
 (hxl:∀x∈xs,x<PB)(Ct:∀y∈ys,y<PB):
 aQ aC 144 #[aB a1 n1 c1,aB a2 n2 c2] w fun e w'=>∃v,e=aO v∧mI w' w.heap.size v PB (bS PB xs*bS PB ys)∧aJ w.heap.size w w':=by
 have pI:=zq hn1;clear hn1;have qE:=zq hn2;clear hn2;have J5:=zq hxl;clear hxl;have Rh:=zq Ct;clear Ct;have H1:=zq h1;clear h1;have H2:=zq h2;clear h2;go_enter func144,ntmps144;go_wp2_with (at_make;refine yG rfl _ _ rfl w.heap.size _ (n1+n2+1) rfl rfl (by omega) (by omega) (aD _) ?_;intro w1 eF gH)
 have gG:aJ w.heap.size w w1:=(aI _ _).grown gH (aD _) (by simp);generalize Jr:w.heap.size=g at *;have UP:=zq Jr;clear Jr;clear gH;have Rj:aY (∃os:List Nat,w1.ownsRow g 3 1 (aB (some ⟨g,0,none⟩) (n1+n2+1) (n1+n2+1)) (n1+n2+1) (os.map iv)∧(∀x∈os,x<PB)∧bS PB os=bS PB (xs.take 0)*bS PB ys):=
  ⟨_,eF,by intro x hx;rw[nY hx];decide,by rw[Bn];simp[bS]⟩
 clear eF;go_loopw[20] (fun i wr=>∃k:Nat,i=aF aG k∧k≤n1∧aJ g w wr∧aY (∃os:List Nat,wr.ownsRow g 3 1 (aB (some ⟨g,0,none⟩) (n1+n2+1) (n1+n2+1)) (n1+n2+1) (os.map iv)∧(∀x∈os,x<PB)∧bS PB os=bS PB (xs.take k)*bS PB ys))
  (fun i _=>2000-(aK i).toNat)
 case atStart=>exact⟨0,rfl,Nat.zero_le _,gG,Rj⟩
 clear gG Rj;case round=>
  obtain⟨i,rfl,hi,hB,hO⟩:=hrel;obtain⟨wo,rfl⟩:∃wo:aE,wo=wr:=⟨_,rfl⟩;by_cases hlt:i<n1
  ·obtain⟨b0,f0,rfl,hc0⟩:=(H1.out.below (UP.out.symm▸hB)) i (by rw[pI.out];omega);have hX:xs.getD i 0≤999999999:=by have:=eJ J5.out (by decide) i;unfold PB at this;omega
   generalize Dv:xs.getD i 0=X at *;have FE:=zq Dv;clear Dv;have Bq:aY (∃os:List Nat,wo.ownsRow g 3 1 (aB (some ⟨g,0,none⟩) (n1+n2+1) (n1+n2+1)) (n1+n2+1) (os.map iv)∧(∀x∈os,x<PB)∧bS PB os+0*PB^(i+0)=bS PB (xs.take i)*bS PB ys+xs.getD i 0*bS PB (ys.take 0)*PB^i):=by
    obtain⟨os,o1,o2,o3⟩:=hO.out;exact⟨os,o1,o2,by rw[o3];simp[bS]⟩
   clear hO;go_wp2;go_loopw[8,28] (fun c i' wr=>∃(k cc:Nat),i'=aF aG k∧c=aF aG cc∧cc≤999999999∧k≤n2+1∧(k=n2+1→cc=0)∧aJ g w wr∧
    aY (∃os:List Nat,wr.ownsRow g 3 1 (aB (some ⟨g,0,none⟩) (n1+n2+1) (n1+n2+1)) (n1+n2+1) (os.map iv)∧(∀x∈os,x<PB)∧bS PB os+cc*PB^(i+k)=bS PB (xs.take i)*bS PB ys+xs.getD i 0*bS PB (ys.take k)*PB^i))
    (fun _ i' _=>2000-(aK i').toNat)
   case atStart=>exact⟨0,0,rfl,rfl,by omega,by omega,fun _=>rfl,hB,Bq⟩
   clear Bq;case round=>
    obtain⟨k,cc,rfl,rfl,hcc,hk,hk0,ss,hO⟩:=hrel;have Hk0:=zq hk0;clear hk0;by_cases hgo:k<n2+1
    ·have Rm:k≤n2:=by omega
     have YS:(k:Int)<(n2:Int)+1:=by omega
     obtain⟨os,o1,o2,o3⟩:=hO.out;clear hO;have hO0:os.getD (i+k) 0≤999999999:=by have:=eJ o2 (by decide) (i+k);unfold PB at this;omega
     have hY:ys.getD k 0≤999999999:=by have:=eJ Rh.out (by decide) k;unfold PB at this;omega
     have hco:=lL o1 (show i+k<n1+n2+1 by omega);have tG:=fun nq=>yE a2 c2 n2 k ys (wr.drewN nq) qE.out ((H2.out.below (UP.out.symm▸ss)).below (bH (aI _ _) nq)) (by omega);simp only[gX]at tG;have Ep:=zq tG;clear tG;have hgb:g≤g:=aD g;have hfz:=eO o1 (i+k);generalize In:os.getD (i+k) 0=O at *;have Rn:=zq In;clear In;generalize Eo:ys.getD k 0=Y at *;have Jp:=zq Eo;clear Eo;have hp:=Kz X Y (H7 hX hY);obtain⟨hp1,Up⟩:=hp;have J6:=zq o1;clear o1;have Rq:=zq o2;clear o2;have Ho3:=zq o3;clear o3;have e1:IntKind.i64.wrap ((i:Int)+k)=(i:Int)+k:=by(first |exact aP _ (by omega))
     have e2:(0:Int)≤(i:Int)+k:=by omega
     have e3:((i:Int)+k).toNat=i+k:=by omega
     have e4:IntKind.i64.wrap ((X:Int)*Y)=(X:Int)*Y:=by(first |exact aP _ (by omega))
     have e5:IntKind.i64.wrap ((O:Int)+(X:Int)*Y)=(O:Int)+(X:Int)*Y:=by(first |exact aP _ (by omega))
     have e6:IntKind.i64.wrap ((O:Int)+(X:Int)*Y+cc)=(O:Int)+(X:Int)*Y+cc:=by(first |exact aP _ (by omega))
     go_wp2;go_quiet ((go_at_call 204;exact Calls.quiet_of_same ((Ep.out _).mono fun e w'⟨h1,h2⟩=>⟨h1,h2.symm⟩)))
     clear e1 e2 e3 e4 e5 e6;have EQ:(0:Int)≤(O:Int)+(X:Int)*Y+cc:=by omega
     have Rr:(O:Int)+(X:Int)*Y+cc≤999999999999999999:=by omega
     generalize hS:(O:Int)+(X:Int)*Y+cc=S at *;have hSn:S=((O+X*Y+cc:Nat):Int):=by rw[←hS];simp
     have HS:=zq hSn;clear hSn hS;have f1':IntKind.i64.wrap ((i:Int)+k)=(i:Int)+k:=by(first |exact aP _ (by omega))
     clear hp1 Up;go_wp2;go_roundw;case rel=>
      have ev:aF aG (S%1000000000)=iv ((O+X*Y+cc)%PB):=by unfold iv;rw[HS.out];unfold PB;congr 1
      have ed:(S/1000000000)=(((O+X*Y+cc)/PB:Nat):Int):=by rw[HS.out];unfold PB;omega
      have pU:=EP PB os ys i k cc X (O+X*Y+cc) _ (by rw[iE J6.out];omega) (by rw[←FE.out];exact Ho3.out) (by rw[Rn.out,Jp.out]);have hdl:(O+X*Y+cc)/PB≤999999999:=by rw[HS.out]at Rr;unfold PB;omega
      refine⟨k+1,(O+X*Y+cc)/PB,by go_num,by rw[ed],hdl,by omega,?_,?_,os.set (i+k) ((O+X*Y+cc)%PB),?_,yC Rq.out (fW _ (by decide)),?_⟩
      ·intro UN;exact Jq (by decide) _ xs ys i n2 (k+1) _ J5.out Rh.out qE.out (by rw[FE.out];exact pU) (by omega)
      ·exact(bH ss _).setCell (p:=⟨g,i+k,none⟩) hgb _
      ·rw[ev];exact tJ J6.out (i+k) _
      ·rw[FE.out];exact pU
     case measure=>simp only[aK];omega
    ·have hge:¬(k:Int)<(n2:Int)+1:=by omega
     obtain rfl:cc=0:=Hk0.out (by omega);have pV:aY (∃os:List Nat,wr.ownsRow g 3 1 (aB (some ⟨g,0,none⟩) (n1+n2+1) (n1+n2+1)) (n1+n2+1) (os.map iv)∧(∀x∈os,x<PB)∧bS PB os=bS PB (xs.take (i+1))*bS PB ys):=by
      obtain⟨os,o1,o2,o3⟩:=hO.out;exact⟨os,o1,o2,K8 PB os xs ys i n2 k qE.out (by omega) o3⟩
     clear hO;go_wp2;go_roundw;case rel=>exact⟨i+1,by go_num,by omega,ss,pV⟩
     case measure=>simp only[aK];omega
  ·obtain rfl:n1=i:=by omega
   obtain⟨os,o1,o2,o3⟩:=hO.out;clear hO;rw[fQ PB xs _ (by rw[pI.out];omega)]at o3;have Js:=iE o1;have xD:=Rd.own o1;have pD:=zq (jF cR o1 Js o2 o3);have Yo:=zq Js;clear Js;clear o1 o2 o3;go_wp2_with fail
   refine(vS (some ⟨g,0,none⟩) (n1+n2+1) (n1+n2+1) os wo Yo.out (aD _) (by simp only[cA];omega) xD).mono ?_;rintro e w'⟨rfl,rfl⟩;clear xD;go_wp2;go_ret;rw[UP.out];exact⟨_,rfl,pD.out,hB⟩
theorem IE(v1 v2:bB)(M N:Nat)(w:aE)(h1:nR w v1 PB M)(h2:nR w v2 PB N)(hM:(bM PB M).length≤1000)(hN:(bM PB N).length≤1000):
 aQ aC 144 #[v1,v2] w fun e w'=>∃v,e=aO v∧mI w' w.heap.size v PB (M*N)∧aJ w.heap.size w w':=by
 obtain⟨a1,n1,c1,rfl,q1,_,_,_,q5⟩:=h1;obtain⟨a2,n2,c2,rfl,p1,_,_,_,p5⟩:=h2;have:=Vj a1 a2 c1 c2 n1 n2 _ _ w q1 p1 (by omega) (by omega) q5 p5 (eA cR M) (eA cR N);rwa[cY cR,cY cR]at this
theorem il(X Y c:Nat)(w:aE)(hX:X≤999999999)(hY:Y≤999999999)(hc:c≤1):
 aQ aC 207 #[iv X,iv Y,iv c] w fun e w'=>e=aO (bO #[iv ((X+Y+c)%PB),iv ((X+Y+c)/PB)])∧w=w':=by
 have h0:(0:Int)≤(X:Int)+Y+c:=by omega
 go_enter func207,ntmps207;go_wp2;go_ret2;refine⟨?_,rfl⟩;have e1:((X:Int)+Y+c)%1000000000=(((X+Y+c)%PB:Nat):Int):=by unfold PB;omega
 have e2:((X:Int)+Y+c)/1000000000=(((X+Y+c)/PB:Nat):Int):=by unfold PB;omega
 show aO (bO #[aF aG (((X:Int)+Y+c)%1000000000),aF aG (((X:Int)+Y+c)/1000000000)])=_;rw[e1,e2]
theorem YT(X Y c:Nat)(w:aE)(hX:X≤999999999)(hY:Y≤999999999)(hc:c≤1):
 aQ aC 208 #[iv X,iv Y,iv c] w fun e w'=>e=aO (bO #[iv (if Y+c≤X then X-Y-c else X+PB-Y-c),iv (if Y+c≤X then 0 else 1)])∧w=w':=by
 by_cases h:Y+c≤X
 ·rw[ip h,ip h];have h0:(0:Int)≤(X:Int)-Y-c:=by omega
  go_enter func208,ntmps208;go_wp2;go_ret2;refine⟨?_,rfl⟩;have e1:(X:Int)-Y-c=((X-Y-c:Nat):Int):=by omega
  show aO (bO #[aF aG ((X:Int)-Y-c),aF aG 0])=_;rw[e1];rfl
 ·rw[iN h,iN h];have h0:¬(0:Int)≤(X:Int)-Y-c:=by omega
  go_enter func208,ntmps208;go_wp2;go_ret2;refine⟨?_,rfl⟩;have e1:(X:Int)-Y-c+1000000000=((X+PB-Y-c:Nat):Int):=by unfold PB;omega
  show aO (bO #[aF aG ((X:Int)-Y-c+1000000000),aF aG 1])=_;rw[e1];rfl
theorem GE(a1 a2:Option Addr)(c1 c2 n1 n2 m:Nat)(xs ys:List Nat)(w:aE)(hn1:xs.length=n1)(hn2:ys.length=n2)(hx:n1≤1000)(hy:n2≤1000)(hm:max n1 n2=m)(h1:Rd w a1 xs)(h2:Rd w a2 ys)
 (hxl:∀x∈xs,x<PB)(Ct:∀y∈ys,y<PB)(Inv:List Nat→Nat→Nat→Prop)(hI0:Inv [] 0 0)
 (pU:∀os k c X Y,k≤m→c≤1→Inv os k c→xs.getD k 0=X→ys.getD k 0=Y→X≤999999999→Y≤999999999→Inv (os++[(X+Y+c)%PB]) (k+1) ((X+Y+c)/PB)∧(X+Y+c)/PB≤1):
 aQ aC 206 #[aB a1 n1 c1,aB a2 n2 c2,.func (.func 207) #[] #[]] w fun e w'=>∃(g cap c:Nat)(os:List Nat),e=aO (aB (some ⟨g,0,none⟩) (jS os).length cap)∧
  w'.ownsRow w.heap.size 3 1 (aB (some ⟨g,0,none⟩) (m+1) cap) (m+1) (os.map iv)∧Inv os (m+1) c∧aJ w.heap.size w w':=by
 have pI:=zq hn1;clear hn1;have qE:=zq hn2;clear hn2;have J5:=zq hxl;clear hxl;have Rh:=zq Ct;clear Ct;have H1:=zq h1;clear h1;have H2:=zq h2;clear h2;have HI0:=zq hI0;clear hI0;have NG:=zq pU;clear pU;have hmb:m≤1000:=by omega
 have hmi:max (n1:Int) (n2:Int)=(m:Int):=by omega
 clear hm;go_enter func206,ntmps206;go_wp2;go_loopw[7,8,18] (fun v c i wr=>∃(k cc:Nat)(os:List Nat),i=aF aG k∧c=aF aG cc∧cc≤1∧k≤m+1∧
  wr.ownsRow w.heap.size 3 1 v k (os.map iv)∧aJ w.heap.size w wr∧aY (Inv os k cc))
  (fun _ _ i _=>2000-(aK i).toNat)
 case atStart=>
  refine⟨0,0,[],rfl,rfl,by omega,by omega,I5 _ _ _ _,aI _ _,HI0.out⟩
 case round=>
  obtain⟨k,cc,os,rfl,rfl,hcc,hk,hown,hB,hH⟩:=hrel;by_cases hgo:k<m+1
  ·have YS:(k:Int)<(m:Int)+1:=by omega
   go_wp2_with fail
   refine(yE a1 c1 n1 k xs wr pI.out (H1.out.below hB) (by omega)).mono ?_;rintro e w'⟨rfl,rfl⟩;rw[gX];have hX:xs.getD k 0≤999999999:=by have:=eJ J5.out (by decide) k;unfold PB at this;omega
   generalize Dv:xs.getD k 0=X at *;have FE:=zq Dv;clear Dv;go_wp2_with fail
   refine(yE a2 c2 n2 k ys wr qE.out (H2.out.below hB) (by omega)).mono ?_;rintro e w'⟨rfl,rfl⟩;rw[gX];have hY:ys.getD k 0≤999999999:=by have:=eJ Rh.out (by decide) k;unfold PB at this;omega
   generalize Eo:ys.getD k 0=Y at *;have Jp:=zq Eo;clear Eo;go_wp2_with fail
   refine(il X Y cc wr hX hY hcc).mono ?_;rintro e w'⟨rfl,rfl⟩;obtain⟨hi,hc'⟩:=NG.out os k cc X Y (by omega) hcc hH.out FE.out Jp.out hX hY;have Hi:=zq hi;clear hi;generalize(X+Y+cc)%PB=Dg at *;generalize(X+Y+cc)/PB=Cg at *;have uN:=hB.size;go_wp2_with (at_builtin;refine Bp rfl _ _ rfl w.heap.size _ _ _ rfl hown _ rfl rfl (by omega) uN ?_;intro g1 wU w1 eF hg1 gH)
   have gG:aJ w.heap.size w w1:=dB hB gH hown (aD _) uN;clear hown gH hg1 hB;go_wp2;go_roundw;case rel=>
    refine⟨k+1,Cg,os++[Dg],by go_num,rfl,hc',by omega,?_,gG,Hi.out⟩;rw[qO,Aw];exact eF
   case measure=>simp only[aK];omega
  ·obtain rfl:k=m+1:=by omega
   have YS:¬((m+1:Nat):Int)<(m:Int)+1:=by omega
   obtain⟨g,cap,rfl⟩:=Du hown;have Il:=dJ hown;have hQ:aY (os.length=m+1):=by show _=_;have:=hown.1;simpa using this
   have xD:=zq (Rd.own hown);have mV:=zq hown;clear hown;go_wp2_with fail
   refine(vS (some ⟨g,0,none⟩) cap (m+1) os wr hQ.out (by omega) Il.2.2.2 xD.out).mono ?_;rintro e w'⟨rfl,rfl⟩;clear xD;go_wp2;go_ret;exact⟨g,cap,cc,os,rfl,mV.out,hH.out,hB⟩
theorem Fc(a1 a2:Option Addr)(c1 c2 n1 n2 m:Nat)(xs ys:List Nat)(w:aE)(hn1:xs.length=n1)(hn2:ys.length=n2)(hx:n1≤1000)(hy:n2≤1000)(hm:max n1 n2=m)(h1:Rd w a1 xs)(h2:Rd w a2 ys)
 (hxl:∀x∈xs,x<PB)(Ct:∀y∈ys,y<PB)(Inv:List Nat→Nat→Nat→Prop)(hI0:Inv [] 0 0)
 (pU:∀os k c X Y,k≤m→c≤1→Inv os k c→xs.getD k 0=X→ys.getD k 0=Y→X≤999999999→Y≤999999999→Inv (os++[(if Y+c≤X then X-Y-c else X+PB-Y-c)]) (k+1) ((if Y+c≤X then 0 else 1))∧(if Y+c≤X then 0 else 1)≤1):
 aQ aC 206 #[aB a1 n1 c1,aB a2 n2 c2,.func (.func 208) #[] #[]] w fun e w'=>∃(g cap c:Nat)(os:List Nat),e=aO (aB (some ⟨g,0,none⟩) (jS os).length cap)∧
  w'.ownsRow w.heap.size 3 1 (aB (some ⟨g,0,none⟩) (m+1) cap) (m+1) (os.map iv)∧Inv os (m+1) c∧aJ w.heap.size w w':=by
 have pI:=zq hn1;clear hn1;have qE:=zq hn2;clear hn2;have J5:=zq hxl;clear hxl;have Rh:=zq Ct;clear Ct;have H1:=zq h1;clear h1;have H2:=zq h2;clear h2;have HI0:=zq hI0;clear hI0;have NG:=zq pU;clear pU;have hmb:m≤1000:=by omega
 have hmi:max (n1:Int) (n2:Int)=(m:Int):=by omega
 clear hm;go_enter func206,ntmps206;go_wp2;go_loopw[7,8,18] (fun v c i wr=>∃(k cc:Nat)(os:List Nat),i=aF aG k∧c=aF aG cc∧cc≤1∧k≤m+1∧
  wr.ownsRow w.heap.size 3 1 v k (os.map iv)∧aJ w.heap.size w wr∧aY (Inv os k cc))
  (fun _ _ i _=>2000-(aK i).toNat)
 case atStart=>
  refine⟨0,0,[],rfl,rfl,by omega,by omega,I5 _ _ _ _,aI _ _,HI0.out⟩
 case round=>
  obtain⟨k,cc,os,rfl,rfl,hcc,hk,hown,hB,hH⟩:=hrel;by_cases hgo:k<m+1
  ·have YS:(k:Int)<(m:Int)+1:=by omega
   go_wp2_with fail
   refine(yE a1 c1 n1 k xs wr pI.out (H1.out.below hB) (by omega)).mono ?_;rintro e w'⟨rfl,rfl⟩;rw[gX];have hX:xs.getD k 0≤999999999:=by have:=eJ J5.out (by decide) k;unfold PB at this;omega
   generalize Dv:xs.getD k 0=X at *;have FE:=zq Dv;clear Dv;go_wp2_with fail
   refine(yE a2 c2 n2 k ys wr qE.out (H2.out.below hB) (by omega)).mono ?_;rintro e w'⟨rfl,rfl⟩;rw[gX];have hY:ys.getD k 0≤999999999:=by have:=eJ Rh.out (by decide) k;unfold PB at this;omega
   generalize Eo:ys.getD k 0=Y at *;have Jp:=zq Eo;clear Eo;go_wp2_with fail
   refine(YT X Y cc wr hX hY hcc).mono ?_;rintro e w'⟨rfl,rfl⟩;obtain⟨hi,hc'⟩:=NG.out os k cc X Y (by omega) hcc hH.out FE.out Jp.out hX hY;have Hi:=zq hi;clear hi;generalize(if Y+cc≤X then X-Y-cc else X+PB-Y-cc)=Dg at *;generalize(if Y+cc≤X then 0 else 1)=Cg at *;have uN:=hB.size;go_wp2_with (at_builtin;refine Bp rfl _ _ rfl w.heap.size _ _ _ rfl hown _ rfl rfl (by omega) uN ?_;intro g1 wU w1 eF hg1 gH)
   have gG:aJ w.heap.size w w1:=dB hB gH hown (aD _) uN;clear hown gH hg1 hB;go_wp2;go_roundw;case rel=>
    refine⟨k+1,Cg,os++[Dg],by go_num,rfl,hc',by omega,?_,gG,Hi.out⟩;rw[qO,Aw];exact eF
   case measure=>simp only[aK];omega
  ·obtain rfl:k=m+1:=by omega
   have YS:¬((m+1:Nat):Int)<(m:Int)+1:=by omega
   obtain⟨g,cap,rfl⟩:=Du hown;have Il:=dJ hown;have hQ:aY (os.length=m+1):=by show _=_;have:=hown.1;simpa using this
   have xD:=zq (Rd.own hown);have mV:=zq hown;clear hown;go_wp2_with fail
   refine(vS (some ⟨g,0,none⟩) cap (m+1) os wr hQ.out (by omega) Il.2.2.2 xD.out).mono ?_;rintro e w'⟨rfl,rfl⟩;clear xD;go_wp2;go_ret;exact⟨g,cap,cc,os,rfl,mV.out,hH.out,hB⟩
theorem AV(v1 v2:bB)(M N:Nat)(w:aE)(h1:nR w v1 PB M)(h2:nR w v2 PB N)(hM:(bM PB M).length≤1000)(hN:(bM PB N).length≤1000):
 aQ aC 206 #[v1,v2,.func (.func 207) #[] #[]] w fun e w'=>∃v,e=aO v∧mI w' w.heap.size v PB (M+N)∧aJ w.heap.size w w':=by
 obtain⟨a1,n1,c1,rfl,q1,_,_,_,q5⟩:=h1
 obtain⟨a2,n2,c2,rfl,p1,_,_,_,p5⟩:=h2
 have hc:=GE a1 a2 c1 c2 n1 n2 (max n1 n2) (bM PB M) (bM PB N) w q1 p1 (by omega) (by omega) rfl q5 p5 (eA cR M) (eA cR N)
  (fun os k cc=>os.length=k∧(∀x∈os,x<PB)∧bS PB os+cc*PB^k=bS PB ((bM PB M).take k)+bS PB ((bM PB N).take k)) ⟨rfl,by simp,by simp[bS]⟩
  (fun os k c X Y hk hc hI hX hY Vh hY9=>by
   obtain⟨i1,i2,i3⟩:=hI
   refine⟨⟨by simp[i1],oA i2 (fW _ (by decide)),Nz PB os _ _ k c (X+Y+c) i1 i3 (by rw[hX,hY])⟩,?_⟩
   unfold PB;omega)
 refine hc.mono ?_
 rintro e w'⟨g,cap,c,os,rfl,hown,⟨i1,i2,i3⟩,hB⟩
 rw[fQ _ _ _ (by omega),fQ _ _ _ (by omega),cY cR,cY cR]at i3
 have hlt1:M<PB^(max n1 n2):=bQ (cS cR M) (bN (by decide) (by omega))
 have hlt2:N<PB^(max n1 n2):=bQ (cS cR N) (bN (by decide) (by omega))
 have hc0:c=0:=by
  rcases Nat.eq_zero_or_pos c with h|h
  ·exact h
  ·have h3:1*PB^(max n1 n2+1)≤c*PB^(max n1 n2+1):=Nat.mul_le_mul_right _ h
   rw[Nat.one_mul]at h3
   have h4:PB^(max n1 n2)*2≤PB^(max n1 n2+1):=by rw[Nat.pow_succ];exact Nat.mul_le_mul_left _ cR
   omega
 rw[hc0,Nat.zero_mul,Nat.add_zero]at i3
 exact⟨_,rfl,jF cR hown i1 i2 i3,hB⟩
theorem tW(v1 v2:bB)(M N:Nat)(w:aE)(h1:nR w v1 PB M)(h2:nR w v2 PB N)(hM:(bM PB M).length≤1000)(hN:N≤M):
 aQ aC 206 #[v1,v2,.func (.func 208) #[] #[]] w fun e w'=>∃v,e=aO v∧mI w' w.heap.size v PB (M-N)∧aJ w.heap.size w w':=by
 have hl:=eP cR hN
 obtain⟨a1,n1,c1,rfl,q1,_,_,_,q5⟩:=h1
 obtain⟨a2,n2,c2,rfl,p1,_,_,_,p5⟩:=h2
 have hc:=Fc a1 a2 c1 c2 n1 n2 (max n1 n2) (bM PB M) (bM PB N) w q1 p1 (by omega) (by omega) rfl q5 p5 (eA cR M) (eA cR N)
  (fun os k cc=>os.length=k∧(∀x∈os,x<PB)∧bS PB os+bS PB ((bM PB N).take k)=bS PB ((bM PB M).take k)+cc*PB^k) ⟨rfl,by simp,by simp[bS]⟩
  (fun os k c X Y hk hc hI hX hY Vh hY9=>by
   obtain⟨i1,i2,i3⟩:=hI
   by_cases h:Y+c≤X
   ·rw[ip h,ip h]
    exact⟨⟨by simp[i1],oA i2 (by unfold PB;omega),Bo PB os _ _ k c _ 0 i1 i3 (by rw[hX,hY];omega)⟩,by omega⟩
   ·rw[iN h,iN h]
    exact⟨⟨by simp[i1],oA i2 (by unfold PB;omega),Bo PB os _ _ k c _ 1 i1 i3 (by rw[hX,hY];unfold PB;omega)⟩,by omega⟩)
 refine hc.mono ?_
 rintro e w'⟨g,cap,c,os,rfl,hown,⟨i1,i2,i3⟩,hB⟩
 rw[fQ _ _ _ (by omega),fQ _ _ _ (by omega),cY cR,cY cR]at i3
 have hv:bS PB os=M-N:=NB (by decide) os M N c (max n1 n2+1) i2 i1 hN i3
 exact⟨_,rfl,jF cR hown i1 i2 hv,hB⟩
end
end Go.Proofs.YtcimoodjlopdaaaGreatDoor
