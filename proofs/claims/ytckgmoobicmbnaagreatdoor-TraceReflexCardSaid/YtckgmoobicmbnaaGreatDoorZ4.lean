import Derived.Test.YtckgmoobicmbnaaGreatDoorProg
import Derived.WalkKit
import Derived.WalkSpells
import Derived.WalkLawsBesides
import Derived.RegionTactic
import Derived.ChangeAlike
import Derived.Deep.QuietTactic
import Derived.BigQuiet
import Derived.Lib.Hide
import Derived.Deep.DeepCutAuto
import Derived.Deep.RegionHeld3
import Derived.Sort.CutIn
import Derived.Sort.QuietIn
import Derived.RegionIn
import Derived.Deep.RegionWith
import Derived.RangeFuncBox
import Derived.RangeFuncNested
import Derived.RangeFuncBound
import Derived.RangeFuncCalls
import Derived.RangeFuncLeaves
import Derived.RangeFuncFrom
import Derived.Shelf.Abstract
import Derived.Shelf.RegionOpen
import Derived.OwnWalkIn
import Derived.TacticsInMore
import Derived.LoopNIn
import Derived.LoopIn
import Derived.Shelf.Strings.BuilderK
import Derived.Test.YtckgmoobicmbnaaGreatDoorZ0
import Derived.Test.YtckgmoobicmbnaaGreatDoorZ1
import Derived.Test.YtckgmoobicmbnaaGreatDoorZ2
import Derived.Test.YtckgmoobicmbnaaGreatDoorZ3
namespace Go.Proofs.YtckgmoobicmbnaaGreatDoor
set_option maxRecDepth 100000
set_option maxHeartbeats 8000000
set_option linter.all false
open Go.Proofs.Tryz
open _root_.Array renaming replicate_succ->bR,replicate_zero->bS
open _root_.Go renaming World->aF,Value->aS,Calls->aW,below_drewN->cK,Addr->cT,maxLen->dL,Program->dP,TypeId->eC,wpAnyIn_done->eM,run_takeDeferred->fH,KeepsFrom->gP,results_tmp->iB,heap_setCell_other->nY,ownFrom_below->oA,OwnFrom->rK,Code->vK,belowK_b->D3,run_endLoop->Ki
open Go.AllReadyIn renaming nil->aT,cons->eF
open Go.Code renaming rangeFunc->qX
open Go.Ending renaming returned->aQ
open Go.Fence renaming wide->dG
open Go.IntKind renaming i64->aE
open Go.IntWalk renaming i64_in->aX
open Go.KeepsFrom renaming refl->zp
open Go.KeepsOthers renaming setCell->cG
open Go.Lib renaming itoa->cM,decDigits->dN,byteCells->Bi,BuilderAtF->Ev,compareInt->H7,byteCells_length->Ze,byteCells_append->Zf
open Go.Obj renaming cells->aJ,isCells->zk
open Go.Oper renaming semAt_some->dW
open Go.OwnFrom renaming and->cU
open Go.Proofs renaming enters_of->nH
open Go.Proofs.Builder renaming Extra->lz
open Go.Proofs.Tryz renaming prog->aC,underlying5->nN,zeroValue5->oK,isAgg194->oO,sizeOf5->uR,isAgg5->wO,func313->Dd,results225->MN,results285->MP,ntmps225->QQ,ntmps323->QR,ntmps327->QU,ntmps265->QV,ntmps215->QW,ntmps149->QZ,func225->UN,func323->UO,func327->UP,func265->UQ,func215->UR,func149->US
open Go.RowKit renaming intOf->aK,Hid->bH
open Go.RowKit.Below renaming refl->aH,trans->lJ
open Go.Shelf renaming Ren->iK
open Go.Value renaming string->aA,slice->aB,int->aD,bool->aN,pointer->bA,tuple->cC,agg->cN
open Go.World renaming size_alloc->bB,block_lt_of_cell?->bG,putObj_heap_other->cH,cell?_of_block->iI,putObj_heap_same->iZ,size_setCell->jN,alloc_heap_new->kE
open Go.World.ownsRow renaming frozenAt->fN
open _root_.Int renaming tdiv_eq_ediv_of_nonneg->jB
open _root_.List renaming getElem?_cons_zero->aI,getElem?_toArray->aL,length_cons->bF,getElem?_cons_succ->bM,append_toArray->bU,replicate->bV,size_toArray->bW,length_nil->bY,cons_append->bZ,push_toArray->cD,nil_append->cL,length_append->cP,eq_nil_of_length_eq_zero->fW,append_nil->pP,length_replicate->vC,append_assoc->B7
open _root_.Nat renaming le_refl->aG,le_trans->bE,zero_le->bN,reduceAdd->cW,reduceSub->cX,gcd->dR,zero_add->dZ,mod_eq_of_lt->fE,eq_zero_or_pos->fF,lt_of_le_of_lt->fO,mod_lt->fU,le_of_lt->fZ,add_zero->oE,div_eq_of_lt->sF,gcd_comm->sI,sub_zero->Cm,pow_one->MO,sub_self->Vp
open _root_.Trans renaming trans->cB
section
open Go Go.RowKit Go.Shelf
section
attribute[local go_sem] dW
theorem tY.nil(w:aF)(B:Nat):tY w (aB none 0 0) B 0:=
 ⟨none,0,0,rfl,by rw[eY];rfl,aG _,bN _,fun _=>rfl,by rw[eY];exact Rd.nil _ _⟩
theorem BU.neg{v:Int}{M N:Nat}(h:BU v M N)(hl:M<N):v<0:=h.1.2 hl
theorem BU.ge{v:Int}{M N:Nat}(h:BU v M N)(hl:¬M<N):¬v<0:=fun e=>hl (h.1.1 e)
theorem JT(v1 v2:aS)(M N:Nat)(w:aF)(h1:tY w v1 PB M)(h2:tY w v2 PB N)(hM:(cQ PB M).length≤1000)(hN:(cQ PB N).length≤1000)(hlt:M<N):
 aW aC 225 #[v1,v2] w fun e w'=>∃v u,e=aQ (cC #[v,u])∧tY w' v PB (M/N)∧tY w' u PB (M%N)∧Below w.heap.size w w':=by
 have hc:=fun W hb=>vF v1 v2 M N W (h1.below (w':=W) hb) (h2.below hb) hM hN;have Hc:=zq hc;clear hc;have H1:=zq h1;clear h1 h2;have Hl:=zq hlt;clear hlt hM hN;have Z0:=zq (bT.new w #[aB none 0 0] 194);refine dE UN rfl ?_;simp only[QQ,bW,bF,bY,cW,cX,bR,bS,cD,bU,cL,bZ];go_wp2_with fail
 refine(Hc.out _ ((aH _ _).alloc (aG _) _)).mono ?_;rintro e w1⟨⟨v,rfl,hv⟩,hb1⟩;have hvl:=hv.neg Hl.out;have zq1:bT w1 w.heap.size #[aB none 0 0] 194:=Z0.out.below hb1 (by simp);have k1:=zq1.cell 0;have k2:=zq1.fz 0;simp only[aL,aI]at k1;have HB:bH (Below w.heap.size w w1):=((aH _ _).alloc (aG _) _).trans (hb1.mono (by simp));have Hzq:=zq zq1;clear hb1 hv Z0 zq1;go_wp2;refine⟨_,gA MN _ _ w.heap.size (aB none 0 0) rfl ((Hzq.out.set 0 (aB none 0 0)).cell 0) (oO _),_,_,rfl,?_,?_,?_⟩
 ·rw[sF Hl.out];exact tY.nil _ _
 ·rw[fE Hl.out];have h1:=H1.out.below HB.out;have gJ:=Below.setCell (p:=⟨w.heap.size,0,none⟩) (aH w.heap.size w1) (aG _) (aB none 0 0);exact H1.out.below (HB.out.trans gJ)
 ·exact HB.out.setCell (p:=⟨w.heap.size,0,none⟩) (aG _) _
theorem Bq{N:Nat}(h:(cQ PB N).length=1):cQ PB N=[N]∧0<N∧N<PB:=by
 have jC:N≠0:=by rintro rfl;rw[eY]at h;simp at h
 have hlt:=eG dB N;rw[h,MO]at hlt;refine⟨?_,by omega,hlt⟩;rw[mX dB jC,fE hlt,sF hlt,eY]
theorem Ls(v1 v2:aS)(M N:Nat)(w:aF)(h1:tY w v1 PB M)(h2:tY w v2 PB N)(hM:(cQ PB M).length≤1000)(hN:(cQ PB N).length=1)(hlt:¬M<N):
 aW aC 225 #[v1,v2] w fun e w'=>∃v u,e=aQ (cC #[v,u])∧tY w' v PB (M/N)∧tY w' u PB (M%N)∧Below w.heap.size w w':=by
 have hc:=fun W hb=>vF v1 v2 M N W (h1.below (w':=W) hb) (h2.below hb) hM (by omega);have Hc:=zq hc;clear hc;have hs:=fun(W:aF)(hb:Below w.heap.size w W)=>Oc v1 M N W (h1.below hb) hM (Bq hN).2.1 (Bq hN).2.2;have Hs:=zq hs;clear hs;obtain⟨a2,n2,c2,rfl,q1,q2,q3,q4,q5⟩:=h2;rw[hN]at q1;obtain rfl:n2=1:=q1.symm;rw[(Bq hN).1]at q5;obtain⟨b2,o2,rfl,rP⟩:=q5 0 (by simp);simp only[oE,List.getD_cons_zero]at rP;have hlt2:=bG w _ rP;have pr:=zq rP;have Hl:=zq hlt;clear hlt hM hN h1 rP q2 q3 q4;have Z0:=zq (bT.new w #[aB none 0 0] 194);refine dE UN rfl ?_;simp only[QQ,bW,bF,bY,cW,cX,bR,bS,cD,bU,cL,bZ];go_wp2_with fail
 refine(Hc.out _ ((aH _ _).alloc (aG _) _)).mono ?_;rintro e w1⟨⟨v,rfl,hv⟩,hb1⟩;have hvl:=hv.ge Hl.out;have zq1:bT w1 w.heap.size #[aB none 0 0] 194:=Z0.out.below hb1 (by simp);have mM:Below w.heap.size w w1:=((aH _ _).alloc (aG _) _).trans (hb1.mono (by simp));have rP:w1.cell? ⟨b2,o2,none⟩=some (iv N):=(mM.cell (p:=⟨b2,o2,none⟩) hlt2).trans pr.out;have Hzq:=zq zq1;have HB:=zq mM;clear hb1 hv Z0 zq1 mM;go_wp2_with fail
 refine(Hs.out _ HB.out).mono ?_;rintro e w2⟨x,y,rfl,ox,oy,hb2⟩;have zq2:bT w2 w.heap.size #[aB none 0 0] 194:=Hzq.out.below hb2 Hzq.out.lt;have k1:=zq2.cell 0;have k2:=zq2.fz 0;simp only[aL,aI]at k1;have Hzq2:=zq zq2;have DM:=HB.out.size;have hlt1:=Hzq.out.lt;have fR:bH (Below w.heap.size w w2):=HB.out.trans (hb2.mono DM);obtain⟨gx,nx,cx,rfl,oxr⟩:=ox;have Hox:bH (tC w2 w1.heap.size (aB (some ⟨gx,0,none⟩) nx cx) PB (M/N)):=⟨gx,nx,cx,rfl,oxr⟩;have Hoy:=zq oy;clear hb2 zq2 oxr oy DM rP;go_wp2;refine⟨_,gA MN _ _ w.heap.size _ rfl ((Hzq2.out.set 0 _).cell 0) (oO _),_,_,rfl,?_,?_,?_⟩
 ·exact(Hox.out.set_other (a:=⟨w.heap.size,0,none⟩) hlt1 _).inL
 ·exact(Hoy.out.set_other (a:=⟨w.heap.size,0,none⟩) hlt1 _).inL
 ·exact fR.out.setCell (p:=⟨w.heap.size,0,none⟩) (aG _) _
end
end
section
open Go Go.RowKit
section
def SeqK(F:Fence)(n:Nat)(P:dP)(gf:Nat)(lb:Array aS)(mB:Nat→Array aS)(Kp:Nat→aF→aF→Prop)(N:Nat)(w:aF):Prop:=
 ∀(l:Nat)(J Jx:Nat→aF→Prop)(W:aF),Below w.heap.size w W→
  (∀k V,k<N→J k V→YieldAt F (n-1) P l (mB k) V fun e V'=>(e=aQ (aN true)∧J (k+1) V'∧Kp k V V')∨(e=aQ (aN false)∧Jx (k+1) V'))→
  J 0 W→CallsIn F n P gf (#[.func (.yield l) #[] #[]]++lb) W fun e W'=>(∃v,e=aQ v)∧(J N W'∨∃k,k≤N∧Jx k W')
variable{F:Fence}{n:Nat}{P:dP}
theorem PP{g:Operand}{ps:Array Tmp}{assign body:vK}{Q:Exit→Act→aF→Prop}{a:Act}{w:aF}
 (Ia:F.round=none)(h1:1≤n){gf:Nat}{lb:Array aS}(hg:a.eval g=.func (.func gf) #[] lb)(hFg:F.fn gf)(eg:∀args w,(callFunc gf args).run P w=.ok (.enter gf args) w)
 {mB:Nat→Array aS}{Kp:Nat→aF→aF→Prop}{N:Nat}{w0:aF}(Bk:SeqK F (n-1) P gf lb mB Kp N w0)(hb0:Below w0.heap.size w0 w)
 (JP:∀{k:Nat} {A B C:aF},Kp k A B→Kp k B C→Kp k A C)(Kn:∀(k:Nat)(W:aF)(l:Nat)(o o':Obj),w.heap.size≤l→W.heap[l]? =some o→o.isCells=false→o.isWalk=false→Kp k W (W.putObj l o'))(wG:∀k,(mB k).size=ps.size)
 (I:Nat→aF→Prop)(Ix:vK→Nat→aF→Prop)(hI:rK w.heap.size I)(Cf:∀c,rK w.heap.size (Ix c))(h0:I 0 w)(tZ:Nat→Act)
 (jM:∀(l:Nat)(k:Nat)(W:aF)(K:Act→aF→Prop),K (tZ k) W→
  assign.wpIn (F.inRound l) (n-1-1) P (Exit.then K (fun _ _ _=>False)) {tmps:=(ps.zip (mB k)).foldl (fun t(p,v)=>t.setIfInBounds p v) a.tmps,defers:=[]} W)
 (qH:∀(l:Nat)(k:Nat)(W:aF),k<N→I k W→body.wpIn (F.inRound l) (n-1-1) P (pJ w.heap.size (Kp k) I Ix (k+1) W) (tZ k) W)
 (oS:∀(D:Nat)(W:aF),w.heap.size≤D→I N W→W.heap[D]? =some (.deferred (some []))→Q .normal {a with defers:={target:=.collected D,args:= #[]}::a.defers} W)
 (qI:∀(D:Nat)(c:vK)(k:Nat)(W:aF),w.heap.size≤D→k≤N→Ix c k W→W.heap[D]? =some (.deferred (some []))→c.wpIn F n P Q {a with defers:={target:=.collected D,args:= #[]}::a.defers} W):
 (qX g ps assign body).wpIn F n P Q a w:=by
 refine wpIn_rangeFunc ?_
 intro fn Zt
 rw[Ia]
 have hD:=kE w (.deferred (some []))
 obtain⟨V,hV⟩:∃V,(w.alloc (.deferred (some []))).alloc (.loop (eA fn a ps assign body w.heap.size .ready none))=V:=⟨_,rfl⟩
 have kD:V.heap[w.heap.size]? =some (.deferred (some [])):=by rw[←hV];exact(Below.heap_alloc _ _ _ (by simp)).trans hD
 have kL:V.heap[w.heap.size+1]? =some (.loop (eA fn a ps assign body w.heap.size .ready none)):=by
  rw[←hV]
  have:=kE (w.alloc (.deferred (some []))) (.loop (eA fn a ps assign body w.heap.size .ready none))
  rwa[bB]at this
 have kI:I 0 V:=by rw[←hV];exact hI.alloc _ (hI.alloc _ h0)
 have kB:Below w0.heap.size w0 V:=by
  rw[←hV];exact hb0.trans ((((aH _ w).alloc (aG _) _).alloc (by simp) _).mono hb0.size)
 refine⟨w.heap.size+1,[{target:=.collected w.heap.size,args:= #[]}],V,{target:=.fn (.func gf) lb,args:= #[.func (.yield (w.heap.size+1)) #[] #[]]},V,gf,
  #[.func (.yield (w.heap.size+1)) #[] #[]]++lb,V,?_,?_,?_,?_,fun _=>h1,?_⟩
 ·rw[←hV];exact run_enterLoop_outer _ _ _ _ _
 ·simp only[resolve,hg]
  simp[go_sem]
 ·intro f hf
  simp[Target.leads]at hf
  subst hf;exact hFg
 ·simp[invoke,go_sem,eg]
 ·have uA:=Bk (w.heap.size+1)
   (fun k W=>I k W∧W.heap[w.heap.size+1]? =some (.loop (eA fn a ps assign body w.heap.size .ready none))∧W.heap[w.heap.size]? =some (.deferred (some [])))
   (fun k W=>∃c,Ix c k W∧W.heap[w.heap.size+1]? =some (.loop (eA fn a ps assign body w.heap.size .done (some c)))∧W.heap[w.heap.size]? =some (.deferred (some [])))
   V kB ?round ⟨kI,kL,kD⟩
  case round=>
   rintro k W hk⟨hi,hl,hd⟩
   have hlt:w.heap.size+1<W.heap.size:=(Array.getElem?_eq_some_iff.1 hl).1
   have hy:=run_yield (P:=P) (args:=mB k) hl (by exact wG k)
   refine⟨fn,_,assign,body,hy,roundIn_of_wpIn Zt (jM _ k W _ ⟨_,run_beginRound hl rfl,?_⟩)⟩
   obtain⟨U,hU⟩:∃U,W.putObj (w.heap.size+1) (.loop (eA fn a ps assign body w.heap.size .busy none))=U:=⟨_,rfl⟩
   have uL:U.heap[w.heap.size+1]? =some (.loop (eA fn a ps assign body w.heap.size .busy none)):=by rw[←hU];exact iZ hlt
   have uD:U.heap[w.heap.size]? =some (.deferred (some [])):=by rw[←hU];exact(cH (by omega)).trans hd
   have uK:Kp k W U:=by rw[←hU];exact Kn _ _ _ _ _ (by omega) hl rfl rfl
   have uI:I k U:=by rw[←hU];exact hI.putObj _ hi (by omega) hl rfl
   have FU:∀(j:Option vK)(X:aF),gP w.heap.size U X→
    X.heap[w.heap.size+1]? =some (.loop (eA fn a ps assign body w.heap.size .busy none))∧
    (Instr.endRound (w.heap.size+1) j).run P X=.ok (aN j.isNone) (X.putObj (w.heap.size+1) (.loop (eA fn a ps assign body w.heap.size (if j.isNone then .ready else .done) j)))∧
    (X.putObj (w.heap.size+1) (.loop (eA fn a ps assign body w.heap.size (if j.isNone then .ready else .done) j))).heap[w.heap.size+1]? =some (.loop (eA fn a ps assign body w.heap.size (if j.isNone then .ready else .done) j))∧
    (X.putObj (w.heap.size+1) (.loop (eA fn a ps assign body w.heap.size (if j.isNone then .ready else .done) j))).heap[w.heap.size]? =some (.deferred (some [])):=by
    intro j X hX
    have xL:=hX.same _ _ (by omega) uL rfl
    exact⟨xL,run_endRound (P:=P) j xL,iZ (Array.getElem?_eq_some_iff.1 xL).1,(cH (by omega)).trans (hX.same _ _ (aG _) uD rfl)⟩
   show Code.wpIn _ _ _ _ _ _ (W.putObj (w.heap.size+1) (.loop (eA fn a ps assign body w.heap.size .busy none)))
   rw[hU]
   refine wpIn_mono (qH _ k U hk uI) ?_
   intro e a3 X hp
   have Bl:∀c:vK,gP w.heap.size U X∧Ix c (k+1) X→_:=fun c hc=>(FU (some c) X hc.1)
   cases e with
   |normal=>
    obtain⟨xL,xr,yL,yD⟩:=FU none X hp.1
    exact⟨_,_,xr,.inl ⟨rfl,⟨hI.putObj _ hp.2.2 (by omega) xL rfl,yL,yD⟩,JP (JP uK hp.2.1) (Kn _ _ _ _ _ (by omega) xL rfl rfl)⟩⟩
   |ret=>
    obtain⟨xL,xr,yL,yD⟩:=Bl .ret hp
    exact⟨_,_,xr,.inr ⟨rfl,.ret,(Cf _).putObj _ hp.2 (by omega) xL rfl,yL,yD⟩⟩
   |exit id=>
    obtain⟨xL,xr,yL,yD⟩:=Bl (.exit id) hp
    exact⟨_,_,xr,.inr ⟨rfl,.exit id,(Cf _).putObj _ hp.2 (by omega) xL rfl,yL,yD⟩⟩
   |goto t=>
    obtain⟨xL,xr,yL,yD⟩:=Bl (.goto t) hp
    exact⟨_,_,xr,.inr ⟨rfl,.goto t,(Cf _).putObj _ hp.2 (by omega) xL rfl,yL,yD⟩⟩
   |panic ch=>exact hp.elim
   |outgrown=>exact hp.elim
  refine uA.mono ?_
  rintro e W2⟨⟨v,rfl⟩,(⟨hi,hl,hd⟩|⟨k,hk,c,hi,hl,hd⟩)⟩
  ·exact⟨none,_,Ki (P:=P) hl (by simp[eA]),oS _ _ (aG _) (hI.putObj _ hi (by omega) hl rfl) ((cH (by omega)).trans hd)⟩
  ·exact⟨some c,_,Ki (P:=P) hl (by simp[eA]),qI _ c k _ (aG _) hk ((Cf c).putObj _ hi (by omega) hl rfl) ((cH (by omega)).trans hd)⟩
end
end
section
open Go Go.RowKit Go.Shelf
section
attribute[local go_sem] dW
variable{P:dP}
theorem Wb{g:Operand}{ps:Array Tmp}{assign body:vK}{Q:Exit→Act→aF→Prop}{a:Act}{w:aF}
 {gf:Nat}{lb:Array aS}(hg:a.eval g=.func (.func gf) #[] lb)(eg:∀args w,(callFunc gf args).run P w=.ok (.enter gf args) w)
 {mB:Nat→Array aS}{Kp:Nat→aF→aF→Prop}{N:Nat}(Bk:SeqK dG 8 P gf lb mB Kp N w)
 (JP:∀{k:Nat} {A B C:aF},Kp k A B→Kp k B C→Kp k A C)(Kn:∀(k:Nat)(W:aF)(l:Nat)(o o':Obj),w.heap.size≤l→W.heap[l]? =some o→o.isCells=false→o.isWalk=false→Kp k W (W.putObj l o'))(wG:∀k,(mB k).size=ps.size)
 (I:Nat→aF→Prop)(Ix:vK→Nat→aF→Prop)(hI:rK w.heap.size I)(Cf:∀c,rK w.heap.size (Ix c))(h0:I 0 w)(tZ:Nat→Act)
 (jM:∀(l:Nat)(k:Nat)(W:aF)(K:Act→aF→Prop),K (tZ k) W→
  assign.wpIn (Fence.wide.inRound l) 7 P (Exit.then K (fun _ _ _=>False)) {tmps:=(ps.zip (mB k)).foldl (fun t(p,v)=>t.setIfInBounds p v) a.tmps,defers:=[]} W)
 (qH:∀(l:Nat)(k:Nat)(W:aF),k<N→I k W→body.wpIn (Fence.wide.inRound l) 7 P (pJ w.heap.size (Kp k) I Ix (k+1) W) (tZ k) W)
 (oS:∀(D:Nat)(W:aF),w.heap.size≤D→I N W→W.heap[D]? =some (.deferred (some []))→Q .normal {a with defers:={target:=.collected D,args:= #[]}::a.defers} W)
 (qI:∀(D:Nat)(c:vK)(k:Nat)(W:aF),w.heap.size≤D→k≤N→Ix c k W→W.heap[D]? =some (.deferred (some []))→c.wp P Q {a with defers:={target:=.collected D,args:= #[]}::a.defers} W):
 (qX g ps assign body).wp P Q a w:=
 (wpIn_wide (n:=9)).1 (PP (F:=dG) rfl (by decide) hg trivial eg Bk (aH _ _) JP Kn wG I Ix hI Cf h0 tZ jM qH oS (fun D c k W h1 h2 h3 h4=>wpIn_wide.2 (qI D c k W h1 h2 h3 h4)))
def xJ(Bs:Nat)(a:Option cT)(len k:Nat)(A B:aF):Prop:=
 B.cell? ⟨Bs,0,none⟩=A.cell? ⟨Bs,0,none⟩∧∀b off,a=some ⟨b,off,none⟩→∀i,i+1+k<len→B.cell? ⟨b,off+i,none⟩=A.cell? ⟨b,off+i,none⟩
theorem xJ.refl(Bs:Nat)(a:Option cT)(len k:Nat)(W:aF):xJ Bs a len k W W:=⟨rfl,fun _ _ _ _ _=>rfl⟩
theorem xJ.trans{Bs:Nat}{a:Option cT}{len k:Nat}{A B C:aF}(h:xJ Bs a len k A B)(g:xJ Bs a len k B C):xJ Bs a len k A C:=
 ⟨g.1.trans h.1,fun b off e i hi=>(g.2 b off e i hi).trans (h.2 b off e i hi)⟩
theorem xJ.putObj{Bs:Nat}{a:Option cT}{len:Nat}{w:aF}(hB:Bs<w.heap.size)(ha:∀p,a=some p→p.block<w.heap.size)(k:Nat)(W:aF)(l:Nat)(o o':Obj)(hl:w.heap.size≤l)(_:W.heap[l]? =some o)(_:o.isCells=false)(_:o.isWalk=false):xJ Bs a len k W (W.putObj l o'):=
 ⟨iI (cH (by show Bs≠l;omega)),fun b off e i _=>iI (cH (by have h9:b<w.heap.size:=ha _ e;show b≠l;omega))⟩
theorem Wc(F:Fence)(n:Nat)(h7:F.fn 313)(Ia:F.round=none)(hn:1≤n)(Bs:Nat)(a:Option cT)(len cap:Nat)(xs:List Nat)(Na:xs.length=len)(mz:len≤2147483648)(w:aF)
 (hBs:w.cell? ⟨Bs,0,none⟩=some (aB a len cap))(hc:Rd w a xs):
 SeqK F n aC 313 #[bA (some ⟨Bs,0,none⟩)] (encB xs) (xJ Bs a len) len w:=by
 intro l J Jx W hW hY h0;have hBs:=(hW.cell (p:=⟨Bs,0,none⟩) (bG w _ hBs)).trans hBs;have hc:=hc.below hW;have Vd:=zq Na;clear Na;have Hc:=zq hc;clear hc;clear hW;refine callsIn_of_wp Dd rfl h7 ?_ Ia;simp only[ntmps313,bW,bF,bY,cW,cX,bR,bS,cD,bU,cL,bZ];gi_wp2;gi_loopw [3] (fun i wr=>∃k:Nat,k≤len∧i=aD aE ((len:Int)-1-k)∧J k wr∧xJ Bs a (len+1) k W wr)
  (fun i _=>(aK i+1).toNat)
 case atStart=>exact⟨0,bN _,by simp,h0,xJ.refl _ _ _ _ _⟩
 case round=>
  obtain⟨k,hk,rfl,na,R7⟩:=hrel;by_cases hlt:k<len
  ·obtain⟨j,hj⟩:∃j,len-1-k=j:=⟨_,rfl⟩;have hji:(len:Int)-1-k=j:=by omega
   rw[hji];obtain⟨b,off,rfl,NS⟩:=Hc.out j (by rw[Vd.out];omega);have hcx':=(R7.2 b off rfl j (by omega)).trans NS;have hbx:wr.cell? ⟨Bs,0,none⟩=some (aB (some ⟨b,off,none⟩) len cap):=R7.1.trans hBs;obtain⟨fn,tmps,assign,body,hy,hR⟩:=hY k wr hlt na;simp only[encB,KN Vd.out hj,KO Vd.out hj rfl]at hy;have Hj:=zq hj;clear hj;generalize xs.getD j 0=X at *;have hjl:(j:Int)<len:=by omega
   clear NS hji;gi_wp2;refine hR.mono ?_;rintro e W3 (⟨rfl,Ve,hk3⟩|⟨rfl,VH⟩)
   ·gi_wp2;go_roundw;case rel=>exact⟨k+1,by omega,by have:=Hj.out;congr 1;omega,Ve,⟨hk3.1.trans R7.1,fun b' off' e i hi=>(hk3.2 b' off' e i (by omega)).trans (R7.2 b' off' e i (by omega))⟩⟩
    case measure=>have:=Hj.out;simp only[aK];omega
   ·gi_wp2;refine bodyPost_ret (results_none rfl _ _ _) rfl ?_;exact⟨⟨_,rfl⟩,.inr ⟨k+1,by omega,VH⟩⟩
  ·obtain rfl:k=len:=by omega
   gi_wp2;go_end0;exact⟨⟨_,rfl⟩,.inl na⟩
end
def We(M N f L k:Nat)(os qs:List Nat):Prop:=
 (∀x∈os,x<PB)∧(∀x∈qs,x<PB)∧cE PB os+N*f*cE PB (qs.drop (L-k))*PB^(L-k)=M*f∧cE PB os<N*f*PB^(L-k)
theorem pT.from{g B:Nat}{A C:aF}(h:pT g A C)(hg:g<B):gP B A C:=
 ⟨by rw[h.2.2];exact aG _,fun k o hk ho _=>(h.2.1 k (by omega)).trans ho⟩
structure xK(w W:aF)(B G6 gq L k g4 g nu cap gv n2 cv base:Nat)(qs ys:List Nat)(A:aF):Prop where
 below:Below w.heap.size w A
 kept:gP B W A
 keepB:xJ G6 (some ⟨gq,0,none⟩) L k W A
 bq:bT A w.heap.size #[aB (some ⟨gq,0,none⟩) L L] 194
 bu:bT A g4 #[aB (some ⟨g,0,none⟩) nu cap] 194
 bv:bT A (g4+1) #[aB (some ⟨gv,0,none⟩) n2 cv] 194
 oq:A.ownsRow gq 3 1 (aB (some ⟨gq,0,none⟩) L L) L (qs.map iv)
 ov:A.ownsRow base 3 1 (aB (some ⟨gv,0,none⟩) n2 cv) n2 (ys.map iv)
section
variable{w W A C:aF}{B G6 gq L k g4 g nu cap gv n2 cv base:Nat}{qs ys:List Nat}
theorem Jw{w A C:aF}{base e size n c r g:Nat}{xs:List aS}(h:A.ownsRow base e size (aB (some ⟨r,0,none⟩) n c) n xs)(hb:pT g A C)(jC:r≠g):C.ownsRow base e size (aB (some ⟨r,0,none⟩) n c) n xs:=by
 refine⟨h.1,?_⟩;rcases h.2 with⟨h1,_⟩|⟨g',c',yU,hv,h2,hg,h3⟩
 ·simp at h1
 ·injection hv with e1 e2 e3;injection e1 with e1;injection e1 with e1;subst e1 e3;exact .inr ⟨r,c,yU,rfl,h2,(hb.2.1 r jC).trans hg,h3⟩
theorem bT.but{b:Nat}{cs:Array aS}{T:eC}(h:bT A b cs T)(hb:pT g A C)(jC:b≠g):bT C b cs T:=(hb.2.1 b jC).trans h
theorem xK.but(h:xK w W B G6 gq L k g4 g nu cap gv n2 cv base qs ys A)(hb:pT g A C)(h1:w.heap.size<g)(h2:g<g4)(h3:g≠gq)(h4:g≠gv)(h5:g≠G6)(h6:g<B):xK w W B G6 gq L k g4 g nu cap gv n2 cv base qs ys C:={
 below:=h.below.trans (hb.1.mono (by omega))
 kept:=h.kept.trans (hb.from h6)
 keepB:=h.keepB.trans ⟨iI (hb.2.1 _ (by show G6≠g;omega)),fun b off e i _=>by cases e;exact iI (hb.2.1 _ (by show gq≠g;omega))⟩
 bq:=h.bq.but hb (by omega)
 bu:=h.bu.but hb (by omega)
 bv:=h.bv.but hb (by omega)
 oq:=Jw (w:=w) h.oq hb (by omega)
 ov:=Jw (w:=w) h.ov hb (by omega)}
theorem xK.drewN(h:xK w W B G6 gq L k g4 g nu cap gv n2 cv base qs ys A)(n:Nat):xK w W B G6 gq L k g4 g nu cap gv n2 cv base qs ys (A.drewN n):={
 below:=cK h.below n
 kept:=⟨h.kept.size,h.kept.same⟩
 keepB:=h.keepB
 bq:=h.bq
 bu:=h.bu
 bv:=h.bv
 oq:=h.oq
 ov:=h.ov}
theorem xK.set4(h:xK w W B G6 gq L k g4 g nu cap gv n2 cv base qs ys A)(h1:w.heap.size<g4)(h3:g4≠gq)(h4:g4≠gv)(h5:g4≠G6):
 xK w W B G6 gq L k g4 g nu cap gv n2 cv base qs ys (A.setCell ⟨g4,0,none⟩ (aB (some ⟨g,0,none⟩) nu cap)) where
 below:=h.below.setCell (p:=⟨g4,0,none⟩) (by show w.heap.size≤g4;omega) _
 kept:=h.kept.trans ((cG _ _ _).from _)
 keepB:=h.keepB.trans ⟨iI (nY A ⟨g4,0,none⟩ G6 _ (by show G6≠g4;omega)),fun b off e i _=>by cases e;exact iI (nY A ⟨g4,0,none⟩ gq _ (by show gq≠g4;omega))⟩
 bq:=h.bq.other _ (by show w.heap.size≠g4;omega)
 bu:=h.bu.set 0 _
 bv:=h.bv.other _ (by show g4+1≠g4;omega)
 oq:=eS h.oq (by show gq≠g4;omega) _
 ov:=eS h.ov (by show gv≠g4;omega) _
end
theorem Lt(g nu cap gv n2 cv j base Ct V P:Nat)(os ys:List Nat)(w:aF)(ho:w.ownsRow base 3 1 (aB (some ⟨g,0,none⟩) nu cap) nu (os.map iv))(hv:w.ownsRow Ct 3 1 (aB (some ⟨gv,0,none⟩) n2 cv) n2 (ys.map iv))
 (Nh:∀x∈os,x<PB)(Yj:∀y∈ys,y<PB)(ZZ:0<ys.getD (n2-1) 0)(h2:2≤n2)(hn:n2≤1000)(jn:nu≤3000)(hj:j+n2<nu)(hV:cE PB ys=V)(hP:PB^j=P)(hU:cE PB os<V*PB^(j+1)):
 aW aC 282 #[aB (some ⟨g,0,none⟩) nu cap,aB (some ⟨gv,0,none⟩) n2 cv,aD aE j] w fun e w'=>(∃q:Nat,e=aQ (iv q)∧q≤999999999∧cE PB os/(V*P)≤q)∧∃nd,w'=w.drewN nd:=by
 subst hV hP;have Rs:=kP ho;have Ob:=kP hv;obtain⟨p1,p2,p3,p4,p5⟩:=Yi dB os ys Nh Yj n2 j Ob h2 (by omega) hU;have b1:=iG Nh (by decide) (j+n2-1);have b0:=iG Nh (by decide) (j+n2-2);have b2:=iG Yj (by decide) (n2-1);have b3:=iG Yj (by decide) (n2-2);unfold PB at b0 b1 b2 b3;have hc:=PL g 0 nu cap gv 0 n2 cv j _ _ _ _ _ w h2 hn jn hj (by rw[dZ];exact nQ ho hj) (by rw[dZ];exact nQ ho (show j+n2-1<nu by omega)) (by rw[dZ];exact nQ ho (show j+n2-2<nu by omega))
  (by rw[dZ];exact nQ hv (show n2-1<n2 by omega)) (by rw[dZ];exact nQ hv (show n2-2<n2 by omega)) p1 (by omega) ZZ (by omega) (by omega) (by omega)
 refine hc.mono ?_;rintro e w'⟨⟨q,rfl,hq,hQ⟩,nd,rfl⟩;exact⟨⟨q,rfl,hq,hQ _ p4 p5⟩,nd,rfl⟩
theorem Wf(g nu cap gv n2 cv j q base Ct V U:Nat)(os ys:List Nat)(w:aF)(ho:w.ownsRow base 3 1 (aB (some ⟨g,0,none⟩) nu cap) nu (os.map iv))(hv:w.ownsRow Ct 3 1 (aB (some ⟨gv,0,none⟩) n2 cv) n2 (ys.map iv))
 (Nh:∀x∈os,x<PB)(Yj:∀y∈ys,y<PB)(hn:n2≤1000)(jn:nu≤3000)(hj:j+n2<nu)(hV:cE PB ys=V)(hV0:0<V)(hU:cE PB os=U)(hUW:U<PB^(j+(n2+1)))(hq:q≤999999999)(hQ:U/(V*PB^j)≤q)(jC:gv≠g):
 aW aC 283 #[aB (some ⟨g,0,none⟩) nu cap,aB (some ⟨gv,0,none⟩) n2 cv,aD aE j,aD aE q] w fun e w'=>pT g w w'∧
  ∃JU:List Nat,w'.ownsRow base 3 1 (aB (some ⟨g,0,none⟩) nu cap) nu (JU.map iv)∧(∀x∈JU,x<PB)∧
   ((e=aQ (aN false)∧cE PB JU+q*V*PB^j=U∧cE PB JU<V*PB^j)∨
    (e=aQ (aN true)∧U/(V*PB^j)<q∧(∀i,j+n2+1≤i→JU.getD i 0=0)∧∃cc,cE PB JU+q*V*PB^j=U+cc*PB^(j+(n2+1)))):=by
 subst hV hU;have Ob:=kP hv;have hup:∀i,j+n2+1≤i→os.getD i 0=0:=fun i hi=>BS (by decide) os (j+(n2+1)) i (by omega) hUW;have hVP:0<cE PB ys*PB^j:=Nat.mul_pos hV0 (Nat.pow_pos (by decide));refine(pk g nu cap (some ⟨gv,0,none⟩) cv n2 j q base os ys w ho Nh Ob hn jn (Rd.own hv) Yj (by omega) hq (fun p hp=>by cases hp;exact jC)).mono ?_;rintro e w'⟨hb,JU,cc,rfl,o1,o2,o3,o4⟩;refine⟨hb,JU,o1,o2,?_⟩;have hz:∀i,j+n2+1≤i→JU.getD i 0=0:=fun i hi=>(o3 i hi).trans (hup i hi);by_cases hcc:cc=0
 ·subst hcc;rw[Nat.zero_mul,oE]at o4;exact .inl ⟨by simp,o4,(take_zero hVP o4 hQ).2⟩
 ·have hX:=SQ (by decide:1≤PB) JU o2 (j+(n2+1)) (fun i hi=>hz i (by omega));exact .inr ⟨by simp;omega,pn hVP o4 hX (by omega),hz,cc,o4⟩
theorem Nk(g nu cap gv n2 cv j q cc base Ct V U:Nat)(os ys:List Nat)(w:aF)(ho:w.ownsRow base 3 1 (aB (some ⟨g,0,none⟩) nu cap) nu (os.map iv))(hv:w.ownsRow Ct 3 1 (aB (some ⟨gv,0,none⟩) n2 cv) n2 (ys.map iv))
 (Nh:∀x∈os,x<PB)(Yj:∀y∈ys,y<PB)(hn:n2≤1000)(jn:nu≤3000)(hj:j+n2<nu)(hV:cE PB ys=V)(hUW:U<PB^(j+(n2+1)))(hq:q≤999999999)(hz:∀i,j+n2+1≤i→os.getD i 0=0)(hcc:cE PB os+q*V*PB^j=U+cc*PB^(j+(n2+1)))(jC:gv≠g):
 aW aC 284 #[aB (some ⟨g,0,none⟩) nu cap,aB (some ⟨gv,0,none⟩) n2 cv,aD aE j,aD aE q] w fun e w'=>e=aQ (aB (some ⟨g,0,none⟩) nu cap)∧pT g w w'∧
  ∃JU:List Nat,w'.ownsRow base 3 1 (aB (some ⟨g,0,none⟩) nu cap) nu (JU.map iv)∧(∀x∈JU,x<PB)∧cE PB JU=U:=by
 subst hV;have Ob:=kP hv;refine(SO g nu cap (some ⟨gv,0,none⟩) cv n2 j q base os ys w ho Nh Ob hn jn (Rd.own hv) Yj (by omega) hq (fun p hp=>by cases hp;exact jC)).mono ?_;rintro e w'⟨rfl,hb,JU,c2,o1,o2,o3,o4⟩;have hX:=SQ (by decide:1≤PB) JU o2 (j+(n2+1)) (fun i hi=>(o3 i (by omega)).trans (hz i (by omega)));exact⟨rfl,hb,JU,o1,o2,PN o4 hcc hX hUW⟩
section
attribute[local go_sem] dW
theorem Z3(L j:Nat):(bV L 0).getD j 0=0:=by
 rw[List.getD_eq_getElem?_getD,List.getElem?_replicate];split <;>rfl
theorem Yk(W:aF){f:Nat}(h0:0<f)(hf:f<PB):tY (W.alloc (aJ #[iv f] 3)) (aB (some ⟨W.heap.size,0,none⟩) 1 1) PB f:=by
 have hl:cQ PB f=[f]:=by
  rw[mX dB (by omega),fE hf,sF hf,eY]
 refine⟨_,1,1,rfl,by rw[hl];rfl,aG _,by simp[dL],by simp,?_⟩;rw[hl];intro i hi;refine⟨_,_,rfl,?_⟩;obtain rfl:i=0:=by simpa using hi
 exact(bT.new W #[iv f] 3).cell 0
theorem JV(a1 a2:Option cT)(c1 c2 n1 n2:Nat)(M N:Nat)(w:aF)(yB:(cQ PB M).length=n1)(Ab:(cQ PB N).length=n2)(hx:n1≤1000)(h2n:2≤n2)(hlt:¬M<N)
 (h1:tY w (aB a1 n1 c1) PB M)(h2:tY w (aB a2 n2 c2) PB N):
 aW aC 225 #[aB a1 n1 c1,aB a2 n2 c2] w fun e w'=>∃v u,e=aQ (cC #[v,u])∧tY w' v PB (M/N)∧tY w' u PB (M%N)∧Below w.heap.size w w':=by
 have hx2:n2≤n1:=by rw[←yB,←Ab];exact iP dB (by omega)
 have hc:=fun W hb=>vF _ _ M N W (h1.below (w':=W) hb) (h2.below hb) (by omega) (by omega)
 have Hc:=zq hc;clear hc
 obtain⟨t,ht⟩:=nm ((cQ PB N).getD (n2-1) 0)
 obtain⟨t0,tB,f0,fB,fl⟩:=PO dB Ab (by omega) ht
 obtain⟨f,hf⟩:=nm (PB/(t+1))
 rw[hf]at f0 fB fl
 have Z0:=zq (bT.new w #[aB none 0 0] 194)
 have rP:∃b2 o2,a2=some ⟨b2,o2,none⟩∧w.cell? ⟨b2,o2+(n2-1),none⟩=some (iv t):=by
  obtain⟨a,n,c,e,p1,p2,p3,p4,p5⟩:=h2
  injection e with e1 e2 e3
  subst e1 e2 e3
  obtain⟨b,o,e,hc⟩:=p5 (n2-1) (by omega)
  rw[ht]at hc
  exact⟨b,o,e,hc⟩
 obtain⟨b2,o2,rfl,rP⟩:=rP
 have hlt2:=bG w _ rP
 have pr:=zq rP
 have Hl:=zq hlt
 have tB':t≤999999999:=by unfold PB at tB;omega
 have q1:IntKind.i64.wrap ((t:Int)+1)=(t:Int)+1:=aX _ (by omega)
 have q2:¬(t:Int)+1=0:=by omega
 have q3:(1000000000:Int).tdiv ((t:Int)+1)=(f:Int):=by
  rw[show(t:Int)+1=((t+1:Nat):Int) by omega,show(1000000000:Int)=((1000000000:Nat):Int)from rfl,jB (by omega),←Int.natCast_ediv]
  rw[←hf];rfl
 have q4:IntKind.i64.wrap (f:Int)=(f:Int):=aX _ (by unfold PB at fB;omega)
 have q5:(1000000000:Int)/((t:Int)+1)=(f:Int):=by
  rw[←q3,jB (by omega)]
 have q6:((n2:Int)-1).toNat=n2-1:=by omega
 have q7:(0:Int)≤(n2:Int)-1:=by omega
 have q8:((n2:Int)==1)=false:=by simp;omega
 have HQ:=zq (And.intro q1 (And.intro q2 (And.intro q3 (And.intro q4 q5))))
 have HF:=zq (And.intro t0 (And.intro tB (And.intro f0 (And.intro fB fl))))
 have Hf:=zq hf
 have H1:=zq h1;have H2:=zq h2;have yX:=zq yB;have EI:=zq Ab
 clear hlt rP yB Ab ht hf t0 tB f0 fB fl q1 q2 q3 q4 q5 h1 h2
 refine dE UN rfl ?_
 simp only[QQ,bW,bF,bY,cW,cX,bR,bS,cD,bU,cL,bZ]
 go_wp2_with fail
 refine(Hc.out _ ((aH _ _).alloc (aG _) _)).mono ?_
 rintro e w1⟨⟨v,rfl,hv⟩,hb1⟩
 have hvl:=hv.ge Hl.out
 have zq1:bT w1 w.heap.size #[aB none 0 0] 194:=Z0.out.below hb1 (by simp)
 have mM:Below w.heap.size w w1:=((aH _ _).alloc (aG _) _).trans (hb1.mono (by simp))
 have rP:w1.cell? ⟨b2,o2+(n2-1),none⟩=some (iv t):=(mM.cell (p:=⟨b2,o2+(n2-1),none⟩) hlt2).trans pr.out
 have Hzq:=zq zq1
 have HB:=zq mM
 clear hb1 hv Z0 zq1 mM
 obtain⟨q1,q2,q3,q4,q5⟩:=HQ.out
 go_wp2_with fail
 clear q1 q2 q3 q4 q5
 have hsz1:w.heap.size<w1.heap.size:=Hzq.out.lt
 have Lu:Below w.heap.size w (w1.alloc (aJ #[iv f] 3)):=HB.out.alloc (by omega) _
 have inF:∀W:aF,tY (W.alloc (aJ #[iv f] 3)) (aB (some ⟨W.heap.size,0,none⟩) 1 1) PB f:=fun W=>Yk W HF.out.2.2.1 HF.out.2.2.2.1
 have hMf:(cQ PB (M*f)).length≤n1+1:=by
  have:=Ah dB (M:=M) (N:=f) (a:=n1) (b:=1) (by rw[yX.out];exact aG _) (gH dB (by rw[MO];exact HF.out.2.2.2.1))
  exact this
 have hMf2:n1≤(cQ PB (M*f)).length:=by
  rw[←yX.out];exact iP dB (Nat.le_mul_of_pos_right _ HF.out.2.2.1)
 refine(IG _ _ M f _ (H1.out.below Lu) (inF w1) (by rw[yX.out];exact hx) (bE (gH dB (k:=1) (by rw[MO];exact HF.out.2.2.2.1)) (by decide))).mono ?_
 rintro e w2⟨u,rfl,ou,hb2⟩
 rw[bB]at ou hb2
 obtain⟨gu,nu,cu,rfl,ou⟩:=ou
 have jn:(cQ PB (M*f)).length=nu:=by have:=ou.1;simpa using this
 rw[jn]at hMf hMf2
 have gJ:Below w.heap.size w w2:=Lu.trans (hb2.mono (by omega))
 have zq2:bT w2 w.heap.size #[aB none 0 0] 194:=(Hzq.out.alloc _).below hb2 (by omega)
 have FA:w1.heap.size+1≤w2.heap.size:=by have:=hb2.size;simpa using this
 have Hou:=zq ou
 have Hhb:=zq (And.intro gJ zq2)
 have Hnu:=zq jn
 clear Lu ou hb2 gJ zq2 jn
 go_wp2_with (at_builtin;refine Pn rfl (.tmp 37) (.tmp 38) rfl (w1.heap.size+1) _ nu _ rfl Hou.out (iv 0) rfl rfl (by omega) (by omega) ?_;intro g cap w3 Oe hge hgr3)
 have kY:Below w.heap.size w w3:=eP (B:=w.heap.size) (base:=w1.heap.size+1) Hhb.out.1 hgr3 Hou.out (by omega) (by omega)
 have zq3:bT w3 w.heap.size #[aB none 0 0] 194:=Hhb.out.2.grown hgr3 (wF Hou.out (by omega))
 have pv:g<w3.heap.size:=(gG Oe).2.1
 have hs3':w2.heap.size≤w3.heap.size:=hgr3.size
 have hbC:Below w.heap.size w (w3.alloc (aJ #[iv f] 3)):=kY.alloc (by omega) _
 refine(IG _ _ N f _ (H2.out.below hbC) (inF w3) (by rw[EI.out];omega) (bE (gH dB (k:=1) (by rw[MO];exact HF.out.2.2.2.1)) (by decide))).mono ?_
 rintro e w4⟨vv,rfl,ov,hb4⟩
 rw[bB]at ov hb4
 obtain⟨gv,nv,cv,rfl,ov⟩:=ov
 have hnv:(cQ PB (N*f)).length=nv:=by have:=ov.1;simpa using this
 obtain rfl:n2=nv:=by rw[←hnv];exact HF.out.2.2.2.2.symm
 have hgv:=gG ov
 have pw:w4.ownsRow (w1.heap.size+1) 3 1 (aB (some ⟨g,0,none⟩) (nu+1) cap) (nu+1) ((cQ PB (M*f)++[0]).map iv):=by
  rw[List.map_append];exact dI (Oe.alloc _) (hb4.mono (by simp))
 have oI:Below w.heap.size w w4:=hbC.trans (hb4.mono (by omega))
 have zq4:bT w4 w.heap.size #[aB none 0 0] 194:=(zq3.alloc _).below hb4 (by omega)
 have Vg:w3.heap.size+1≤w4.heap.size:=by have:=hb4.size;simpa using this
 obtain⟨Fz,qd⟩:=nm (cQ PB (M*f)++[0])
 have Hos:bH (Fz.length=nu+1∧(∀x∈Fz,x<PB)∧cE PB Fz=M*f):=by
  refine⟨by rw[←qd,cP,Hnu.out];rfl,?_,?_⟩
  ·rw[←qd];exact yT (kH dB _) (by decide)
  ·rw[←qd,Dk,fS dB];simp
 obtain⟨ys,Yj⟩:=nm (cQ PB (N*f))
 have Hys:bH (ys.length=n2∧(∀y∈ys,y<PB)∧cE PB ys=N*f∧0<ys.getD (n2-1) 0):=by
  refine⟨by rw[←Yj];exact hnv,?_,?_,?_⟩
  ·rw[←Yj];exact kH dB _
  ·rw[←Yj];exact fS dB _
  ·have jC:cQ PB (N*f)≠[]:=by intro e;rw[e]at hnv;simp at hnv;omega
   have:=EA dB _ jC
   rw[hnv,Yj]at this
   omega
 rw[qd]at pw
 rw[Yj]at ov
 obtain⟨g4,hg4⟩:=nm w4.heap.size
 have II:=zq (And.intro pw (And.intro ov (And.intro oI zq4)))
 have Hsz:=zq (And.intro hgv (And.intro pv (And.intro hs3' (And.intro Vg FA))))
 have hlo:¬((nu:Int)+1<(n1:Int)+1):=by omega
 clear Oe hgr3 kY zq3 hbC ov hb4 hnv hgv pw oI zq4 qd Yj pv hs3' Vg FA
 go_wp2
 obtain⟨W5,SU⟩:=nm ((w4.alloc (aJ #[aB (some ⟨g,0,none⟩) (nu+1) cap] 194)).alloc (aJ #[aB (some ⟨gv,0,none⟩) n2 cv] 194))
 have u1:bT W5 g4 #[aB (some ⟨g,0,none⟩) (nu+1) cap] 194:=by
  rw[←SU,←hg4];exact(bT.new w4 _ _).alloc _
 have u2:bT W5 (g4+1) #[aB (some ⟨gv,0,none⟩) n2 cv] 194:=by
  rw[←SU,←hg4]
  have:=bT.new (w4.alloc (aJ #[aB (some ⟨g,0,none⟩) (nu+1) cap] 194)) #[aB (some ⟨gv,0,none⟩) n2 cv] 194
  rwa[bB]at this
 have u3:bT W5 w.heap.size #[aB none 0 0] 194:=by rw[←SU];exact(II.out.2.2.2.alloc _).alloc _
 have u4:W5.ownsRow (w1.heap.size+1) 3 1 (aB (some ⟨g,0,none⟩) (nu+1) cap) (nu+1) (Fz.map iv):=by rw[←SU];exact(II.out.1.alloc _).alloc _
 have u5:W5.ownsRow (w3.heap.size+1) 3 1 (aB (some ⟨gv,0,none⟩) n2 cv) n2 (ys.map iv):=by rw[←SU];exact(II.out.2.1.alloc _).alloc _
 have uB:Below w.heap.size w W5:=by
  have:=II.out.2.2.1.size
  rw[←SU];exact(II.out.2.2.1.alloc this _).alloc (by rw[bB];omega) _
 have us:W5.heap.size=g4+2:=by rw[←SU,←hg4];simp
 rw[SU]
 have k1:=u1.ce 0
 have k2:=u2.ce 0
 have k3:=u3.ce 0
 have k4:=u3.fz 0
 have hlt5:w.heap.size<W5.heap.size:=u3.lt
 have HU:=zq (And.intro u1 (And.intro u2 (And.intro u3 (And.intro u4 (And.intro u5 uB)))))
 have Hus:=zq us
 have Hg4:=zq hg4
 clear SU u1 u2 u3 u4 u5 uB us II hg4
 go_loopw[44] (fun _ wr=>wr=W5) (fun _ _=>0)
 case atStart=>rfl
 obtain rfl:=hrel
 obtain⟨L,hL⟩:=nm (nu+1-n2)
 have hLi:(nu:Int)+1-(n2:Int)=(L:Int):=by omega
 have HL:=zq hL
 have HLi:=zq hLi
 have hL2:L≤1100:=by omega
 have HU3:bH (∀W',wr.grownBy W' none→bT W' w.heap.size #[aB none 0 0] 194):=fun W' h=>HU.out.2.2.1.grown h (by simp)
 clear hL hLi
 go_wp2_with (at_make;refine FO rfl _ _ rfl wr.heap.size _ L rfl rfl HLi.out (by omega) (aG _) ?_;intro w6 BW EW;have k5:=(HU3.out _ EW).cell 0;have k6:=(HU3.out _ EW).fz 0;simp only[aL,aI]at k5)
 obtain⟨gq,hgq⟩:=nm wr.heap.size
 rw[hgq]at BW⊢
 refine(callsIn_wide.1 (FX dG 9 trivial rfl _ _ _ _)).mono ?_
 rintro e w'⟨rfl,rfl⟩
 obtain⟨u1,u2,u3,u4,u5,uB⟩:=HU.out
 have hg42:g4+2≤gq:=by rw[←hgq,Hus.out];exact aG _
 clear hgq
 have hs6:gq<w6.heap.size:=(gG BW).2.1
 have hbl6:Below w.heap.size w w6:=uB.grown EW (by have:=u3.lt;omega) (fun k hk=>by cases hk)
 obtain⟨G6,hG6⟩:=nm w6.heap.size
 obtain⟨W0,eQ⟩:=nm ((w6.setCell ⟨w.heap.size,0,none⟩ (aB (some ⟨gq,0,none⟩) L L)).alloc (aJ #[aB (some ⟨gq,0,none⟩) L L] 194))
 obtain⟨hgv,pv,hs3',Vg,FA⟩:=Hsz.out
 have hu4c:=gG u4
 have lt4:=u1.lt
 have hw4a:w4.heap.size≤g4:=by rw[Hg4.out];exact aG _
 have hgne:g≠w.heap.size:=by omega
 have e0:bT W0 w.heap.size #[aB (some ⟨gq,0,none⟩) L L] 194:=by rw[←eQ];exact((HU3.out _ EW).set 0 _).alloc _
 have e1:bT W0 g4 #[aB (some ⟨g,0,none⟩) (nu+1) cap] 194:=by rw[←eQ];exact((u1.grown EW (by simp)).other _ (by show g4≠w.heap.size;omega)).alloc _
 have e2:bT W0 (g4+1) #[aB (some ⟨gv,0,none⟩) n2 cv] 194:=by rw[←eQ];exact((u2.grown EW (by simp)).other _ (by show g4+1≠w.heap.size;omega)).alloc _
 have e3:bT W0 G6 #[aB (some ⟨gq,0,none⟩) L L] 194:=by
  rw[←eQ]
  have:=bT.new (w6.setCell ⟨w.heap.size,0,none⟩ (aB (some ⟨gq,0,none⟩) L L)) #[aB (some ⟨gq,0,none⟩) L L] 194
  rwa[jN,hG6]at this
 have e4:W0.ownsRow (w1.heap.size+1) 3 1 (aB (some ⟨g,0,none⟩) (nu+1) cap) (nu+1) (Fz.map iv):=by
  rw[←eQ];exact(eS (u4.kept EW (.inr (fun e=>by cases e))) (by show g≠w.heap.size;omega) _).alloc _
 have e5:W0.ownsRow (w3.heap.size+1) 3 1 (aB (some ⟨gv,0,none⟩) n2 cv) n2 (ys.map iv):=by
  rw[←eQ];exact(eS (u5.kept EW (.inr (fun e=>by cases e))) (by show gv≠w.heap.size;omega) _).alloc _
 have e6:W0.ownsRow gq 3 1 (aB (some ⟨gq,0,none⟩) L L) L ((bV L 0).map iv):=by
  rw[←eQ];exact(eS BW (by show gq≠w.heap.size;omega) _).alloc _
 have hs0:W0.heap.size=G6+1:=by rw[←eQ,←hG6];simp
 have fA:Below w.heap.size w W0:=by rw[←eQ];exact(hbl6.setCell (p:=⟨w.heap.size,0,none⟩) (aG _) _).alloc (by rw[jN];omega) _
 have HI0:bH (We M N f L 0 Fz (bV L 0)):=by
  refine⟨Hos.out.2.1,fun x hx=>by rw[List.eq_of_mem_replicate hx];decide,?_,?_⟩
  ·rw[Hos.out.2.2,List.drop_of_length_le (by simp)];simp[cE]
  ·rw[Hos.out.2.2,Cm,←HL.out]
   exact pq dB (by rw[Hnu.out];exact aG _) HF.out.2.2.2.2 (by omega) (by omega)
 have JS:Rd W0 (some ⟨gq,0,none⟩) (bV L 0):=Rd.own e6
 have qg:=zq eQ
 have HE:=zq (And.intro e0 (And.intro e1 (And.intro e2 (And.intro e3 (And.intro e4 (And.intro e5 (And.intro e6 fA)))))))
 have HrR:=zq JS
 clear EW BW u1 u2 u3 u4 u5 uB hbl6 hu4c eQ e0 e1 e2 e3 e4 e5 e6 fA JS hgv
 go_wp2_with fail
 rw[qg.out]
 obtain⟨e0,e1,e2,e3,e4,e5,e6,fA⟩:=HE.out
 refine Wb (gf:=313) (lb:= #[bA (some ⟨G6,0,none⟩)]) (by rw[←hG6];rfl) (nH Dd (by kernel_rfl) rfl)
  (Wc dG 8 trivial rfl (by decide) G6 (some ⟨gq,0,none⟩) L L (bV L 0) (by simp) (by omega) W0 (e3.cell 0) HrR.out) xJ.trans (xJ.putObj (by omega) (fun p hp=>by cases hp;show gq<_;omega)) (fun _=>rfl)
  (fun k W=>(∃(os qs:List Nat),bH (We M N f L k os qs)∧W.ownsRow (w1.heap.size+1) 3 1 (aB (some ⟨g,0,none⟩) (nu+1) cap) (nu+1) (os.map iv)∧W.ownsRow gq 3 1 (aB (some ⟨gq,0,none⟩) L L) L (qs.map iv)∧
   W.ownsRow (w3.heap.size+1) 3 1 (aB (some ⟨gv,0,none⟩) n2 cv) n2 (ys.map iv)∧
   bT W w.heap.size #[aB (some ⟨gq,0,none⟩) L L] 194∧bT W g4 #[aB (some ⟨g,0,none⟩) (nu+1) cap] 194∧bT W (g4+1) #[aB (some ⟨gv,0,none⟩) n2 cv] 194)∧Below w.heap.size w W)
  (fun _ _ _=>False)
  (cU (Own.from (fun s A B lM hs hg hr=>by obtain⟨os,qs,h1,h2,h3,h4,h5,h6,h7⟩:=hs;exact⟨os,qs,h1,oT h2 hg hr,oT h3 hg hr,oT h4 hg hr,h5.own hg hr,h6.own hg hr,h7.own hg hr⟩) _) (oA (aG _) (by omega)))
  (fun c _ _ _ _ hs _ _=>hs)
  ⟨⟨Fz,bV L 0,HI0,e4,e6,e5,e0,e1,e2⟩,fA⟩
  ?Jp ?assign ?body ?done ?stop
 case assign=>
  intro l k W K hK
  gi_wp2
  exact hK
 case body=>
  rintro l k W hk⟨⟨os,qs,hI,ou,oq,ov,b0,b1,b2⟩,hB⟩
  obtain⟨j,hj⟩:=nm (L-1-k)
  rw[KN (xs:=bV L 0) (by simp) hj,KO (xs:=bV L 0) (X:=0) (by simp) hj (Z3 L j)]
  have hjL:j<L:=by omega
  obtain⟨i1,i2,i3,i4⟩:=hI.out
  rw[show L-k=j+1 by omega]at i3 i4
  obtain⟨U,hU⟩:=nm (cE PB os)
  rw[hU]at i3 i4
  obtain⟨V,hV⟩:=nm (N*f)
  rw[hV]at i3 i4
  have hyV:cE PB ys=V:=by rw[Hys.out.2.2.1,hV]
  have hLn:L+n2=nu+1:=by have:=HL.out;omega
  have hest:=Yi dB os ys i1 Hys.out.2.1 n2 j Hys.out.1 h2n (by rw[kP ou];omega) (by rw[hU,hyV];exact i4)
  rw[hU,hyV]at hest
  obtain⟨-,hV0,hUW,-,-⟩:=hest
  have HR:bH (xK w W W0.heap.size G6 gq L k g4 g (nu+1) cap gv n2 cv (w3.heap.size+1) qs ys W):=⟨hB,zp _ _,xJ.refl _ _ _ _ _,b0,b1,b2,oq,ov⟩
  have kU:=b1.ce 0
  have kV:=b2.ce 0
  have hnu3:nu+1≤3000:=by omega
  have hjn:j+n2<nu+1:=by omega
  have Hest:=zq (Lt g (nu+1) cap gv n2 cv j _ _ V (PB^j) os ys W ou ov i1 Hys.out.2.1 Hys.out.2.2.2 h2n (by omega) hnu3 hjn hyV rfl (by rw[hU];exact i4))
  have HO:bH (W.ownsRow (w1.heap.size+1) 3 1 (aB (some ⟨g,0,none⟩) (nu+1) cap) (nu+1) (os.map iv)∧(∀x∈os,x<PB)∧cE PB os=U):=⟨ou,i1,hU⟩
  have Hi3:=zq i3;have Hi2:=zq i2;have HUW:=zq hUW;have HyV:=zq hyV;have Hj:=zq hj;have HVe:=zq hV
  have hn2b:n2≤1000:=by omega
  have HC:bH (w.heap.size<g∧g<g4∧g≠gq∧g≠gv∧g≠G6∧g<W0.heap.size∧w.heap.size<g4∧g4≠gq∧g4≠gv∧g4≠G6):=by
   obtain⟨hgv,-,-,-,-⟩:=Hsz.out
   refine⟨?_,?_,?_,?_,?_,?_,?_,?_,?_,?_⟩<;>omega
  clear ou oq ov b0 b1 b2 hB hI i1 i2 i3 i4 hU hyV hUW hj hV
  gi_wp2_with fail
  refine⟨trivial,(Calls.round Hest.out _ _).mono ?_⟩
  rintro e w'⟨⟨q,rfl,hq,hqQ⟩,nd,rfl⟩
  have HQ':bH (U/(V*PB^j)≤q):=by show _≤_;rw[←HO.out.2.2];exact hqQ
  clear hqQ Hest
  gi_wp2_with fail
  gi_loopw [10] (fun qv wr=>∃(q':Nat)(JU:List Nat),qv=iv q'∧q'≤999999999∧bH (U/(V*PB^j)≤q')∧bH (xK w W W0.heap.size G6 gq L k g4 g (nu+1) cap gv n2 cv (w3.heap.size+1) qs ys wr)∧
   bH (wr.ownsRow (w1.heap.size+1) 3 1 (aB (some ⟨g,0,none⟩) (nu+1) cap) (nu+1) (JU.map iv)∧(∀x∈JU,x<PB)∧cE PB JU=U))
   (fun qv _=>(aK qv).toNat)
  case atStart=>exact⟨q,os,rfl,hq,HQ',HR.out.drewN nd,HO.out⟩
  case round=>
   clear HQ' HR HO kU kV
   obtain⟨q',JU,rfl,hq',hqQ,hR,hO⟩:=hrel
   have kU:=hR.out.bu.ce 0
   have kV:=hR.out.bv.ce 0
   have Htk:=zq (Wf g (nu+1) cap gv n2 cv j q' _ _ V U JU ys wr hO.out.1 hR.out.ov hO.out.2.1 Hys.out.2.1 hn2b hnu3 hjn HyV.out hV0 hO.out.2.2 HUW.out hq' hqQ.out (Ne.symm HC.out.2.2.2.1))
   gi_wp2_with fail
   refine⟨trivial,(Calls.round Htk.out _ _).mono ?_⟩
   rintro e w'⟨hbt,os2,o1,o2,(⟨rfl,h3,h4⟩|⟨rfl,h3,h4,cc,h5⟩)⟩
   ·have Yl:=hR.out.but hbt HC.out.1 HC.out.2.1 HC.out.2.2.1 HC.out.2.2.2.1 HC.out.2.2.2.2.1 HC.out.2.2.2.2.2.1
    have kq:=Yl.bq.ce 0
    have kc:=nQ Yl.oq hjL
    have kf:=fN Yl.oq j
    have r10:(j:Int)<(L:Int):=by omega
    have r9:(0:Int)≤(j:Int):=by omega
    have Ad:=zq Yl
    have Ho:=zq (And.intro o1 (And.intro o2 (And.intro h3 h4)))
    generalize qs.getD j 0=Z at kc
    clear hR hO Htk kU kV hbt o1 o2 h3 h4 Yl
    gi_wp2
    have hq9:q'<PB:=by unfold PB;omega
    have hD:We M N f L (k+1) os2 (qs.set j q'):=by
     refine⟨Ho.out.2.1,Cs Hi2.out hq9,?_,?_⟩
     ·rw[show L-(k+1)=j by have:=Hj.out;omega,HVe.out]
      exact Z2 qs j q' U _ V _ (by rw[kP Ad.out.oq];exact hjL) Hi3.out Ho.out.2.2.1
     ·rw[show L-(k+1)=j by have:=Hj.out;omega,HVe.out]
      exact Ho.out.2.2.2
    obtain⟨c1,c2,c3,c4,c5,c6,c7,c8,c9,c10⟩:=HC.out
    refine⟨Ad.out.kept.trans ((cG _ _ _).from _),Ad.out.keepB.trans ⟨iI (nY w' ⟨gq,j,none⟩ G6 _ (by show G6≠gq;omega)),fun b off e i hi=>?_⟩,⟨os2,qs.set j q',hD,?_,yV Ad.out.oq j q',?_,?_,?_,?_⟩,?_⟩
    ·cases e
     apply World.cell?_setCell_other
     intro e
     have e2:j=0+i:=congrArg Addr.off e
     have:=Hj.out
     omega
    ·exact eS Ho.out.1 (by show g≠gq;omega) _
    ·exact eS Ad.out.ov (by show gv≠gq;have:=Hsz.out.1.2.1;omega) _
    ·exact Ad.out.bq.other _ (by show w.heap.size≠gq;omega)
    ·exact Ad.out.bu.other _ (by show g4≠gq;omega)
    ·exact Ad.out.bv.other _ (by show g4+1≠gq;omega)
    ·exact Ad.out.below.setCell (p:=⟨gq,j,none⟩) (by show w.heap.size≤gq;omega) _
   ·have Yl:=hR.out.but hbt HC.out.1 HC.out.2.1 HC.out.2.2.1 HC.out.2.2.2.1 HC.out.2.2.2.2.1 HC.out.2.2.2.2.2.1
    have Hrs:=zq (Nk g (nu+1) cap gv n2 cv j q' cc _ _ V U os2 ys w' o1 Yl.ov o2 Hys.out.2.1 hn2b hnu3 hjn HyV.out HUW.out hq' h4 h5 (Ne.symm HC.out.2.2.2.1))
    have kU:=Yl.bu.ce 0
    have kV:=Yl.bv.ce 0
    have Ad:=zq Yl
    have H3:=zq h3
    clear hR hO Htk hbt o1 o2 h3 h4 h5 Yl
    gi_wp2_with fail
    refine⟨trivial,(Calls.round Hrs.out _ _).mono ?_⟩
    rintro e w5⟨rfl,hbt,os3,o1,o2,o3⟩
    have hR3:=Ad.out.but hbt HC.out.1 HC.out.2.1 HC.out.2.2.1 HC.out.2.2.2.1 HC.out.2.2.2.2.1 HC.out.2.2.2.2.2.1
    have kU:=hR3.bu.ce 0
    have kF:=hR3.bu.fz 0
    have B8:=zq hR3
    have Ho:=zq (And.intro o1 (And.intro o2 o3))
    obtain⟨p,hp⟩:∃p,q'=p+1:=⟨q'-1,by have:=fO (bN _) H3.out;omega⟩
    have s2:IntKind.i64.wrap ((q':Int)-1)=(p:Int):=by rw[hp];rw[show((p+1:Nat):Int)-1=(p:Int) by omega];exact aX _ (by omega)
    have Hp:=zq hp
    clear Hrs hbt o1 o2 o3 hR3 Ad hp
    gi_wp2
    obtain⟨c1,c2,c3,c4,c5,c6,c7,c8,c9,c10⟩:=HC.out
    refine⟨⟨p,os3,rfl,by have:=Hp.out;omega,Nat.le_of_lt_succ (by rw[←Nat.add_one,←Hp.out];exact H3.out),B8.out.set4 c7 c8 c9 c10,eS Ho.out.1 (by show g≠g4;omega) _,Ho.out.2⟩,?_⟩
    have:=Hp.out
    simp only[aK]
    omega
 case done=>
  rintro D W hD⟨⟨os,qs,hI,ou,oq,ov,b0,b1,b2⟩,hB⟩hK
  obtain⟨i1,i2,i3,i4⟩:=hI.out
  rw[Vp]at i3 i4
  simp only[List.drop_zero,Nat.pow_zero,Nat.mul_one]at i3 i4
  obtain⟨hQ,hR⟩:=Wa HF.out.2.2.1 i3 i4
  have hsW:W0.heap.size≤D:=hD
  have htu:=qG dB ou (kP ou) i1 rfl
  have htq:=qG dB oq (kP oq) i2 hQ
  have cu:=vE (some ⟨g,0,none⟩) cap (nu+1) os W (kP ou) (gG ou).2.2.1 (gG ou).2.2.2 (Rd.own ou)
  obtain⟨T,hT⟩:=nm ((kX os).length)
  rw[hT]at htu cu
  rw[hR]at htu
  have PC:(cQ PB (M%N*f)).length≤1000:=by
   refine bE (gH dB (k:=n2) ?_) (by omega)
   rw[←hR]
   have:=eG dB (N*f)
   rw[HF.out.2.2.2.2]at this
   exact Nat.lt_trans i4 this
  have Ym:=zq (Oc _ (M%N*f) f W htu.inL PC HF.out.2.2.1 HF.out.2.2.2.1)
  have hmf:bH (M%N*f/f=M%N):=Nat.mul_div_cancel _ HF.out.2.2.1
  have Hcu:=zq cu
  have kU:=b1.ce 0
  have Vf:=zq (And.intro oq (And.intro b0 (And.intro hB (And.intro i2 (And.intro hQ hK)))))
  have hsz0:=b0.lt
  have hszq:gq<W.heap.size:=(gG oq).2.1
  have hDlt:D<W.heap.size:=(Array.getElem?_eq_some_iff.1 hK).1
  clear ou oq ov b0 b1 b2 hB hK hI i1 i2 i3 i4 hQ hR htu htq cu PC hT
  go_wp2_with fail
  refine kr Hcu.out ?_
  go_wp2_with fail
  refine Ym.out.mono ?_
  rintro e w7⟨x,y,rfl,ox,-,hb7⟩
  rw[hmf.out]at ox
  have b7:bT w7 w.heap.size #[aB (some ⟨gq,0,none⟩) L L] 194:=Vf.out.2.1.below hb7 hsz0
  have oq7:w7.ownsRow gq 3 1 (aB (some ⟨gq,0,none⟩) L L) L (qs.map iv):=dI Vf.out.1 hb7
  have Yn:Below w.heap.size w w7:=Vf.out.2.2.1.trans (hb7.mono (by omega))
  have hK7:w7.heap[D]? =some (.deferred (some [])):=(hb7.block D hDlt).trans Vf.out.2.2.2.2.2
  have k7:=b7.ce 0
  have f7:=b7.fz 0
  have ctq:=zq (fun n=>vE (some ⟨gq,0,none⟩) L L qs (w7.drewN n) (kP oq7) (aG _) (by simp only[dL];omega) (Rd.own (w:=w7.drewN n) oq7))
  have Hox:=zq ox
  have Hst7:=zq (And.intro oq7 (And.intro b7 (And.intro Yn hK7)))
  clear hb7 b7 oq7 Yn hK7 ox Hcu Ym kU
  go_wp2_with fail
  obtain⟨T2,jl⟩:=nm ((kX qs).length)
  have ctq':=ctq.out 0
  rw[jl]at ctq'
  refine ctq'.mono ?_
  rintro e w'⟨rfl,rfl⟩
  have Vh:=zq jl
  clear ctq ctq' jl
  obtain⟨gx,nx,cx,rfl,oxr⟩:=Hox.out
  have Hoxr:=zq oxr
  clear oxr
  go_wp2
  obtain⟨oq7,b7,Yn,hK7⟩:=Hst7.out
  have htq:=qG dB oq7 (kP oq7) Vf.out.2.2.2.1 Vf.out.2.2.2.2.1
  rw[Vh.out]at htq
  have uK:=(cG w7 ⟨w.heap.size,0,none⟩ (aB (some ⟨gq,0,none⟩) T2 L)).same D _ hK7 rfl
  refine⟨by simp,.inl ⟨_,_,rfl,fH uK,?_⟩⟩
  refine⟨_,gA MN _ _ w.heap.size _ rfl (((b7.set 0 _).putObj _ uK rfl).cell 0) (oO _),_,_,rfl,?_,?_,?_⟩
  ·exact((htq.set_other (a:=⟨w.heap.size,0,none⟩) (by show w.heap.size<gq;omega) _).putObj _ uK rfl).inL
  ·exact((Hox.out.set_other (a:=⟨w.heap.size,0,none⟩) hsz0 _).putObj _ uK rfl).inL
  ·exact(Yn.setCell (p:=⟨w.heap.size,0,none⟩) (aG _) _).trans (D3 (w:=w) (aG _) _ D _ _ (by omega) uK rfl rfl)
 case stop=>
  intro D c k W _ _ h _
  exact h.elim
theorem Br(v1 v2:aS)(M N:Nat)(w:aF)(h1:tY w v1 PB M)(h2:tY w v2 PB N)(hM:(cQ PB M).length≤1000)(hN:(cQ PB N).length≤1000)(h0:0<N):
 aW aC 225 #[v1,v2] w fun e w'=>∃v u,e=aQ (cC #[v,u])∧tY w' v PB (M/N)∧tY w' u PB (M%N)∧Below w.heap.size w w':=by
 by_cases hlt:M<N
 ·exact JT v1 v2 M N w h1 h2 hM hN hlt
 ·by_cases h1l:(cQ PB N).length=1
  ·exact Ls v1 v2 M N w h1 h2 hM h1l hlt
  ·have jC:(cQ PB N).length≠0:=fun e=>by
    have:=(iO dB).1 (fW e);omega
   have h1':=h1;have h2':=h2;obtain⟨a1,n1,c1,rfl,p1,-⟩:=h1;obtain⟨a2,n2,c2,rfl,q1,-⟩:=h2;exact JV a1 a2 c1 c2 n1 n2 M N w p1 q1 (by omega) (by omega) hlt h1' h2'
end
end
section
open Go.Shelf
def Tryz.bldRen:iK where
 f:=fun n=>if n=166 then 315 else if n=167 then 314 else if n=169 then 317 else if n=240 then 348 else 363
 t:=fun n=>if n=0 then 0 else if n=3 then 3 else if n=4 then 4 else if n=5 then 5 else if n=9 then 9 else if n=20 then 20 else if n=37 then 266 else if n=70 then 343 else
  if n=72 then 345 else if n=75 then 320 else if n=80 then 348 else 389
 g:=fun n=>n
theorem Tryz.lays166:Lays.n166 aC Tryz.bldRen:={
 mixed:=by kernel_rfl
 f166:=by kernel_rfl
 f240:=by kernel_rfl
 f276:=by kernel_rfl
 t0:=by kernel_rfl
 a0:=fun _=>by kernel_rfl
 z0:=fun _=>by kernel_rfl
 v0:=fun _=>by kernel_rfl
 t3:=by kernel_rfl
 a3:=fun _=>by kernel_rfl
 z3:=fun _=>by kernel_rfl
 v3:=fun _=>by kernel_rfl
 t4:=by kernel_rfl
 a4:=fun _=>by kernel_rfl
 z4:=fun _=>by kernel_rfl
 v4:=fun _=>by kernel_rfl
 t9:=by kernel_rfl
 a9:=fun _=>by kernel_rfl
 z9:=fun _=>by kernel_rfl
 v9:=fun _=>by kernel_rfl
 t20:=by kernel_rfl
 a20:=fun _=>by kernel_rfl
 z20:=fun _=>by kernel_rfl
 v20:=fun _=>by kernel_rfl
 t37:=by kernel_rfl
 a37:=fun _=>by kernel_rfl
 z37:=fun _=>by kernel_rfl
 v37:=fun _=>by kernel_rfl
 t70:=by kernel_rfl
 a70:=fun _=>by kernel_rfl
 z70:=fun _=>by kernel_rfl
 v70:=fun _=>by kernel_rfl
 t72:=by kernel_rfl
 a72:=fun _=>by kernel_rfl
 z72:=fun _=>by kernel_rfl
 v72:=fun _=>by kernel_rfl
 t75:=by kernel_rfl
 a75:=fun _=>by kernel_rfl
 z75:=fun _=>by kernel_rfl
 v75:=fun _=>by kernel_rfl
 t164:=by kernel_rfl
 a164:=fun _=>by kernel_rfl
 z164:=fun _=>by kernel_rfl
 v164:=fun _=>by kernel_rfl}
theorem Tryz.lays167:Lays.n167 aC Tryz.bldRen:={
 mixed:=by kernel_rfl
 f167:=by kernel_rfl
 f240:=by kernel_rfl
 f276:=by kernel_rfl
 t0:=by kernel_rfl
 a0:=fun _=>by kernel_rfl
 z0:=fun _=>by kernel_rfl
 v0:=fun _=>by kernel_rfl
 t4:=by kernel_rfl
 a4:=fun _=>by kernel_rfl
 z4:=fun _=>by kernel_rfl
 v4:=fun _=>by kernel_rfl
 t5:=by kernel_rfl
 a5:=fun _=>by kernel_rfl
 z5:=fun _=>by kernel_rfl
 v5:=fun _=>by kernel_rfl
 t9:=by kernel_rfl
 a9:=fun _=>by kernel_rfl
 z9:=fun _=>by kernel_rfl
 v9:=fun _=>by kernel_rfl
 t20:=by kernel_rfl
 a20:=fun _=>by kernel_rfl
 z20:=fun _=>by kernel_rfl
 v20:=fun _=>by kernel_rfl
 t37:=by kernel_rfl
 a37:=fun _=>by kernel_rfl
 z37:=fun _=>by kernel_rfl
 v37:=fun _=>by kernel_rfl
 t70:=by kernel_rfl
 a70:=fun _=>by kernel_rfl
 z70:=fun _=>by kernel_rfl
 v70:=fun _=>by kernel_rfl
 t72:=by kernel_rfl
 a72:=fun _=>by kernel_rfl
 z72:=fun _=>by kernel_rfl
 v72:=fun _=>by kernel_rfl
 t75:=by kernel_rfl
 a75:=fun _=>by kernel_rfl
 z75:=fun _=>by kernel_rfl
 v75:=fun _=>by kernel_rfl
 t164:=by kernel_rfl
 a164:=fun _=>by kernel_rfl
 z164:=fun _=>by kernel_rfl
 v164:=fun _=>by kernel_rfl}
def Tryz.lays169_ren:iK:=⟨fun |169=>317|n=>n,fun |70=>343|9=>9|0=>0|72=>345|37=>266|127=>375|3=>3|5=>5|n=>n,fun |n=>n⟩
theorem Tryz.lays169:Go.Proofs.Lays.n169 aC Tryz.lays169_ren:={
 mixed:=by kernel_rfl
 f169:=func317.trans (congrArg some (by kernel_rfl))
 t0:=underlying0
 a0:=isAgg0
 z0:=sizeOf0
 v0:=zeroValue0
 t3:=underlying3
 a3:=isAgg3
 z3:=sizeOf3
 v3:=zeroValue3
 t9:=underlying9
 a9:=isAgg9
 z9:=sizeOf9
 v9:=zeroValue9
 t37:=underlying266
 a37:=isAgg266
 z37:=sizeOf266
 v37:=zeroValue266
 t70:=underlying343
 a70:=isAgg343
 z70:=sizeOf343
 v70:=zeroValue343
 t72:=underlying345
 a72:=isAgg345
 z72:=sizeOf345
 v72:=zeroValue345
 t127:=underlying375
 a127:=isAgg375
 z127:=sizeOf375
 v127:=zeroValue375}
theorem Tryz.Builder_Extra_w:lz aC Tryz.bldRen:={
 sizeBuilder:=by kernel_rfl
 liesBuilder:=by kernel_rfl
 t5:=nN
 a5:=wO
 z5:=uR
 v5:=oK
 infoByte:=by kernel_rfl
 cellsByte:=by kernel_rfl
 sizeByte:=by kernel_rfl
 neB5:=by decide}
theorem Tryz.Builder_Extra_169:lz aC Tryz.lays169_ren:={
 sizeBuilder:=by kernel_rfl
 liesBuilder:=by kernel_rfl
 t5:=nN
 a5:=wO
 z5:=uR
 v5:=oK
 infoByte:=by kernel_rfl
 cellsByte:=by kernel_rfl
 sizeByte:=by kernel_rfl
 neB5:=by decide}
open Go Go.RowKit Go.Shelf Go.Lib
def Gq(b:Nat)(l:List UInt8)(w:aF):Prop:=Lib.IsBuilderF 345 5 b b (Bi l) w
def iQ(b:Nat)(w w':aF):Prop:=Below b w w'∧Lib.OthersKept 5 (some b) w w'
theorem Gq.new(w:aF):Gq w.heap.size [] (w.alloc (aJ #[bA none,aB none 0 0] 345)):=
 Lib.IsBuilderF.of (Lib.fresh_isBuilder 345 5 w)
theorem Gq.alloc{b:Nat}{l:List UInt8}{w:aF}(h:Gq b l w)(o:Obj):Gq b l (w.alloc o):=Lib.IsBuilderF.alloc h o
theorem Nl(b:Nat)(l:List UInt8)(c:UInt8)(w:aF)(h:Gq b l w)(hl:l.length+1≤140737488355328)(hb:b≤w.heap.size):
 aW aC 314 #[bA (some ⟨b,0,none⟩),aD .u8 (c.toNat:Int)] w fun e w'=>e=aQ .nilIface∧Gq b (l++[c]) w'∧iQ b w w':=by
 refine(Any.Builder_WriteByte_k Tryz.lays167 Tryz.Builder_Extra_w b b _ _ w h (by rw[Ze];exact hl) hb).mono ?_;rintro e w'⟨rfl,h1,h2,h3⟩;refine⟨rfl,?_,h2,h3⟩;unfold Gq;rw[Zf];exact Or.inr h1
theorem lZ(b:Nat)(l:List UInt8)(s:ByteArray)(w:aF)(h:Gq b l w)(hl:l.length+s.size≤140737488355328)(hb:b≤w.heap.size):
 aW aC 315 #[bA (some ⟨b,0,none⟩),aA s] w fun e w'=>e=aQ (cC #[aD aE s.size,.nilIface])∧Gq b (l++s.data.toList) w'∧iQ b w w':=by
 refine(Any.Builder_WriteString_k Tryz.lays166 Tryz.Builder_Extra_w b b _ s w h (by rw[Ze];exact hl) hb).mono ?_;rintro e w'⟨rfl,h1,h2,h3⟩;refine⟨rfl,?_,h2,h3⟩;unfold Gq;rw[Zf];exact Or.inr h1
theorem Lv(b:Nat)(l:List UInt8)(w:aF)(h:Gq b l w)(hb:b≤w.heap.size):
 aW aC 317 #[bA (some ⟨b,0,none⟩)] w fun e w'=>e=aQ (aA (bs l))∧iQ b w w':=by
 refine(Any.Builder_String_any_k Tryz.lays169 Tryz.Builder_Extra_169 b b l w h hb).mono ?_;rintro e w'⟨rfl,h1,h2,h3⟩;exact⟨rfl,h2,h3⟩
theorem iQ.trans{b:Nat}{A B C:aF}(h:iQ b A B)(k:iQ b B C):iQ b A C:=⟨h.1.trans k.1,h.2.trans k.2⟩
theorem iQ.of_below{b:Nat}{A B:aF}(h:Below A.heap.size A B)(hb:b≤A.heap.size):iQ b A B:=
 ⟨h.mono hb,fun k o hk _ _=>(h.block k (Array.getElem?_eq_some_iff.1 hk).1).trans hk⟩
theorem Gq.kept{b:Nat}{l:List UInt8}{A C:aF}(h:Gq b l A)(hB:Below A.heap.size A C):Gq b l C:=by
 have one:∀p,Ev 345 5 b b p (Bi l) A→Ev 345 5 b b p (Bi l) C:=by
  rintro p⟨h1,v,h2,⟨h3,h4⟩,h5⟩;refine⟨h1,v,(hB.block b (Array.getElem?_eq_some_iff.1 h2).1).trans h2,⟨h3,?_⟩,h5⟩;rcases h4 with h4|⟨g,cap,yU,fz,hv,hg,hh,r⟩
  ·exact .inl h4
  ·exact .inr ⟨g,cap,yU,fz,hv,hg,(hB.block g (Array.getElem?_eq_some_iff.1 hh).1).trans hh,r⟩
 exact h.elim (fun x=>.inl (one _ x)) (fun x=>.inr (one _ x))
end
section
open Go Go.RowKit Go.Shelf Go.Lib
section
attribute[local go_sem] dW
theorem Lw(b:Bool)(v:aS)(w:aF)(h:tY w v PB 0):
 aW aC 285 #[cN #[aN b,v]] w (Rt (aA (bs [48])) w):=by
 obtain⟨a,n,cap,rfl,h1,-⟩:=h;rw[eY]at h1;obtain rfl:n=0:=h1.symm;refine dE func285 rfl ?_;simp only[ntmps285,bW,bF,bY,cW,cX,bR,bS,cD,bU,cL,bZ];go_wp2;exact⟨_,iB MP _ _ _,rfl,(aH _ _).alloc (aG _) _⟩
theorem SX(xs:List Nat)(hx:∀x∈xs,x<PB)(j:Nat):(yC xs j).length≤9*(xs.length-j):=by
 unfold yC;split
 ·rw[cS _ _ (by omega)];have h:=yS (by decide:1≤PB) (xs.drop j) (fun x hm=>hx x (List.mem_of_mem_drop hm));rw[List.length_drop]at h;rw[Nat.pow_mul];exact h
 ·simp
theorem iQ.sameAt{B Bs len:Nat}{a:Option cT}{W V:aF}{sl:aS}(h:iQ B W V)(hb:bT W Bs #[sl] 194)(jC:Bs≠B)(ha:∀p,a=some p→0<len→p.block<B):cY (lN Bs a len) W V:=by
 rintro k (rfl|⟨h0,p,rfl,rfl⟩)
 ·exact(h.2 _ _ hb (by simp;omega) (by intro c fz e;cases e)).trans hb.symm
 ·exact h.1.block p.block (ha p rfl h0)
theorem iQ.from{B n:Nat}{W V:aF}(h:iQ B W V)(hs:W.heap.size≤V.heap.size)(hn:B<n):gP n W V:=
 ⟨hs,fun k o hk ho hc=>h.2 k o ho (by simp;omega) (by rintro c fz rfl;simp[zk]at hc)⟩
theorem iQ.blk{B b:Nat}{W V:aF}{cs:Array aS}{T:eC}(h:iQ B W V)(hb:bT W b cs T)(jC:b≠B)(hT:T≠5):bT V b cs T:=
 h.2 _ _ hb (by simp;omega) (by intro c fz e;cases e;exact hT rfl)
theorem Gq.own{W W':aF}{b:Nat}{l:List UInt8}{lM:Option Nat}(h:Gq b l W)(hg:W.grownBy W' lM)(hr:∀r,lM=some r→∃o:Obj,W.heap[r]? =some o∧o.isCells=false):Gq b l W':=by
 have same:∀(g:Nat)(c:Array aS)(T:eC)(fz:Nat×Nat),W.heap[g]? =some (aJ c T fz)→W'.heap[g]? =some (aJ c T fz):=by
  intro g c T fz hh;refine(hg.block g (Array.getElem?_eq_some_iff.1 hh).1 ?_).trans hh;intro e;obtain⟨o,ho,hc⟩:=hr g e.symm;rw[hh]at ho;cases ho;simp[zk]at hc
 have one:∀p,Ev 345 5 b b p (Bi l) W→Ev 345 5 b b p (Bi l) W':=by
  rintro p⟨h1,v,h2,⟨h3,h4⟩,h5⟩;refine⟨h1,v,same _ _ _ _ h2,⟨h3,?_⟩,h5⟩;rcases h4 with h4|⟨g,cap,yU,fz,hv,hg,hh,r⟩
  ·exact .inl h4
  ·exact .inr ⟨g,cap,yU,fz,hv,hg,same _ _ _ _ hh,r⟩
 exact h.elim (fun x=>.inl (one _ x)) (fun x=>.inr (one _ x))
theorem iQ.size{B:Nat}{W V:aF}(h:iQ B W V):W.heap.size≤V.heap.size:=h.1.size
theorem Nn(b:Bool)(a:Option cT)(n cap N:Nat)(w:aF)(hE:iM w)(hN:N≠0)(hl:(cQ PB N).length=n)(hn:n≤1000)(hc:Rd w a (cQ PB N)):
 aW aC 285 #[cN #[aN b,aB a n cap]] w (Rt (aA (bs (cM (gV b N)))) w):=by
 have PQ:n≠0:=by rintro rfl;exact hN ((iO dB).1 (fW hl))
 have hb:((n:Int)==0)=false:=by simp;omega
 have Na:=kH dB N
 have Sz:=EA dB N (fun e=>hN ((iO dB).1 e))
 have Np:=fS dB N
 obtain⟨xs,hxs⟩:∃xs,cQ PB N=xs:=⟨_,rfl⟩
 rw[hxs]at hl hc Na Sz Np
 have Cw:∀p,a=some p→0<n→p.block<w.heap.size:=by
  rintro p rfl h0
  obtain⟨b',o',e,rP⟩:=hc 0 (by omega)
  injection e with e;subst e
  exact bG w _ rP
 have Hrow:=zq Cw;have Hc:=zq hc;have Hl:=zq hl;have HX:=zq (And.intro Na (And.intro Sz Np));have HE:=zq hE
 clear Cw hc hl Na Sz Np hE hxs
 have HZ:bH (bT (w.alloc (aJ #[aN b,aB a n cap] 284)) w.heap.size #[aN b,aB a n cap] 284∧Gq (w.heap.size+1) [] ((w.alloc (aJ #[aN b,aB a n cap] 284)).alloc (aJ #[bA none,aB none 0 0] 345))):=
  ⟨bT.new _ _ _,by have:=Gq.new (w.alloc (aJ #[aN b,aB a n cap] 284));rwa[bB]at this⟩
 refine dE func285 rfl ?_
 simp only[ntmps285,bW,bF,bY,cW,cX,bR,bS,cD,bU,cL,bZ]
 cases b with
 |false=>
  go_wp2_with fail
  obtain⟨pre,Lx⟩:∃pre:List UInt8,[]=pre:=⟨_,rfl⟩
  have HT:bH (pre++dN N=cM (gV false N)):=by show _=_;rw[←Lx,show gV false N=(N:Int)from rfl,mE];rfl
  have hp1:pre.length≤1:=by rw[←Lx];decide
  obtain⟨W1,vQ⟩:∃W1,(w.alloc (aJ #[aN false,aB a n cap] 284)).alloc (aJ #[bA none,aB none 0 0] 345)=W1:=⟨_,rfl⟩
  have z1:bT W1 w.heap.size #[aN false,aB a n cap] 284:=by rw[←vQ];exact HZ.out.1.alloc _
  have z2:Gq (w.heap.size+1) pre W1:=by rw[←vQ,←Lx];exact HZ.out.2
  have z3:Below w.heap.size w W1:=by rw[←vQ];exact((aH _ w).alloc (aG _) _).alloc (by simp) _
  have z4:w.heap.size+2≤W1.heap.size:=by rw[←vQ];simp
  rw[vQ]
  clear vQ Lx HZ
  have k1:=z1.cell 1
  simp only[aL,aI,bM]at k1
  obtain⟨B,hB⟩:∃B,w.heap.size+1=B:=⟨_,rfl⟩
  have hBw:w.heap.size<B:=by omega
  have hBi:B≤w.heap.size+1:=by omega
  have Z:=zq (And.intro z1 (And.intro z2 z3))
  clear z1 z2 z3
  refine(callsIn_wide.1 (FX dG 9 trivial rfl _ _ _ _)).mono ?_
  rintro e w'⟨rfl,rfl⟩
  obtain⟨G1,hG1⟩:∃G1,W1.heap.size=G1:=⟨_,rfl⟩
  obtain⟨W0,eQ⟩:∃W0,W1.alloc (aJ #[aB a n cap] 194)=W0:=⟨_,rfl⟩
  have e0:bT W0 w.heap.size #[aN false,aB a n cap] 284:=by rw[←eQ];exact Z.out.1.alloc _
  have e1:bT W0 G1 #[aB a n cap] 194:=by rw[←eQ,←hG1];exact bT.new _ _ _
  have e2:Gq B pre W0:=by rw[←eQ,←hB];exact Z.out.2.1.alloc _
  have e3:Below w.heap.size w W0:=by rw[←eQ];exact Z.out.2.2.alloc (by omega) _
  have hs0:W0.heap.size=G1+1:=by rw[←eQ,←hG1];simp
  have hG1B:B<G1:=by omega
  have Ln:=zq (Hc.out.below e3)
  have HK:=zq eQ
  have HEE:=zq (And.intro e0 (And.intro e1 (And.intro e2 e3)))
  have HB:=zq hB
  rw[hG1]
  clear Z k1 eQ e0 e1 e2 e3
  go_wp2_with fail
  rw[HK.out]
  obtain⟨e0,e1,e2,e3⟩:=HEE.out
  refine Bn (gf:=313) (lb:= #[bA (some ⟨G1,0,none⟩)]) rfl (nH Dd (by kernel_rfl) rfl)
   (FV dG 8 trivial rfl (by decide) G1 a n cap xs Hl.out (by omega) W0 (e1.cell 0) Ln.out) cY.trans (cY.putObj (Cu Ln.out Hl.out (by omega))) (fun _=>rfl)
   (fun k W=>(bT W w.heap.size #[aN false,aB a n cap] 284∧bT W G1 #[aB a n cap] 194∧Gq B (pre++yC xs (n-k)) W)∧Below w.heap.size w W)
   (fun _ _ _=>False)
   (cU (Own.from (fun s A C lM hs hg hr=>⟨hs.1.own hg hr,hs.2.1.own hg hr,hs.2.2.own hg hr⟩) _) (oA (aG _) (by omega)))
   (fun c _ _ _ _ hs _ _=>hs)
   ⟨⟨e0,e1,by rw[Cm,Gj xs n (by rw[Hl.out];exact aG _),pP];exact e2⟩,e3⟩
   ?Jp ?assign ?body ?done ?stop
  case assign=>
   intro l k W K hK
   gi_wp2
   exact hK
  case body=>
   rintro l k W hk⟨⟨b0,b1,b2⟩,hBW⟩
   obtain⟨j,hj⟩:∃j,n-1-k=j:=⟨_,rfl⟩
   obtain⟨X,hX⟩:∃X,xs.getD j 0=X:=⟨_,rfl⟩
   rw[KN Hl.out hj,KO Hl.out hj hX]
   have VX:X<PB:=by rw[←hX];exact iG HX.out.1 (by decide) j
   have hX9':X≤999999999:=by unfold PB at VX;omega
   obtain⟨S,hS⟩:∃S,bs (cM (X:Int))=S:=⟨_,rfl⟩
   have hSd:S.data.toList=dN X:=by rw[←hS,bP,mE]
   have hSs:S.size≤9:=by
    have:S.size=S.data.toList.length:=rfl
    rw[this,hSd,cS _ _ (by decide)];exact VX
   have HIt:=zq (gW (X:Int) W (HE.out.below hBW) (by omega) (by omega))
   have wG:(pre++yC xs (n-k)).length≤10000:=by
    have:=SX xs HX.out.1 (n-k)
    rw[cP,Hl.out]at *
    omega
   have HS:=zq hS;have Wg:=zq hSd;have Hj:=zq hj;have HXj:=zq hX;have HX9:=zq VX
   have hsW:W.heap.size≤W.heap.size:=aG _
   have hBW1:B<W.heap.size:=by have:=b1.lt;omega
   have HF:bH (∀(V:aF)(l':List UInt8),iQ B W V→Gq B l' V→l'=pre++yC xs (n-(k+1))→gP W0.heap.size W V∧cY (lN G1 a n) W V∧
    (bT V w.heap.size #[aN false,aB a n cap] 284∧bT V G1 #[aB a n cap] 194∧Gq B (pre++yC xs (n-(k+1))) V)∧Below w.heap.size w V):=by
    rintro V l' Ac hd rfl
    exact⟨Ac.from Ac.size (by omega),Ac.sameAt b1 (by omega) (fun p hp h0=>by have:=Hrow.out p hp h0;omega),⟨Ac.blk b0 (by omega) (by decide),Ac.blk b1 (by omega) (by decide),hd⟩,hBW.trans (Ac.1.mono (by omega))⟩
   have HP:=zq (And.intro b0 (And.intro b1 (And.intro b2 hBW)))
   clear hS hSd hj hX VX b0 b1 b2 hBW
   gi_wp2_with fail
   refine⟨trivial,(Calls.round HIt.out _ _).mono ?_⟩
   rintro e W2⟨rfl,hb2⟩
   rw[HS.out]
   have Z4:=iQ.of_below hb2 (fZ hBW1)
   have c0:=HP.out.1.below hb2 HP.out.1.lt
   have c2:=HP.out.2.2.1.kept hb2
   have FA:W.heap.size≤W2.heap.size:=hb2.size
   have k1:=c0.cell 1
   simp only[aL,aI,bM]at k1
   by_cases hk0:k=0
   ·have hjl:¬((j:Int)<(n:Int)-1):=by have:=Hj.out;omega
    have HWs:=zq (lZ B _ S W2 c2 (by omega) (by omega))
    have Wh:=zq Z4
    clear hb2 c0 c2 Z4
    gi_wp2_with fail
    refine⟨trivial,(Calls.round HWs.out _ _).mono ?_⟩
    rintro e W3⟨rfl,d2,hk3⟩
    have Ac:=Wh.out.trans hk3
    gi_wp2
    refine HF.out _ _ Ac d2 ?_
    subst hk0
    rw[Wg.out,Cm,Gj xs n (by rw[Hl.out];exact aG _),pP,show n-(0+1)=j by have:=Hj.out;omega,Lh xs j (by rw[Hl.out];have:=Hj.out;omega),HXj.out]
   ·have hjl:(j:Int)<(n:Int)-1:=by have:=Hj.out;omega
    obtain⟨c,hc⟩:∃c,9-S.size=c:=⟨_,rfl⟩
    have hci:(9:Int)-(S.size:Int)=(c:Int):=by omega
    have hc9:c≤9:=by omega
    have jp:=zq (KQ {data:= #[48]} c W2 (by omega) (by show 1*c≤_;omega))
    obtain⟨R,hR⟩:∃R,bs (repeatL ({data:= #[48]}:ByteArray).data.toList c)=R:=⟨_,rfl⟩
    have hRd:R.data.toList=bV c 48:=by rw[←hR,bP];exact Gh c
    have hRs:R.size=c:=by
     have:R.size=R.data.toList.length:=rfl
     rw[this,hRd,vC]
    have HR:=zq hR;have HRd:=zq hRd;have HRs:=zq hRs;have HC:=zq hc
    have Wh:=zq Z4;have Hc2:=zq c2
    clear hb2 c0 c2 Z4 hR hRd hRs hc
    gi_wp2_with fail
    refine⟨trivial,(Calls.round jp.out _ _).mono ?_⟩
    rintro e W3⟨rfl,hb3⟩
    rw[HR.out]
    have kk3:=iQ.of_below hb3 (show B≤W2.heap.size by omega)
    have pv:W2.heap.size≤W3.heap.size:=hb3.size
    have qh:=zq (lZ B _ R W3 (Hc2.out.kept hb3) (by rw[HRs.out];omega) (by omega))
    have Hkk3:=zq kk3
    clear kk3 hb3 jp
    gi_wp2_with fail
    refine⟨trivial,(Calls.round qh.out _ _).mono ?_⟩
    rintro e W4⟨rfl,d4,Yo⟩
    have Vg:=Yo.size
    have kK:(pre++yC xs (n-k)++R.data.toList).length≤10009:=by rw[cP,HRd.out,vC];omega
    have Wi:=zq (lZ B _ S W4 d4 (by omega) (by omega))
    have Hk4:=zq Yo
    clear d4 Yo qh
    gi_wp2_with fail
    refine⟨trivial,(Calls.round Wi.out _ _).mono ?_⟩
    rintro e W5⟨rfl,d5,hk5⟩
    have Ac:=((Wh.out.trans Hkk3.out).trans Hk4.out).trans hk5
    gi_wp2
    refine HF.out _ _ Ac d5 ?_
    have R7:=N8 xs j HX.out.1 (by rw[Hl.out];have:=Hj.out;omega) HX.out.2.1
    rw[HRd.out,Wg.out,show n-(k+1)=j by have:=Hj.out;omega,show n-k=j+1 by have:=Hj.out;omega,R7,HXj.out]
    unfold Gi
    have hSl:(dN X).length=S.size:=by rw[←Wg.out];rfl
    rw[hSl,HC.out]
    simp only[B7]
  case done=>
   rintro D W hD⟨⟨b0,b1,b2⟩,hBW⟩hK
   have HS:=zq (Lv B _ W b2 (by have:=b1.lt;omega))
   rw[Vp,SA xs (by intro e;have:=Hl.out;rw[e]at this;exact PQ this.symm),HX.out.2.2,HT.out]at HS
   have HBW:=zq hBW
   have hDs:D≠B:=by have:=hs0;omega
   have hsB:B≤W.heap.size:=by have:=b1.lt;omega
   have HK':=zq hK
   clear b0 b1 b2 hBW hK
   go_wp2_with fail
   refine HS.out.mono ?_
   rintro e W2⟨rfl,hk⟩
   have uK:W2.heap[D]? =some (.deferred (some [])):=hk.2 D _ HK'.out (by simp;omega) (by intro c fz e;cases e)
   have fR:bH (Below w.heap.size w W2):=HBW.out.trans (hk.1.mono (by omega))
   clear hk
   go_wp2
   refine⟨by simp,.inl ⟨_,_,rfl,fH uK,?_⟩⟩
   refine⟨_,iB MP _ _ _,rfl,?_⟩
   exact fR.out.trans (D3 (w:=w) (aG _) _ D _ _ (by omega) uK rfl rfl)
  case stop=>
   intro D c k W _ _ h _
   exact h.elim
 |true=>
  go_wp2_with fail
  refine(Nl (w.heap.size+1) [] 45 _ HZ.out.2 (by decide) (by simp)).mono ?_
  rintro e W1⟨rfl,z2,hk⟩
  obtain⟨pre,Lx⟩:∃pre:List UInt8,([]++[45]:List UInt8)=pre:=⟨_,rfl⟩
  have HT:bH (pre++dN N=cM (gV true N)):=by
   show _=_
   rw[←Lx,show gV true N= -(N:Int)from rfl,Ag (by omega),Int.natAbs_neg];rfl
  have hp1:pre.length≤1:=by rw[←Lx];decide
  rw[Lx]at z2
  have z1:bT W1 w.heap.size #[aN true,aB a n cap] 284:=(HZ.out.1.alloc _).below hk.1 (by omega)
  have z3:Below w.heap.size w W1:=(((aH _ w).alloc (aG _) _).alloc (by simp) _).trans (hk.1.mono (by omega))
  have z4:w.heap.size+2≤W1.heap.size:=by have:=hk.1.size;simpa using this
  clear Lx hk HZ
  have k1:=z1.cell 1
  simp only[aL,aI,bM]at k1
  obtain⟨B,hB⟩:∃B,w.heap.size+1=B:=⟨_,rfl⟩
  have hBw:w.heap.size<B:=by omega
  have hBi:B≤w.heap.size+1:=by omega
  have Z:=zq (And.intro z1 (And.intro z2 z3))
  clear z1 z2 z3
  go_wp2_with fail
  refine(callsIn_wide.1 (FX dG 9 trivial rfl _ _ _ _)).mono ?_
  rintro e w'⟨rfl,rfl⟩
  obtain⟨G1,hG1⟩:∃G1,W1.heap.size=G1:=⟨_,rfl⟩
  obtain⟨W0,eQ⟩:∃W0,W1.alloc (aJ #[aB a n cap] 194)=W0:=⟨_,rfl⟩
  have e0:bT W0 w.heap.size #[aN true,aB a n cap] 284:=by rw[←eQ];exact Z.out.1.alloc _
  have e1:bT W0 G1 #[aB a n cap] 194:=by rw[←eQ,←hG1];exact bT.new _ _ _
  have e2:Gq B pre W0:=by rw[←eQ,←hB];exact Z.out.2.1.alloc _
  have e3:Below w.heap.size w W0:=by rw[←eQ];exact Z.out.2.2.alloc (by omega) _
  have hs0:W0.heap.size=G1+1:=by rw[←eQ,←hG1];simp
  have hG1B:B<G1:=by omega
  have Ln:=zq (Hc.out.below e3)
  have HK:=zq eQ
  have HEE:=zq (And.intro e0 (And.intro e1 (And.intro e2 e3)))
  have HB:=zq hB
  rw[hG1]
  clear Z k1 eQ e0 e1 e2 e3
  go_wp2_with fail
  rw[HK.out]
  obtain⟨e0,e1,e2,e3⟩:=HEE.out
  refine Bn (gf:=313) (lb:= #[bA (some ⟨G1,0,none⟩)]) rfl (nH Dd (by kernel_rfl) rfl)
   (FV dG 8 trivial rfl (by decide) G1 a n cap xs Hl.out (by omega) W0 (e1.cell 0) Ln.out) cY.trans (cY.putObj (Cu Ln.out Hl.out (by omega))) (fun _=>rfl)
   (fun k W=>(bT W w.heap.size #[aN true,aB a n cap] 284∧bT W G1 #[aB a n cap] 194∧Gq B (pre++yC xs (n-k)) W)∧Below w.heap.size w W)
   (fun _ _ _=>False)
   (cU (Own.from (fun s A C lM hs hg hr=>⟨hs.1.own hg hr,hs.2.1.own hg hr,hs.2.2.own hg hr⟩) _) (oA (aG _) (by omega)))
   (fun c _ _ _ _ hs _ _=>hs)
   ⟨⟨e0,e1,by rw[Cm,Gj xs n (by rw[Hl.out];exact aG _),pP];exact e2⟩,e3⟩
   ?frm2 ?assign ?body ?done ?stop
  case assign=>
   intro l k W K hK
   gi_wp2
   exact hK
  case body=>
   rintro l k W hk⟨⟨b0,b1,b2⟩,hBW⟩
   obtain⟨j,hj⟩:∃j,n-1-k=j:=⟨_,rfl⟩
   obtain⟨X,hX⟩:∃X,xs.getD j 0=X:=⟨_,rfl⟩
   rw[KN Hl.out hj,KO Hl.out hj hX]
   have VX:X<PB:=by rw[←hX];exact iG HX.out.1 (by decide) j
   have hX9':X≤999999999:=by unfold PB at VX;omega
   obtain⟨S,hS⟩:∃S,bs (cM (X:Int))=S:=⟨_,rfl⟩
   have hSd:S.data.toList=dN X:=by rw[←hS,bP,mE]
   have hSs:S.size≤9:=by
    have:S.size=S.data.toList.length:=rfl
    rw[this,hSd,cS _ _ (by decide)];exact VX
   have HIt:=zq (gW (X:Int) W (HE.out.below hBW) (by omega) (by omega))
   have wG:(pre++yC xs (n-k)).length≤10000:=by
    have:=SX xs HX.out.1 (n-k)
    rw[cP,Hl.out]at *
    omega
   have HS:=zq hS;have Wg:=zq hSd;have Hj:=zq hj;have HXj:=zq hX;have HX9:=zq VX
   have hsW:W.heap.size≤W.heap.size:=aG _
   have hBW1:B<W.heap.size:=by have:=b1.lt;omega
   have HF:bH (∀(V:aF)(l':List UInt8),iQ B W V→Gq B l' V→l'=pre++yC xs (n-(k+1))→gP W0.heap.size W V∧cY (lN G1 a n) W V∧
    (bT V w.heap.size #[aN true,aB a n cap] 284∧bT V G1 #[aB a n cap] 194∧Gq B (pre++yC xs (n-(k+1))) V)∧Below w.heap.size w V):=by
    rintro V l' Ac hd rfl
    exact⟨Ac.from Ac.size (by omega),Ac.sameAt b1 (by omega) (fun p hp h0=>by have:=Hrow.out p hp h0;omega),⟨Ac.blk b0 (by omega) (by decide),Ac.blk b1 (by omega) (by decide),hd⟩,hBW.trans (Ac.1.mono (by omega))⟩
   have HP:=zq (And.intro b0 (And.intro b1 (And.intro b2 hBW)))
   clear hS hSd hj hX VX b0 b1 b2 hBW
   gi_wp2_with fail
   refine⟨trivial,(Calls.round HIt.out _ _).mono ?_⟩
   rintro e W2⟨rfl,hb2⟩
   rw[HS.out]
   have Z4:=iQ.of_below hb2 (fZ hBW1)
   have c0:=HP.out.1.below hb2 HP.out.1.lt
   have c2:=HP.out.2.2.1.kept hb2
   have FA:W.heap.size≤W2.heap.size:=hb2.size
   have k1:=c0.cell 1
   simp only[aL,aI,bM]at k1
   by_cases hk0:k=0
   ·have hjl:¬((j:Int)<(n:Int)-1):=by have:=Hj.out;omega
    have HWs:=zq (lZ B _ S W2 c2 (by omega) (by omega))
    have Wh:=zq Z4
    clear hb2 c0 c2 Z4
    gi_wp2_with fail
    refine⟨trivial,(Calls.round HWs.out _ _).mono ?_⟩
    rintro e W3⟨rfl,d2,hk3⟩
    have Ac:=Wh.out.trans hk3
    gi_wp2
    refine HF.out _ _ Ac d2 ?_
    subst hk0
    rw[Wg.out,Cm,Gj xs n (by rw[Hl.out];exact aG _),pP,show n-(0+1)=j by have:=Hj.out;omega,Lh xs j (by rw[Hl.out];have:=Hj.out;omega),HXj.out]
   ·have hjl:(j:Int)<(n:Int)-1:=by have:=Hj.out;omega
    obtain⟨c,hc⟩:∃c,9-S.size=c:=⟨_,rfl⟩
    have hci:(9:Int)-(S.size:Int)=(c:Int):=by omega
    have hc9:c≤9:=by omega
    have jp:=zq (KQ {data:= #[48]} c W2 (by omega) (by show 1*c≤_;omega))
    obtain⟨R,hR⟩:∃R,bs (repeatL ({data:= #[48]}:ByteArray).data.toList c)=R:=⟨_,rfl⟩
    have hRd:R.data.toList=bV c 48:=by rw[←hR,bP];exact Gh c
    have hRs:R.size=c:=by
     have:R.size=R.data.toList.length:=rfl
     rw[this,hRd,vC]
    have HR:=zq hR;have HRd:=zq hRd;have HRs:=zq hRs;have HC:=zq hc
    have Wh:=zq Z4;have Hc2:=zq c2
    clear hb2 c0 c2 Z4 hR hRd hRs hc
    gi_wp2_with fail
    refine⟨trivial,(Calls.round jp.out _ _).mono ?_⟩
    rintro e W3⟨rfl,hb3⟩
    rw[HR.out]
    have kk3:=iQ.of_below hb3 (show B≤W2.heap.size by omega)
    have pv:W2.heap.size≤W3.heap.size:=hb3.size
    have qh:=zq (lZ B _ R W3 (Hc2.out.kept hb3) (by rw[HRs.out];omega) (by omega))
    have Hkk3:=zq kk3
    clear kk3 hb3 jp
    gi_wp2_with fail
    refine⟨trivial,(Calls.round qh.out _ _).mono ?_⟩
    rintro e W4⟨rfl,d4,Yo⟩
    have Vg:=Yo.size
    have kK:(pre++yC xs (n-k)++R.data.toList).length≤10009:=by rw[cP,HRd.out,vC];omega
    have Wi:=zq (lZ B _ S W4 d4 (by omega) (by omega))
    have Hk4:=zq Yo
    clear d4 Yo qh
    gi_wp2_with fail
    refine⟨trivial,(Calls.round Wi.out _ _).mono ?_⟩
    rintro e W5⟨rfl,d5,hk5⟩
    have Ac:=((Wh.out.trans Hkk3.out).trans Hk4.out).trans hk5
    gi_wp2
    refine HF.out _ _ Ac d5 ?_
    have R7:=N8 xs j HX.out.1 (by rw[Hl.out];have:=Hj.out;omega) HX.out.2.1
    rw[HRd.out,Wg.out,show n-(k+1)=j by have:=Hj.out;omega,show n-k=j+1 by have:=Hj.out;omega,R7,HXj.out]
    unfold Gi
    have hSl:(dN X).length=S.size:=by rw[←Wg.out];rfl
    rw[hSl,HC.out]
    simp only[B7]
  case done=>
   rintro D W hD⟨⟨b0,b1,b2⟩,hBW⟩hK
   have HS:=zq (Lv B _ W b2 (by have:=b1.lt;omega))
   rw[Vp,SA xs (by intro e;have:=Hl.out;rw[e]at this;exact PQ this.symm),HX.out.2.2,HT.out]at HS
   have HBW:=zq hBW
   have hDs:D≠B:=by have:=hs0;omega
   have hsB:B≤W.heap.size:=by have:=b1.lt;omega
   have HK':=zq hK
   clear b0 b1 b2 hBW hK
   go_wp2_with fail
   refine HS.out.mono ?_
   rintro e W2⟨rfl,hk⟩
   have uK:W2.heap[D]? =some (.deferred (some [])):=hk.2 D _ HK'.out (by simp;omega) (by intro c fz e;cases e)
   have fR:bH (Below w.heap.size w W2):=HBW.out.trans (hk.1.mono (by omega))
   clear hk
   go_wp2
   refine⟨by simp,.inl ⟨_,_,rfl,fH uK,?_⟩⟩
   refine⟨_,iB MP _ _ _,rfl,?_⟩
   exact fR.out.trans (D3 (w:=w) (aG _) _ D _ _ (by omega) uK rfl rfl)
  case stop=>
   intro D c k W _ _ h _
   exact h.elim
theorem Z5(b:Bool)(v:aS)(N:Nat)(w:aF)(hE:iM w)(h:tY w v PB N)(hn:(cQ PB N).length≤1000):
 aW aC 285 #[cN #[aN b,v]] w (Rt (aA (bs (cM (gV b N)))) w):=by
 by_cases hN:N=0
 ·subst hN;have:=Lw b v w h;have e:cM (gV b 0)=[48]:=by
   have e0:gV b 0=((0:Nat):Int):=by cases b<;>rfl
   rw[e0,mE,jO]
  rw[e];exact this
 ·obtain⟨a,n,cap,rfl,hl,h1,h2,h3,h4⟩:=h;exact Nn b a n cap N w hE hN hl (by omega) h4
theorem PB_pow(k:Nat):PB^k=10^(9*k):=by rw[Nat.pow_mul];rfl
theorem gZ(b:Bool)(v:aS)(N:Nat)(w:aF)(hE:iM w)(h:tY w v PB N)(hn:(cQ PB N).length≤1000):
 aW aC 226 #[cN #[aN b,v]] w (Rt (cC #[aA (bs (nL (gV b N)).1),aD aE (nL (gV b N)).2]) w):=by
 have Hw:=zq (fun(W:aF)(hb:Below w.heap.size w W)=>Z5 b v N W (hE.below hb) (h.below hb) hn);obtain⟨S,hS⟩:=nm (bs (cM (gV b N)));obtain⟨T,hT⟩:=nm (bs (mag (cM (gV b N))));have Htr:bH (∀W,aW aC 144 #[aA S,aA {data:= #[45]}] W fun e w'=>e=aQ (aA T)∧W=w'):=by
  intro W;have:=oU S {data:= #[45]} W;rw[←hT];rw[show trimPrefix S.data.toList ({data:= #[45]}:ByteArray).data.toList=mag (cM (gV b N)) by rw[←hS,bP];exact oW _]at this;exact this
 have hTs:T.size=(mag (cM (gV b N))).length:=by rw[←hT,cZ]
 have JW:bH ((T.size≤300→nL (gV b N)=(cM (gV b N),0))∧(¬T.size≤300→nL (gV b N)=([],4))):=by
  rw[hTs,nP,cS _ _ (by decide)];exact⟨fun h=>by rw[nL,ip h],fun h=>by rw[nL,iN h]⟩
 have HS:=zq hS;have hTb:T.size≤dL:=by
  rw[hTs,nP];have h1:(dN (gV b N).natAbs).length≤9000:=by
   rw[cS _ _ (by decide),uC];refine Nat.lt_of_lt_of_le (eG dB N) ?_;rw[PB_pow];exact mu _ 9000 (by omega)
  exact bE h1 (by decide)
 unfold dL at hTb;clear hS hT hTs h hn;by_cases ht:T.size≤300
 ·have hti:¬(300:Int)<(T.size:Int):=by omega
  have HR:=zq (JW.out.1 ht);clear JW ht;go_enter func226,ntmps226;go_wp2_with fail
  refine ka (Hw.out _ ((aH _ _).alloc (aG _) _)) fun w1 hb1=>?_;have hb1:Below w.heap.size w w1:=((aH _ _).alloc (aG _) _).trans (hb1.mono (by simp));rw[HS.out];go_wp2_with fail
  refine kr (Htr.out _) ?_;go_wp2;go_ret2;rw[HR.out];exact⟨by rw[←HS.out];rfl,hb1⟩
 ·have hti:(300:Int)<(T.size:Int):=by omega
  have HR:=zq (JW.out.2 ht);clear JW ht;go_enter func226,ntmps226;go_wp2_with fail
  refine ka (Hw.out _ ((aH _ _).alloc (aG _) _)) fun w1 hb1=>?_;have hb1:Below w.heap.size w w1:=((aH _ _).alloc (aG _) _).trans (hb1.mono (by simp));rw[HS.out];go_wp2_with fail
  refine kr (Htr.out _) ?_;go_wp2;go_ret2;rw[HR.out];exact⟨rfl,hb1⟩
end
end
section
open Go Go.RowKit
theorem rQ{s t:ByteArray}(h:fX s.data.toList t.data.toList=0):
 DJ s.data.toList=true∧DJ t.data.toList=true∧s.size≤3000∧t.size≤3000∧(cQ PB (num (mag s.data.toList))).length≤34∧(cQ PB (num (mag t.data.toList))).length≤34:=by
 obtain⟨k1,k2⟩:=Bm h;have q1:=KR k1;have q2:=KR k2;exact⟨(Ko k1).1,(Ko k2).1,by show s.data.toList.length≤3000;omega,by show t.data.toList.length≤3000;omega,NU dB (k:=9) (j:=34) rfl (by decide) k1,NU dB (k:=9) (j:=34) rfl (by decide) k2⟩
theorem int_Add(s t:ByteArray)(w:aF)(hE:iM w)(hs:s.size≤dL)(ht:t.size≤dL):
 aW aC 323 #[aA s,aA t] w (Rt (cC #[aA (bs (Sb s.data.toList t.data.toList).1),aD aE (Sb s.data.toList t.data.toList).2]) w):=by
 have hb:=sO s t w hs ht;have Hb:=zq hb;clear hb;by_cases h0:fX s.data.toList t.data.toList=0
 ·have hr:Sb s.data.toList t.data.toList=nL (fQ s.data.toList+fQ t.data.toList):=by rw[Sb,ip h0]
  rw[hr];rw[h0]at Hb;obtain⟨yF,zQ,vX,oL,l1,l2⟩:=rQ h0;have HE:=zq hE;clear hE hr h0;by_cases hl:s.size≤18∧t.size≤18
  ·have yB:=qK yF hl.1;have Ab:=qK zQ hl.2;have Yg:=zq (Pu (n:=fQ s.data.toList+fQ t.data.toList) (k:=19) (by omega) (by decide));have Hc:=zq (fun W=>wR s t W yF zQ hl.1 hl.2);clear yF zQ l1 l2;generalize fQ s.data.toList=x at *;generalize fQ t.data.toList=y at *;have hx: -1000000000000000000<x∧x<1000000000000000000:=by omega
   have hy: -1000000000000000000<y∧y<1000000000000000000:=by omega
   clear yB Ab;go_enter UO,QR;go_wp2_with fail
   refine ka Hb.out fun w1 hb1=>?_;go_wp2_with fail
   refine kc (Hc.out w1) hb1 fun w2 gJ=>?_;clear hb1;go_wp2_with fail
   refine ka (gW _ _ (HE.out.below gJ) (by omega) (by omega)) fun w3 hb3=>?_;have hB:=aR gJ hb3 gJ.size;go_wp2;go_ret2;rw[Yg.out];exact⟨rfl,hB⟩
  ·have Hc:=zq (fun W=>oX s t W hs ht (by omega));have r1:=zq (fun W=>nR s W vX yF);have r2:=zq (fun W=>nR t W oL zQ);rw[qJ s,qJ t];clear yF zQ hl;generalize num (mag s.data.toList)=M at *;generalize num (mag t.data.toList)=N at *;have Hl:=zq (And.intro l1 l2);clear l1 l2;go_enter UO,QR;go_wp2_with fail
   refine ka Hb.out fun w1 hb1=>?_;go_wp2_with fail
   refine kc (Hc.out w1) hb1 fun Vi mM=>?_;clear hb1;go_wp2_with fail
   refine(r1.out Vi).mono ?_;rintro e w2⟨v1,rfl,Du,hb2⟩;have gJ:=aR mM hb2 mM.size;clear mM hb2;go_wp2_with fail
   refine(r2.out w2).mono ?_;rintro e w3⟨v2,rfl,Ci,hb3⟩;have CI:=Du.below hb3;have kY:=aR gJ hb3 gJ.size;clear gJ hb3 Du;go_wp2_with fail
   refine(Kq _ _ v1 v2 M N w3 CI.inL Ci.inL (by have:=Hl.out.1;omega) (by have:=Hl.out.2;omega)).mono ?_;rintro e w4⟨c,v,K,rfl,hsg,ow,hb4⟩;have oI:=aR kY hb4 kY.size;have hK:(cQ PB K).length≤1000:=by
    have:=uE dB Hl.out.1 Hl.out.2 (EH hsg);omega
   have HK:=zq hK;have HS:=zq hsg;clear hK hsg kY hb4;go_wp2_with fail
   refine ka (gZ c v K w4 (HE.out.below oI) ow.inL HK.out) fun w5 hb5=>?_;have Ie:=aR oI hb5 oI.size;go_wp2;go_ret2;rw[←HS.out];exact⟨rfl,Ie⟩
 ·have hr:Sb s.data.toList t.data.toList=([],fX s.data.toList t.data.toList):=by rw[Sb,iN h0]
  rw[hr];clear hr;generalize fX s.data.toList t.data.toList=c at *;have h':(c !=0)=true:=by simp[h0]
  clear h0;go_enter UO,QR;go_wp2_with fail
  refine ka Hb.out fun w1 hb1=>?_;go_wp2;go_ret2;exact⟨rfl,hb1⟩
theorem int_Sub(s t:ByteArray)(w:aF)(hE:iM w)(hs:s.size≤dL)(ht:t.size≤dL):
 aW aC 327 #[aA s,aA t] w (Rt (cC #[aA (bs (VJ s.data.toList t.data.toList).1),aD aE (VJ s.data.toList t.data.toList).2]) w):=by
 have hb:=sO s t w hs ht;have Hb:=zq hb;clear hb;by_cases h0:fX s.data.toList t.data.toList=0
 ·have hr:VJ s.data.toList t.data.toList=nL (fQ s.data.toList-fQ t.data.toList):=by rw[VJ,ip h0]
  rw[hr];rw[h0]at Hb;obtain⟨yF,zQ,vX,oL,l1,l2⟩:=rQ h0;have HE:=zq hE;clear hE hr h0;by_cases hl:s.size≤18∧t.size≤18
  ·have yB:=qK yF hl.1;have Ab:=qK zQ hl.2;have Yg:=zq (Pu (n:=fQ s.data.toList-fQ t.data.toList) (k:=19) (by omega) (by decide));have Hc:=zq (fun W=>wR s t W yF zQ hl.1 hl.2);clear yF zQ l1 l2;generalize fQ s.data.toList=x at *;generalize fQ t.data.toList=y at *;have hx: -1000000000000000000<x∧x<1000000000000000000:=by omega
   have hy: -1000000000000000000<y∧y<1000000000000000000:=by omega
   clear yB Ab;go_enter UP,QU;go_wp2_with fail
   refine ka Hb.out fun w1 hb1=>?_;go_wp2_with fail
   refine kc (Hc.out w1) hb1 fun w2 gJ=>?_;clear hb1;go_wp2_with fail
   refine ka (gW _ _ (HE.out.below gJ) (by omega) (by omega)) fun w3 hb3=>?_;have hB:=aR gJ hb3 gJ.size;go_wp2;go_ret2;rw[Yg.out];exact⟨rfl,hB⟩
  ·have Hc:=zq (fun W=>oX s t W hs ht (by omega));have r1:=zq (fun W=>nR s W vX yF);have r2:=zq (fun W=>nR t W oL zQ);rw[qJ s,qJ t];clear yF zQ hl;generalize num (mag s.data.toList)=M at *;generalize num (mag t.data.toList)=N at *;generalize fT t=nt at *;have Hl:=zq (And.intro l1 l2);clear l1 l2;go_enter UP,QU;go_wp2_with fail
   refine ka Hb.out fun w1 hb1=>?_;go_wp2_with fail
   refine kc (Hc.out w1) hb1 fun Vi mM=>?_;clear hb1;go_wp2_with fail
   refine(r2.out Vi).mono ?_;rintro e w2⟨v2,rfl,Ci,hb2⟩;have gJ:=aR mM hb2 mM.size;clear mM hb2;obtain⟨g2,n2,c2,rfl,Ci⟩:=Ci;have IF:=zq Ci;clear Ci;go_wp2_with fail
   obtain⟨W3,Rw⟩:=nm (w2.alloc (aJ #[aN (!nt),aB (some ⟨g2,0,none⟩) n2 c2] 284));have y0:bT W3 w2.heap.size #[aN (!nt),aB (some ⟨g2,0,none⟩) n2 c2] 284:=by rw[←Rw];exact bT.new _ _ _
   have y1:tC W3 Vi.heap.size (aB (some ⟨g2,0,none⟩) n2 c2) PB N:=by rw[←Rw];exact⟨_,_,_,rfl,IF.out.alloc _⟩
   have y2:Below w.heap.size w W3:=by rw[←Rw];exact gJ.alloc gJ.size _
   have y3:w2.heap.size<W3.heap.size:=y0.lt;rw[Rw];have k0:=y0.ce 0;have k1:=y0.ce 1;have HY:=zq (And.intro y0 (And.intro y1 y2));clear Rw y0 y1 y2 gJ IF;refine Cx (by kernel_rfl) ?_;refine tI 0 rfl ?_;refine eI 1 [2] rfl (fun K hK=>?_) ?_
   ·go_simp;refine⟨trivial,callsIn_wide.2 ((r1.out _).mono ?_)⟩;rintro e W4⟨v1,rfl,Du,hb4⟩;have PR:Below W3.heap.size W3 W4:=lJ (cK (aH _ W3) 1) hb4;have Ci:=HY.out.2.1.below PR;have oI:=aR HY.out.2.2 PR HY.out.2.2.size;have z0:=HY.out.1.below PR HY.out.1.lt;have k0:=z0.ce 0;have k1:=z0.ce 1;clear hb4 PR z0;refine hK _ _ ?_;clear hK K;refine eI 2 [] rfl (fun K hK=>?_) ?_
    ·go_simp;refine hK _ _ ?_;clear hK K;refine eI 3 [] rfl (fun K hK=>?_) ?_
     ·go_simp;refine⟨trivial,callsIn_wide.2 ((Kq _ _ v1 _ M N W4 Du.inL Ci.inL (by have:=Hl.out.1;omega) (by have:=Hl.out.2;omega)).mono ?_)⟩;rintro e w5⟨c,v,K',rfl,hsg,ow,hb5⟩;have Ie:=aR oI hb5 oI.size;have hKl:(cQ PB K').length≤1000:=by
       have:=uE dB Hl.out.1 Hl.out.2 (EH hsg);omega
      have HKl:=zq hKl;have HS:bH (gV c K'=gV (fT s) M-gV nt N):=by
       show _=_;rw[hsg,Pr];omega
      clear hKl hsg oI hb5 Du Ci;refine hK _ _ ?_;clear hK K;refine eI 4 [] rfl (fun K hK=>?_) ?_
      ·go_simp;refine⟨trivial,callsIn_wide.2 ((gZ c v K' w5 (HE.out.below Ie) ow.inL HKl.out).mono ?_)⟩;rintro e w6⟨rfl,hb6⟩;have Kr:=aR Ie hb6 Ie.size;clear ow hb6;refine hK _ _ ?_;clear hK K;refine tI 5 rfl ?_;refine tI 6 rfl ?_;refine eI 7 [] rfl (fun K hK=>?_) ?_;rotate_left;focus exact aT
       go_simp;refine hK _ _ ?_;clear hK K;refine eI 8 [] rfl (fun K hK=>?_) ?_;rotate_left;focus exact aT
       go_simp;refine hK _ _ ?_;clear hK K;refine eM (by kernel_rfl) ?_ _;go_wp2;go_ret2;rw[←HS.out];exact⟨rfl,Kr⟩
      exact aT
     exact aT
    exact aT
   refine eF rfl (fun K hK=>?_) ?_
   ·go_simp;refine hK _ _ ?_;clear hK K;refine eI 1 [] rfl (fun K hK=>?_) ?_
    ·go_simp;refine⟨trivial,callsIn_wide.2 ((r1.out _).mono ?_)⟩;rintro e W4⟨v1,rfl,Du,hb4⟩;have PR:Below W3.heap.size W3 W4:=lJ (cK (aH _ W3) 1) hb4;have Ci:=HY.out.2.1.below PR;have oI:=aR HY.out.2.2 PR HY.out.2.2.size;have z0:=HY.out.1.below PR HY.out.1.lt;have k0:=z0.ce 0;have k1:=z0.ce 1;clear hb4 PR z0;refine hK _ _ ?_;clear hK K;refine eI 3 [] rfl (fun K hK=>?_) ?_
     ·go_simp;refine⟨trivial,callsIn_wide.2 ((Kq _ _ v1 _ M N W4 Du.inL Ci.inL (by have:=Hl.out.1;omega) (by have:=Hl.out.2;omega)).mono ?_)⟩;rintro e w5⟨c,v,K',rfl,hsg,ow,hb5⟩;have Ie:=aR oI hb5 oI.size;have hKl:(cQ PB K').length≤1000:=by
       have:=uE dB Hl.out.1 Hl.out.2 (EH hsg);omega
      have HKl:=zq hKl;have HS:bH (gV c K'=gV (fT s) M-gV nt N):=by
       show _=_;rw[hsg,Pr];omega
      clear hKl hsg oI hb5 Du Ci;refine hK _ _ ?_;clear hK K;refine eI 4 [] rfl (fun K hK=>?_) ?_
      ·go_simp;refine⟨trivial,callsIn_wide.2 ((gZ c v K' w5 (HE.out.below Ie) ow.inL HKl.out).mono ?_)⟩;rintro e w6⟨rfl,hb6⟩;have Kr:=aR Ie hb6 Ie.size;clear ow hb6;refine hK _ _ ?_;clear hK K;refine tI 5 rfl ?_;refine tI 6 rfl ?_;refine eI 7 [] rfl (fun K hK=>?_) ?_;rotate_left;focus exact aT
       go_simp;refine hK _ _ ?_;clear hK K;refine eI 8 [] rfl (fun K hK=>?_) ?_;rotate_left;focus exact aT
       go_simp;refine hK _ _ ?_;clear hK K;refine eM (by kernel_rfl) ?_ _;go_wp2;go_ret2;rw[←HS.out];exact⟨rfl,Kr⟩
      exact aT
     exact aT
    exact aT
   exact aT
 ·have hr:VJ s.data.toList t.data.toList=([],fX s.data.toList t.data.toList):=by rw[VJ,iN h0]
  rw[hr];clear hr;generalize fX s.data.toList t.data.toList=c at *;have h':(c !=0)=true:=by simp[h0]
  clear h0;go_enter UP,QU;go_wp2_with fail
  refine ka Hb.out fun w1 hb1=>?_;go_wp2;go_ret2;exact⟨rfl,hb1⟩
theorem int_Mul(s t:ByteArray)(w:aF)(hE:iM w)(hs:s.size≤dL)(ht:t.size≤dL):
 aW aC 265 #[aA s,aA t] w (Rt (cC #[aA (bs (Sc s.data.toList t.data.toList).1),aD aE (Sc s.data.toList t.data.toList).2]) w):=by
 have hb:=sO s t w hs ht;have Hb:=zq hb;clear hb;by_cases h0:fX s.data.toList t.data.toList=0
 ·have hr:Sc s.data.toList t.data.toList=nL (fQ s.data.toList*fQ t.data.toList):=by rw[Sc,ip h0]
  rw[hr];rw[h0]at Hb;obtain⟨yF,zQ,vX,oL,l1,l2⟩:=rQ h0;have HE:=zq hE;clear hE hr h0;have e1:IntKind.i64.wrap ((s.size:Int)+(t.size:Int))=(s.size:Int)+(t.size:Int):=aX _ (by omega);by_cases hl:s.size+t.size≤18
  ·have hbd:=Zw (qK yF (aG _)) (qK zQ (aG _)) hl;have Yg:=zq (Pu hbd (by decide));have Hc:=zq (fun W=>wR s t W yF zQ (by omega) (by omega));have hli:(s.size:Int)+(t.size:Int)≤18:=by omega
   clear yF zQ l1 l2;generalize fQ s.data.toList=x at *;generalize fQ t.data.toList=y at *;obtain⟨p,hp⟩:=nm (x*y);have q1:IntKind.i64.wrap (x*y)=p:=by rw[hp];exact aX _ (by omega)
   rw[hp]at Yg hbd;rw[hp];clear hp;go_enter UQ,QV;go_wp2_with fail
   refine ka Hb.out fun w1 hb1=>?_;go_wp2_with fail
   refine kc (Hc.out w1) hb1 fun w2 gJ=>?_;clear hb1;go_wp2_with fail
   refine ka (gW _ _ (HE.out.below gJ) (by omega) (by omega)) fun w3 hb3=>?_;have hB:=aR gJ hb3 gJ.size;go_wp2;go_ret2;rw[Yg.out];exact⟨rfl,hB⟩
  ·have r1:=zq (fun W=>nR s W vX yF);have r2:=zq (fun W=>nR t W oL zQ);rw[qJ s,qJ t,←sgn_mul];have hli:¬(s.size:Int)+(t.size:Int)≤18:=by omega
   clear yF zQ hl;generalize num (mag s.data.toList)=M at *;generalize num (mag t.data.toList)=N at *;generalize fT s=b1 at *;generalize fT t=b2 at *;have Hl:=zq (And.intro l1 l2);have Hk:=zq (Ah dB l1 l2);clear l1 l2;go_enter UQ,QV;go_wp2_with fail
   refine ka Hb.out fun w1 hb1=>?_;go_wp2_with fail
   refine(r1.out w1).mono ?_;rintro e w2⟨v1,rfl,Du,hb2⟩;have gJ:=aR hb1 hb2 hb1.size;clear hb1 hb2;go_wp2_with fail
   refine(r2.out w2).mono ?_;rintro e w3⟨v2,rfl,Ci,hb3⟩;have CI:=Du.below hb3;have kY:=aR gJ hb3 gJ.size;clear gJ hb3 Du;obtain⟨g1,n1,c1,rfl,Du⟩:=CI;obtain⟨g2,n2,c2,rfl,Ci⟩:=Ci;have HO:=zq (And.intro Du (And.intro Ci kY));clear Du Ci kY;go_wp2_with fail
   obtain⟨W,hW⟩:=nm ((w3.alloc (aJ #[aN b1,aB (some ⟨g1,0,none⟩) n1 c1] 284)).alloc (aJ #[aN b2,aB (some ⟨g2,0,none⟩) n2 c2] 284));have q0:bT W w3.heap.size #[aN b1,aB (some ⟨g1,0,none⟩) n1 c1] 284:=by rw[←hW];exact(bT.new w3 _ _).alloc _
   have q1:bT W (w3.heap.size+1) #[aN b2,aB (some ⟨g2,0,none⟩) n2 c2] 284:=by
    rw[←hW];have:=bT.new (w3.alloc (aJ #[aN b1,aB (some ⟨g1,0,none⟩) n1 c1] 284)) #[aN b2,aB (some ⟨g2,0,none⟩) n2 c2] 284;rwa[bB]at this
   have hBW:Below w.heap.size w W:=by have:=HO.out.2.2.size;rw[←hW];exact(HO.out.2.2.alloc this _).alloc (by rw[bB];omega) _
   have hb3:Below w3.heap.size w3 W:=by rw[←hW];exact((aH _ _).alloc (aG _) _).alloc (by simp) _
   have o1:tY W (aB (some ⟨g1,0,none⟩) n1 c1) PB M:=tC.inL (base:=w1.heap.size) (tC.below ⟨_,_,_,rfl,HO.out.1⟩ hb3);have o2:tY W (aB (some ⟨g2,0,none⟩) n2 c2) PB N:=tC.inL (base:=w2.heap.size) (tC.below ⟨_,_,_,rfl,HO.out.2.1⟩ hb3);rw[hW];clear hW;generalize hg:w3.heap.size=g at *;have c0:W.cell? ⟨g,0,none⟩=some (aN b1):=by rw[q0.cell];rfl
   have c1':W.cell? ⟨g,1,none⟩=some (aB (some ⟨g1,0,none⟩) n1 c1):=by rw[q0.cell];rfl
   have c2':W.cell? ⟨g+1,0,none⟩=some (aN b2):=by rw[q1.cell];rfl
   have c3:W.cell? ⟨g+1,1,none⟩=some (aB (some ⟨g2,0,none⟩) n2 c2):=by rw[q1.cell];rfl
   have Htm:=zq (fun(V:aF)(hV:Below W.heap.size W V)=>IG _ _ M N V (o1.below hV) (o2.below hV) (by have:=Hl.out.1;omega) (by have:=Hl.out.2;omega));have Hrs:=zq (fun(V:aF)(hV:Below w.heap.size w V)(v:aS)(h:tY V v PB (M*N))=>gZ (!b1==b2) v (M*N) V (HE.out.below hV) h (by have:=Hk.out;omega));have HB:=zq hBW;clear q0 q1 o1 o2 hb3 hBW hg;go_region_held3 (fun w'=>w'.cell? ⟨g,0,none⟩=some (aN b1)∧w'.cell? ⟨g,1,none⟩=some (aB (some ⟨g1,0,none⟩) n1 c1)∧w'.cell? ⟨g+1,0,none⟩=some (aN b2)∧w'.cell? ⟨g+1,1,none⟩=some (aB (some ⟨g2,0,none⟩) n2 c2)) (go_keep)
    (first
     |(go_at_call 280;refine(Htm.out _ (aH _ W).drew).mono ?_;rintro e w' ⟨v,rfl,⟨gv,nv,cv,rfl,hvo⟩,hb⟩;have:=ck hb g 0 (aN b1);have:=ck hb g 1 (aB (some ⟨g1,0,none⟩) n1 c1);have:=ck hb (g+1) 0 (aN b2);have:=ck hb (g+1) 1 (aB (some ⟨g2,0,none⟩) n2 c2))
     |(go_at_call 226;refine(Hrs.out _ (HB.out.trans ((lJ (aH _ W).drew hb).mono HB.out.size)) _ (tC.inL ⟨_,_,_,rfl,hvo⟩)).mono ?_;rintro e w'' ⟨rfl,PU⟩;have k0:=cF PU (p:=⟨g,0,none⟩) (v:=aN b1) (by simp[*]);have k1:=cF PU (p:=⟨g,1,none⟩) (v:=aB (some ⟨g1,0,none⟩) n1 c1) (by simp[*]);have k2:=cF PU (p:=⟨g+1,0,none⟩) (v:=aN b2) (by simp[*]);have k3:=cF PU (p:=⟨g+1,1,none⟩) (v:=aB (some ⟨g2,0,none⟩) n2 c2) (by simp[*])))
   go_wp2;have Lu:Below W.heap.size W w':=lJ (aH _ W).drew hb;have hbB:Below w.heap.size w w':=HB.out.trans (Lu.mono HB.out.size);go_ret2;exact⟨rfl,hbB.trans (PU.mono hbB.size)⟩
 ·have hr:Sc s.data.toList t.data.toList=([],fX s.data.toList t.data.toList):=by rw[Sc,iN h0]
  rw[hr];clear hr;generalize fX s.data.toList t.data.toList=c at *;have h':(c !=0)=true:=by simp[h0]
  clear h0;go_enter UQ,QV;go_wp2_with fail
  refine ka Hb.out fun w1 hb1=>?_;go_wp2;go_ret2;exact⟨rfl,hb1⟩
theorem SY(s t:ByteArray)(w:aF)(hs:s.size≤dL)(ht:t.size≤dL):
 aW aC 215 #[aA s,aA t] w (Rt (cC #[aD aE (Se s.data.toList t.data.toList).1,aD aE (Se s.data.toList t.data.toList).2]) w):=by
 have hb:=sO s t w hs ht;have Hb:=zq hb;clear hb;by_cases h0:fX s.data.toList t.data.toList=0
 ·have hr:Se s.data.toList t.data.toList=(EF (fQ s.data.toList-fQ t.data.toList),0):=by rw[Se,ip h0]
  rw[hr];rw[h0]at Hb;obtain⟨yF,zQ,vX,oL,l1,l2⟩:=rQ h0;clear hr h0;by_cases hl:s.size≤18∧t.size≤18
  ·have Hc:=zq (fun W=>wR s t W yF zQ hl.1 hl.2);clear yF zQ l1 l2;generalize fQ s.data.toList=x at *;generalize fQ t.data.toList=y at *;have jq:H7 x y=EF (x-y):=by
    unfold H7;rcases Int.lt_trichotomy x y with h|h|h
    ·rw[ip h,Sf (by omega)]
    ·have a1:¬x<y:=by omega
     have a2:¬x>y:=by omega
     rw[iN a1,iN a2,NV (by omega)]
    ·have a1:¬x<y:=by omega
     rw[iN a1,ip h,Sh (by omega)]
   have Hcm:=zq jq;clear jq;go_enter UR,QW;go_wp2_with fail
   refine ka Hb.out fun w1 hb1=>?_;go_wp2_with fail
   refine kc (Hc.out w1) hb1 fun w2 gJ=>?_;clear hb1;go_wp2_with fail
   refine kr (Jr _ _ _) ?_;go_wp2;go_ret2;rw[←Hcm.out];exact⟨rfl,gJ⟩
  ·have Hc:=zq (fun W=>oX s t W hs ht (by omega));have r1:=zq (fun W=>nR s W vX yF);have r2:=zq (fun W=>nR t W oL zQ);rw[qJ s,qJ t];clear yF zQ hl;generalize num (mag s.data.toList)=M at *;generalize num (mag t.data.toList)=N at *;generalize fT s=b1 at *;generalize fT t=b2 at *;have Hl:=zq (And.intro l1 l2);clear l1 l2;go_enter UR,QW;go_wp2_with fail
   refine ka Hb.out fun w1 hb1=>?_;go_wp2_with fail
   refine kc (Hc.out w1) hb1 fun Vi mM=>?_;clear hb1;go_wp2_with fail
   refine(r1.out Vi).mono ?_;rintro e w2⟨v1,rfl,Du,hb2⟩;have gJ:=aR mM hb2 mM.size;clear mM hb2;go_wp2_with fail
   refine(r2.out w2).mono ?_;rintro e w3⟨v2,rfl,Ci,hb3⟩;have CI:=Du.below hb3;have kY:=aR gJ hb3 gJ.size;clear gJ hb3 Du;obtain⟨g1,n1,c1,rfl,Du⟩:=CI;obtain⟨g2,n2,c2,rfl,Ci⟩:=Ci;have HO:=zq (And.intro Du (And.intro Ci kY));clear Du Ci kY;go_wp2_with fail
   have Lu:Below w3.heap.size w3 ((w3.alloc (aJ #[aN b1,aB (some ⟨g1,0,none⟩) n1 c1] 284)).alloc (aJ #[aN (!b2),aB (some ⟨g2,0,none⟩) n2 c2] 284)):=((aH _ _).alloc (aG _) _).alloc (by simp) _;have o1:tY _ (aB (some ⟨g1,0,none⟩) n1 c1) PB M:=tC.inL (base:=Vi.heap.size) (tC.below ⟨_,_,_,rfl,HO.out.1⟩ Lu);have o2:tY _ (aB (some ⟨g2,0,none⟩) n2 c2) PB N:=tC.inL (base:=w2.heap.size) (tC.below ⟨_,_,_,rfl,HO.out.2.1⟩ Lu);have Z6:Below w.heap.size w _:=aR HO.out.2.2 Lu HO.out.2.2.size;refine(Kq b1 (!b2) _ _ M N _ o1 o2 (by have:=Hl.out.1;omega) (by have:=Hl.out.2;omega)).mono ?_;rintro e w5⟨c,v,K,rfl,hsg,ow,hb5⟩;have Ie:=aR Z6 hb5 Z6.size;rw[Pr]at hsg;have HS:bH (gV c K=gV b1 M-gV b2 N):=by show _=_;omega
   obtain⟨g,n,cap,rfl,ow⟩:=ow;have kK:(cQ PB K).length=n:=by have:=ow.1;simpa using this
   have PQ:n=0↔K=0:=by rw[←kK,List.length_eq_zero_iff,iO dB]
   have Hn0:=zq PQ;have FC:bH (∀T,Below w.heap.size w (w5.alloc (aJ #[aN c,aB (some ⟨g,0,none⟩) n cap] T))):=fun T=>Ie.alloc Ie.size _;clear Lu o1 o2 Z6 hsg hb5 Ie ow kK PQ;by_cases hz:n=0
   ·have hK:=Hn0.out.1 hz;subst hz;have HQ:=zq (NV (n:=gV b1 M-gV b2 N) (by rw[←HS.out,hK];cases c<;>rfl));clear hK HS;go_wp2;go_ret2;rw[HQ.out];exact⟨rfl,FC.out _⟩
   ·have hK:K≠0:=fun e=>hz (Hn0.out.2 e);have Yp:((n:Int)==0)=false:=by simp;omega
    cases c with
    |true=>
     have HQ:=zq (Sf (n:=gV b1 M-gV b2 N) (by rw[←HS.out];simp only[gV,if_true];omega));clear hK hz HS;go_wp2;go_ret2;rw[HQ.out];exact⟨rfl,FC.out _⟩
    |false=>
     have HQ:=zq (Sh (n:=gV b1 M-gV b2 N) (by rw[←HS.out];simp only[gV,Bool.false_eq_true,if_false];omega));clear hK hz HS;go_wp2;go_ret2;rw[HQ.out];exact⟨rfl,FC.out _⟩
 ·have hr:Se s.data.toList t.data.toList=(0,fX s.data.toList t.data.toList):=by rw[Se,iN h0]
  rw[hr];clear hr;generalize fX s.data.toList t.data.toList=c at *;have h':(c !=0)=true:=by simp[h0]
  clear h0;go_enter UR,QW;go_wp2_with fail
  refine ka Hb.out fun w1 hb1=>?_;go_wp2;go_ret2;exact⟨rfl,hb1⟩
theorem Wj(b:Bool)(a:Option cT)(n c:Nat)(w:aF):(Instr.field 284 (cN #[aN b,aB a n c]) 1).run aC w=.ok (aB a n c) w:=by kernel_rfl
theorem Z7{M N k:Nat}(h1:M<k)(h2:N<k):dR M N<k:=by
 rcases fF M with h|h
 ·subst h;rw[Nat.gcd_zero_left];exact h2
 ·exact fO (Nat.gcd_le_left N h) h1
theorem qi{N:Nat}(h:N<10^300):nL (gV false N)=(cM ((N:Nat):Int),0):=by
 rw[nL,ip (by rw[uC];exact h)];rfl
theorem Yq(s t:ByteArray)(w:aF)(hE:iM w)(hs:s.size≤dL)(ht:t.size≤dL):
 aW aC 149 #[aA s,aA t] w (Rt (cC #[aA (bs (Ps s.data.toList t.data.toList).1),aD aE (Ps s.data.toList t.data.toList).2]) w):=by
 have hb:=sO s t w hs ht;have Hb:=zq hb;clear hb;have HE:=zq hE;clear hE;by_cases h0:fX s.data.toList t.data.toList=0
 ·have hr:Ps s.data.toList t.data.toList=(cM (dR (fQ s.data.toList).natAbs (fQ t.data.toList).natAbs),0):=by rw[Ps,ip h0]
  rw[hr];rw[h0]at Hb;obtain⟨yF,zQ,vX,oL,l1,l2⟩:=rQ h0;obtain⟨kk1,Z4⟩:=Bm h0;clear hr h0;by_cases hl:s.size≤18∧t.size≤18
  ·have hx:=qK yF hl.1;have hy:=qK zQ hl.2;have Hc:=zq (fun W=>wR s t W yF zQ hl.1 hl.2);clear yF zQ l1 l2 kk1 Z4;generalize fQ s.data.toList=x at *;generalize fQ t.data.toList=y at *;go_enter US,QZ;go_wp2_with fail
   refine Hb.out.mono ?_;rintro e w1⟨rfl,hb1⟩;go_wp2_with fail
   refine(Hc.out w1).mono ?_;rintro e w2⟨rfl,hb2⟩;have gJ:=aR hb1 hb2 hb1.size;clear hb1 hb2;go_wp2;go_loopw[7,8] (fun a b wr=>∃X Y:Int,a=aD aE X∧b=aD aE Y∧X.natAbs<10^18∧Y.natAbs<10^18∧bH (dR X.natAbs Y.natAbs=dR x.natAbs y.natAbs)∧Below w.heap.size w wr)
    (fun _ b _=>(aK b).natAbs)
   case atStart=>exact⟨x,y,rfl,rfl,hx,hy,rfl,gJ⟩
   case round=>
    obtain⟨X,Y,rfl,rfl,hX,hY,hg,hBr⟩:=hrel;clear gJ;by_cases hy0:Y=0
    ·subst hy0;have hm:bH (max X (-X)=((dR x.natAbs y.natAbs:Nat):Int)):=by
      show _=_;rw[←hg.out,gcd_zero_right];omega
     have q1:IntKind.i64.wrap (-X)= -X:=aX _ (by omega);clear hg;go_wp2_with fail
     refine(gW _ _ (HE.out.below hBr) (by omega) (by omega)).mono ?_;rintro e w3⟨rfl,hb3⟩;have hB:=aR hBr hb3 hBr.size;go_wp2;go_ret2;rw[hm.out];exact⟨rfl,hB⟩
    ·have hlt:(X.tmod Y).natAbs<Y.natAbs:=by rw[Int.natAbs_tmod];exact fU _ (by omega)
     have hgs:=zq ((ni X Y).trans hg.out);have q1:IntKind.i64.wrap (X.tmod Y)=X.tmod Y:=aX _ (by omega);go_wp2;go_region;go_wp2;go_roundw;case rel=>exact⟨Y,X.tmod Y,rfl,rfl,hY,by omega,hgs.out,cK hBr 1⟩
     case measure=>simp only[aK];omega
  ·have Hc:=zq (fun W=>oX s t W hs ht (by omega));have r1:=zq (fun W=>nR s W vX yF);have r2:=zq (fun W=>nR t W oL zQ);have hG:=zq (Z7 (xG kk1) (xG Z4));rw[mC,mC];clear yF zQ hl kk1 Z4;generalize num (mag s.data.toList)=M at *;generalize num (mag t.data.toList)=N at *;generalize fT s=b1 at *;generalize fT t=b2 at *;have Hl:=zq (And.intro l1 l2);clear l1 l2;have fI:=Wj;go_enter US,QZ;go_wp2_with fail
   refine Hb.out.mono ?_;rintro e w1⟨rfl,hb1⟩;go_wp2_with fail
   refine(Hc.out w1).mono ?_;rintro e Vi⟨rfl,Ly⟩;have mM:=aR hb1 Ly hb1.size;clear hb1 Ly;go_wp2_with fail
   refine(r1.out Vi).mono ?_;rintro e w2⟨v1,rfl,Du,hb2⟩;have gJ:=aR mM hb2 mM.size;clear mM hb2;obtain⟨g1,n1,c1,rfl,Du⟩:=Du;have Nq:bH (tC w2 Vi.heap.size (aB (some ⟨g1,0,none⟩) n1 c1) PB M):=⟨_,_,_,rfl,Du⟩;clear Du;go_wp2_with fail
   refine(r2.out w2).mono ?_;rintro e w3⟨v2,rfl,Ci,hb3⟩;have CI:=zq (Nq.out.below hb3).inL;have kY:=aR gJ hb3 gJ.size;clear gJ hb3 Nq;obtain⟨g2,n2,c2,rfl,Ci⟩:=Ci;have IF:bH (tY w3 (aB (some ⟨g2,0,none⟩) n2 c2) PB N):=tC.inL ⟨_,_,_,rfl,Ci⟩;clear Ci;go_wp2;go_loopw[10,11] (fun a b wr=>∃X Y:Nat,tY wr a PB X∧tY wr b PB Y∧(cQ PB X).length≤34∧(cQ PB Y).length≤34∧bH (dR X Y=dR M N)∧Below w.heap.size w wr)
    (fun _ b wr=>XU PB wr b)
   case atStart=>exact⟨M,N,CI.out,IF.out,Hl.out.1,Hl.out.2,rfl,kY⟩
   case round=>
    obtain⟨X,Y,hX,hY,lX,lY,hg,hBr⟩:=hrel;clear kY CI IF;have hX':=hX;have hY':=hY;obtain⟨a1,n1,c1,rfl,-⟩:=hX';obtain⟨a2,n2,c2,rfl,Ab,-⟩:=hY';have HX:=zq hX;clear hX;have HY:=zq hY;clear hY;by_cases hz:n2=0
    ·have hY0:Y=0:=(iO dB).1 (fW (by omega));have hgX:bH (dR M N=X):=by
      show _=_;rw[←hg.out,hY0];simp
     subst hz;clear Ab hY0 hg lY HY;go_wp2_with fail
     refine(gZ false _ X wr (HE.out.below hBr) HX.out (by omega)).mono ?_;rintro e w4⟨rfl,hb4⟩;have oI:=aR hBr hb4 hBr.size;go_wp2;go_ret2;have JW:bH (nL (gV false X)=(cM ((dR M N:Nat):Int),0)):=by
      show _=_;rw[hgX.out];exact qi (by rw[←hgX.out];exact hG.out)
     rw[JW.out];exact⟨rfl,oI⟩
    ·have hY0:0<Y:=by
      rcases fF Y with e|e
      ·rw[e,eY]at Ab;simp at Ab;omega
      ·exact e
     have hgs:bH (dR Y (X%Y)=dR M N):=by
      show _=_;rw[←hg.out,sI X,Nat.gcd_rec Y X,sI]
     have hlt:X%Y<Y:=fU _ hY0;have hle:(cQ PB (X%Y)).length≤(cQ PB Y).length:=iP dB (fZ hlt);have Yp:0<n2:=by omega
     go_wp2_with fail
     refine(Br _ _ X Y wr HX.out HY.out (by omega) (by omega) hY0).mono ?_;rintro e w4⟨v,u,rfl,-,ow,hb4⟩;have oI:=aR hBr hb4 hBr.size;have hY4:=HY.out.below hb4;go_wp2;go_roundw;case rel=>exact⟨Y,X%Y,hY4,ow,lY,by omega,hgs,oI⟩
     case measure=>rw[Si dB HY.out,Si dB ow];exact hlt
 ·have hr:Ps s.data.toList t.data.toList=([],fX s.data.toList t.data.toList):=by rw[Ps,iN h0]
  rw[hr];clear hr;generalize fX s.data.toList t.data.toList=c at *;have h':(c !=0)=true:=by simp[h0]
  clear h0;go_enter US,QZ;go_wp2_with fail
  refine Hb.out.mono ?_;rintro e w1⟨rfl,hb1⟩;go_wp2;go_ret2;exact⟨rfl,hb1⟩
end
end Go.Proofs.YtckgmoobicmbnaaGreatDoor
