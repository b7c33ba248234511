import Derived.Shelf.Spec.SlicesGrow
import Derived.StillTailTactics
import Derived.Calls
import Derived.StepT
import Derived.Shelf.SlSortCmp.NoneTotal
import Derived.Shelf.LaysC
import Derived.Ground.SlsfProg
import Derived.Test.YtckgmoobicmbnaaGreatDoorZ0
import Derived.Test.YtckgmoobicmbnaaGreatDoorZ1
import Derived.Test.YtckgmoobicmbnaaGreatDoorZ2
import Derived.Test.YtckgmoobicmbnaaGreatDoorZ5
import Derived.Test.YtckgmoobicmbnaaGreatDoorZ6
import Derived.Test.YtckgmoobicmbnaaGreatDoorZ7
import Derived.Test.YtckgmoobicmbnaaGreatDoorZ9
import Derived.Test.YtckgmoobicmbnaaGreatDoorZ10
import Derived.Test.YtckgmoobicmbnaaGreatDoorZ11
import Derived.Test.YtckgmoobicmbnaaGreatDoorZ12
namespace Go.Proofs.YtckgmoobicmbnaaGreatDoor
set_option maxRecDepth 100000
set_option maxHeartbeats 8000000
set_option linter.all false
open Go.Proofs.Tryz
open _root_.Array renaming replicate_succ->bR,replicate_zero->bS,size_append->tX,getElem?_append_left->yA,toArray_toList->D5,append_empty->H8,size_modify->Ik,modify->RM,getElem?_modify->U8
open _root_.Bool renaming and_eq_true->bK,or_eq_false_iff->dO,not_eq_true'->iH
open _root_.Go renaming World->aF,undef->aP,Value->aS,Calls->aW,below_drewN->cK,Addr->cT,maxLen->dL,Program->dP,TypeId->eC,results->gR,Oper->gL,results_tmp->iB,Act->kZ,ownFrom_below->oA,Operand->qV,callFunc->uQ,info_parts->vJ,Machine->vV,Frame->xZ,FuncId->FI,Dying->Rr,size_zeroCells->Zh,grownBy_setCell'->ix,Goroutine->jd,loadVar->mm
open Go.Addr renaming add_lit->XN
open Go.AllReadyIn renaming nil->aT
open Go.Ending renaming returned->aQ
open Go.Instr renaming endRound->NK,takeDeferred->Zi
open Go.IntKind renaming i64->aE
open Go.IntWalk renaming i64_in->aX
open Go.KeepsFrom renaming refl->zp
open Go.Obj renaming cells->aJ
open Go.Oper renaming wpIn->rL
open Go.OwnFrom renaming and->cU
open Go.Proofs.Lays8 renaming n4->JK
open Go.Proofs.Tryz renaming prog->aC,underlying52->Kl,ntmps153->Rq,func153->Vb
open Go.Result renaming andThen_ok->oH
open Go.RowKit renaming intOf->aK,Hid->bH
open Go.RowKit.Below renaming refl->aH
open Go.Sem renaming run->gN,runT_eq->pV,run_pure->vP,run_bind->wD
open Go.Shelf renaming Ren->iK
open Go.Value renaming string->aA,slice->aB,int->aD,bool->aN,pointer->bA,tuple->cC,agg->cN,oneCell'->nO
open Go.World renaming size_alloc->bB,block_lt_of_cell?->bG
open Go.World.ownsRow renaming cellAt->eX
open _root_.Int renaming natAbs_natCast->cA,zero_mul->D6
open _root_.List renaming getElem?_cons_zero->aI,getElem?_toArray->aL,setIfInBounds_toArray->aM,getD_eq_getElem?_getD->aO,set_cons_zero->aV,set_cons_succ->bC,length_cons->bF,getElem?_cons_succ->bM,append_toArray->bU,size_toArray->bW,length_nil->bY,cons_append->bZ,push_toArray->cD,nil_append->cL,length_append->cP,take_succ_eq_append_getElem->dU,getElem_of_mem->eU,getElem?_append_right->lU,mem_cons_self->oJ,getElem?_append_left->Bb,getElem_mem->Cc,flatMap_append->Fw,take_length->zw
open _root_.Nat renaming le_refl->aG,le_trans->bE,lt_of_lt_of_le->bL,zero_le->bN,reduceAdd->cW,reduceSub->cX,zero_add->dZ,le_of_lt->fZ,zero_mul->oC,le_succ->Pi
open _root_.Option renaming map_some->mn
open _root_.Option.some renaming inj->dQ
open _root_.Trans renaming trans->cB
section
open Go Go.RowKit Go.Lib
def hdI(s t:Sd):Int:=if s.x<t.x then 0 else if s.y<t.y then 1 else if t.x<s.x then 2 else 3
theorem Xn(s t:Sd)(w:aF):aW aC 125 #[s.v,t.v] w (Rt (aD aE (hdI s t)) w):=by
 obtain⟨W0,eQ⟩:=nm ((w.alloc (aJ s.cells 74)).alloc (aJ t.cells 74));obtain⟨h1,h2,h3⟩:=Ky eQ;have HB:=zq h3;obtain⟨s0,s1,-⟩:=BY h1;obtain⟨r0,r1,-⟩:=BY h2;have HW:=zq eQ;obtain⟨T,hT⟩:=nm (hdI s t);rw[hT];have hx:bH (s.x<t.x∧T=0∨(s.x<t.x)=False∧s.y<t.y∧T=1∨(s.x<t.x)=False∧(s.y<t.y)=False∧t.x<s.x∧T=2∨(s.x<t.x)=False∧(s.y<t.y)=False∧(t.x<s.x)=False∧T=3):=by
  rw[←hT];show _∨_;unfold hdI;by_cases h1:s.x<t.x<;>by_cases h2:s.y<t.y<;>by_cases h3:t.x<s.x<;>simp[h1,h2,h3]
 clear hT h1 h2 h3 eQ;obtain⟨x,y,rise,run,gable,plate,over⟩:=s;obtain⟨x2,y2,YV,run2,Qw,Qx,YW⟩:=t;unfold Sd.v Sd.cells at *;simp only[]at *;refine dE func125 rfl ?_;simp only[ntmps125,bW,bF,bY,cW,cX,bR,bS,cD,bU,cL,bZ];go_upto_region 1 with(fail)
 rw[HW.out];clear HW;rcases hx.out with⟨h1,rfl⟩|⟨h1,h2,rfl⟩|⟨h1,h2,h3,rfl⟩|⟨h1,h2,h3,rfl⟩;all_goals
  clear hx;go_wp2;exact nV (iB Tryz.results125 _ _ _) rfl ⟨rfl,HB.out⟩
theorem lt_pw{a m k:Nat}(h:a<10^m)(hk:m≤k):a<10^k:=bL h (Nat.pow_le_pow_right (by decide) hk)
theorem rat_OfD(n:Int)(d:Nat)(w:aF)(hE:iM w)(hn:n.natAbs<10^18)(hd:0<d)(hd2:d<10^18):
 aW aC 30 #[aD aE n,aD aE d] w (Rt (cC #[aA (bs (bJ (mkRat n d))),aD aE 0]) w):=by
 by_cases h1:d=1
 ·subst h1;have:=Gu n w hE hn;rwa[←N9 n]at this
 have Hi:=zq (gW n w hE (by omega) (by omega));have Hj:=zq (fun W(hW:Below w.heap.size w W)=>gW (d:Int) W (hE.below hW) (by omega) (by omega));have Hk:=zq (fun W(hW:Below w.heap.size w W)=>Bt n (d:Int) W (hE.below hW) (lt_pw (m:=18) (k:=300) hn (by decide)) (by rw[cA];exact lt_pw (m:=18) (k:=300) hd2 (by decide)) (by omega));rw[show EU n (d:Int)=n by unfold EU;rw[iN (by omega)],cA]at Hk;have e0:((d:Int)==0)=false:=by rw[beq_eq_false_iff_ne];omega
 have e1:((d:Int)==1)=false:=by rw[beq_eq_false_iff_ne];omega
 clear hE hn hd hd2 h1;go_enter func30,ntmps30;go_wp2_with fail
 refine ka Hi.out fun W1 hb1=>?_;go_wp2_with fail
 refine ka (Hj.out _ hb1) fun W2 hb2=>?_;have gJ:=aR hb1 hb2 hb1.size;go_wp2_with fail
 refine ka (Hk.out _ gJ) fun W3 hb3=>?_;go_wp2;go_ret2;exact⟨rfl,aR gJ hb3 gJ.size⟩
def upN(h:Nat):Bool:=decide (h=1)||decide (h=3)
def drN(h:Nat):Int:=if h=0∨h=3 then 1 else -1
def Qy(w:aF):Prop:=∀h,h<4→w.cell? ⟨0,h*2,none⟩=some (aN (upN h))∧w.cell? ⟨0,h*2+1,none⟩=some (aD aE (drN h))
theorem Qy.below{w w':aF}(h:Qy w)(hb:Below w.heap.size w w'):Qy w':=fun k hk=>⟨cF hb (h k hk).1,cF hb (h k hk).2⟩
def OR(s t:Sd):Nat:=if s.x<t.x then 0 else if s.y<t.y then 1 else if t.x<s.x then 2 else 3
theorem xf(s t:Sd):hdI s t=(OR s t:Nat)∧OR s t<4:=by
 unfold hdI OR;split
 ·exact⟨rfl,by decide⟩
 ·split
  ·exact⟨rfl,by decide⟩
  ·split <;>exact⟨rfl,by decide⟩
def YX(s t:Sd):Fr:=⟨upN (OR s t),if upN (OR s t)=true then s.x else s.y,drN (OR s t),if s.gable=true then[48]else bJ (mkRat s.run s.rise.toNat),bJ (mkRat s.plate 1)⟩
theorem xg{x y rise run plate over:Int}{gable:Bool}(h:yJ ⟨x,y,rise,run,gable,plate,over⟩=true):0≤plate∧plate≤65536∧(gable=false→1≤rise∧rise≤48∧1≤run∧run≤48):=by
 unfold yJ outI at h;simp only[bK,iH,dO,decide_eq_false_iff_not]at h;obtain⟨⟨h1,h2,h3,h4⟩,h5⟩:=h;refine⟨by omega,by omega,fun e=>?_⟩;subst e;rw[iN (by decide)]at h5;simp only[bK,iH,dO,decide_eq_false_iff_not]at h5;omega
theorem I8{W:aF}{b:Nat}{u0 u1 u2 u3 u4:aS}{T:eC}(h:bT W b #[u0,u1,u2,u3,u4] T):W.cell? ⟨b,0,none⟩=some u0∧W.cell? ⟨b,1,none⟩=some u1∧W.cell? ⟨b,2,none⟩=some u2∧W.cell? ⟨b,3,none⟩=some u3∧W.cell? ⟨b,4,none⟩=some u4∧W.frozen? ⟨b,0,none⟩=false∧W.frozen? ⟨b,1,none⟩=false∧W.frozen? ⟨b,2,none⟩=false∧W.frozen? ⟨b,3,none⟩=false∧W.frozen? ⟨b,4,none⟩=false∧b<W.heap.size:=
 ⟨h.cell 0,h.cell 1,h.cell 2,h.cell 3,h.cell 4,h.fz 0,h.fz 1,h.fz 2,h.fz 3,h.fz 4,h.lt⟩
theorem OS(W:aF):(isAgg 44).run aC W=.ok true W:=by first |rfl|kernel_rfl
theorem Mq(W:aF):(sizeOf 44).run aC W=.ok 5 W:=by first |rfl|kernel_rfl
theorem AN{P:dP}{fn:Func}{p:Tmp}{ty T:eC}(h:fn.results= #[.cell p ty])(tmps:Array aS)(w:aF)(g:Nat)(x y z u o:aS)
 (hp:tmps.getD p aP=bA (some ⟨g,0,none⟩))(hb:bT w g #[x,y,z,u,o] T)(ha:∀w,(isAgg ty).run P w=.ok true w)(hs:∀w,(sizeOf ty).run P w=.ok 5 w):
 (gR fn tmps).run P w=.ok (cN #[x,y,z,u,o]) w:=by
 have RY:tmps[p]?.getD aP=bA (some ⟨g,0,none⟩):=by simpa using hp
 obtain⟨c0,c1,c2,c3,c4,-⟩:=I8 hb;simp[gR,h,go_sem,RY,c0,c1,c2,c3,c4,ha,hs]
theorem bT.set5{W:aF}{b:Nat}{x y z o e:aS}{T:eC}(h:bT W b #[x,y,z,o,e] T)(u v r q j:aS):bT (((((W.setCell ⟨b,0,none⟩ u).setCell ⟨b,1,none⟩ v).setCell ⟨b,2,none⟩ r).setCell ⟨b,3,none⟩ q).setCell ⟨b,4,none⟩ j) b #[u,v,r,q,j] T:=((((h.set 0 u).set 1 v).set 2 r).set 3 q).set 4 j
theorem Mr{B:Nat}{w W:aF}(h:Below B w W){c:Nat}(hc:B≤c)(u v r q j:aS):Below B w (((((W.setCell ⟨c,0,none⟩ u).setCell ⟨c,1,none⟩ v).setCell ⟨c,2,none⟩ r).setCell ⟨c,3,none⟩ q).setCell ⟨c,4,none⟩ j):=
 ((((h.setCell (p:=⟨c,0,none⟩) hc u).setCell (p:=⟨c,1,none⟩) hc v).setCell (p:=⟨c,2,none⟩) hc r).setCell (p:=⟨c,3,none⟩) hc q).setCell (p:=⟨c,4,none⟩) hc j
theorem fr_of(s t:Sd)(w:aF)(hE:iM w)(hD:Qy w)(hs:yJ s=true):aW aC 49 #[s.v,t.v] w (Rt ((YX s t).v) w):=by
 obtain⟨W1,vQ⟩:=nm ((w.alloc (aJ s.cells 74)).alloc (aJ t.cells 74));obtain⟨W0,eQ⟩:=nm (W1.alloc (aJ #[aN false,aD aE 0,aD aE 0,aA ⟨#[]⟩,aA ⟨#[]⟩] 44));obtain⟨h1,h2,h3⟩:=Ky vQ;have DM:W1.heap.size=w.heap.size+1+1:=by rw[←vQ];simp
 have hb0:Below W1.heap.size W1 W0:=by rw[←eQ];exact(aH _ _).alloc (aG _) _
 have h4:bT W0 W1.heap.size #[aN false,aD aE 0,aD aE 0,aA ⟨#[]⟩,aA ⟨#[]⟩] 44:=by rw[←eQ];exact bT.new _ _ _
 rw[DM]at h4;have HB:=zq (aU h3 hb0);have H1:=zq (h1.below hb0 h1.lt);have H2:=zq (h2.below hb0 h2.lt);have H4:=zq h4;have HW:bH (((w.alloc (aJ s.cells 74)).alloc (aJ t.cells 74)).alloc (aJ #[aN false,aD aE 0,aD aE 0,aA ⟨#[]⟩,aA ⟨#[]⟩] 44)=W0):=by show _=_;rw[vQ,eQ]
 obtain⟨eh,hh⟩:=xf s t;have HH:=zq (fun W=>Xn s t W);rw[eh]at HH;have HD:=zq hD;have HE:=zq hE;have ER:bH (YX s t=⟨upN (OR s t),if upN (OR s t)=true then s.x else s.y,drN (OR s t),if s.gable=true then[48]else bJ (mkRat s.run s.rise.toNat),bJ (mkRat s.plate 1)⟩):=rfl;generalize YX s t=F at *;generalize OR s t=h at *;clear h1 h2 h3 h4 hb0 eQ vQ DM hE hD eh;have HS:=zq hs;obtain⟨x,y,rise,run,gable,plate,over⟩:=s;obtain⟨x2,y2,YV,run2,Qw,Qx,YW⟩:=t;unfold Sd.v Sd.cells at *;simp only[]at *;clear hs;refine dE func49 rfl ?_;simp only[ntmps49,bW,bF,bY,cW,cX,bR,bS,cD,bU,cL,bZ];go_upto_region 1 with(fail)
 rw[HW.out];clear HW;obtain⟨s0,s1,s2,s3,s4,s5,s6⟩:=BY H1.out;obtain⟨r0,r1,r2,r3,r4,r5,r6⟩:=BY H2.out;go_wp2_with fail
 refine(HH.out _).mono ?_;rintro e W2⟨rfl,hb⟩;have fR:=zq (aU HB.out hb);have H1':=zq (H1.out.below hb H1.out.lt);have H4':=zq (H4.out.below hb H4.out.lt);obtain⟨d0,d1⟩:=HD.out.below fR.out h hh;clear hb s0 s1 s2 s3 s4 s5 s6 r0 r1 r2 r3 r4 r5 r6 H1 H2 H4 HB HH;generalize upN h=U at *;generalize drN h=D at *;have hI:(h:Int)<4:=by omega
 go_upto_region 2 with(fail)
 obtain⟨V,hV⟩:=nm (W2.alloc (aJ #[aN U,aD aE D] 175));have hb:=(aH _ W2).alloc (aG _) (aJ #[aN U,aD aE D] 175);have hd:=bT.new W2 #[aN U,aD aE D] 175;rw[hV]at hb hd⊢;have HV:=zq (aU fR.out hb);have MW:=zq hd;have H1v:=zq (H1'.out.below hb H1'.out.lt);have H4v:=zq (H4'.out.below hb H4'.out.lt);obtain⟨e0,e1,-,-,-⟩:=rU hd;obtain⟨s0,s1,s2,s3,s4,s5,s6⟩:=BY H1v.out;clear hb hd hV H1' H4' d0 d1 fR;go_upto_region 3 with(fail)
 obtain⟨V3,hV3⟩:=nm (V.alloc (aJ #[aN U,aD aE y,aD aE D,aA ⟨#[48]⟩,aA ⟨#[]⟩] 44));have hb:=(aH _ V).alloc (aG _) (aJ #[aN U,aD aE y,aD aE D,aA ⟨#[48]⟩,aA ⟨#[]⟩] 44);have hf:=bT.new V #[aN U,aD aE y,aD aE D,aA ⟨#[48]⟩,aA ⟨#[]⟩] 44;rw[hV3]at hb hf⊢;have HV3:=zq (aU HV.out hb);have HF:=zq hf;have H1w:=zq (H1v.out.below hb H1v.out.lt);have H4w:=zq (H4v.out.below hb H4v.out.lt);have HDw:=zq (MW.out.below hb MW.out.lt);obtain⟨e0,e1,-,-,-⟩:=rU HDw.out;obtain⟨s0,s1,s2,s3,s4,s5,s6⟩:=BY H1w.out;obtain⟨f0,f1,f2,f3,f4,z0,z1,z2,z3,z4,lf⟩:=I8 hf;have HFB:bH (w.heap.size+1+1<V.heap.size):=H4v.out.lt;clear hb hf hV3 H1v H4v HV MW;obtain⟨FB,hFB⟩:=nm V.heap.size;rw[hFB]at HF f0 f1 f2 f3 f4 z0 z1 z2 z3 z4 lf HFB⊢;clear hFB;obtain⟨p1,p2,p3⟩:=xg HS.out;have HO:=zq (fun W(hW:Below w.heap.size w W)=>Gu plate W (HE.out.below hW) (by omega));rw[N9 plate]at ER;have HQ:bH (gable=false→∀W,Below w.heap.size w W→aW aC 30 #[aD aE run,aD aE rise] W (Rt (cC #[aA (bs (bJ (mkRat run rise.toNat))),aD aE 0]) W)):=fun hg W hW=>by
  obtain⟨q1,q2,q3,q4⟩:=p3 hg;have:=rat_OfD run rise.toNat W (HE.out.below hW) (by omega) (by omega) (by omega);rwa[Int.toNat_of_nonneg (by omega)]at this
 generalize bJ (mkRat run rise.toNat)=QS at *;generalize bJ (plate:Rat)=PS at *;clear p1 p2 p3 HS HE HD;obtain⟨C,hC⟩:∃C,(if U=true then x else y)=C:=⟨_,rfl⟩;have HC:=zq hC;rw[hC]at ER;clear hC;have Ka:bH (w.heap.size≠FB∧w.heap.size+1+1≠FB∧w.heap.size≤FB):=⟨by have:=HFB.out;omega,by have:=HFB.out;omega,by have:=HFB.out;omega⟩;have Oy:=zq (HF.out.set 1 (aD aE x));have HV4:=zq (HV3.out.setCell (p:=⟨FB,1,none⟩) Ka.out.2.2 (aD aE x));have H1x:=zq (H1w.out.other (a:=⟨FB,1,none⟩) (aD aE x) Ka.out.1);have H4x:=zq (H4w.out.other (a:=⟨FB,1,none⟩) (aD aE x) Ka.out.2.1);simp only[aM,aV,bC]at Oy;cases U;case' false=>
  go_upto_region 5 with(fail)
  have hc:y=C:=HC.out;subst hc;have HF5:=HF;have HV5:=HV3;have H15:=H1w;have H45:=H4w;clear Oy HV4 H1x H4x
 case' true=>
  go_upto_region 5 with(fail)
  have hc:x=C:=HC.out;subst hc;have HF5:=Oy;have HV5:=HV4;have H15:=H1x;have H45:=H4x;clear Oy HV4 H1x H4x;generalize V3.setCell ⟨FB,1,none⟩ (aD aE x)=V3 at *
 all_goals
  clear HC HF HV3 H1w H4w HDw e0 e1 s0 s1 s2 s3 s4 s5 s6 f0 f1 f2 f3 f4 z0 z1 z2 z3 z4 lf;obtain⟨s0,s1,s2,s3,s4,s5,s6⟩:=BY H15.out;obtain⟨f0,f1,f2,f3,f4,z0,z1,z2,z3,z4,lf⟩:=I8 HF5.out;have hO:=zq (HO.out _ HV5.out)
 all_goals
  cases gable
  ·have hQ:=zq (HQ.out rfl _ HV5.out);go_wp2_with fail
   refine hQ.out.mono ?_;rintro e V6⟨rfl,hb⟩;have HV6:=zq (aU HV5.out hb);have HF6:=zq (HF5.out.below hb HF5.out.lt);have H16:=zq (H15.out.below hb H15.out.lt);have H46:=zq (H45.out.below hb H45.out.lt);clear hb hQ hO s0 s1 s2 s3 s4 s5 s6 f0 f1 f2 f3 f4 z0 z1 z2 z3 z4 lf HF5 H15 H45 HV5;obtain⟨s0,s1,s2,s3,s4,s5,s6⟩:=BY H16.out;obtain⟨f0,f1,f2,f3,f4,z0,z1,z2,z3,z4,lf⟩:=I8 HF6.out;go_upto_region 7 with(fail)
   have HF7:=zq (HF6.out.set 3 (aA (bs QS)));have HV7:=zq (HV6.out.setCell (p:=⟨FB,3,none⟩) Ka.out.2.2 (aA (bs QS)));have H17:=zq (H16.out.other (a:=⟨FB,3,none⟩) (aA (bs QS)) Ka.out.1);have H47:=zq (H46.out.other (a:=⟨FB,3,none⟩) (aA (bs QS)) Ka.out.2.1);simp only[aM,aV,bC]at HF7;clear s0 s1 s2 s3 s4 s5 s6 f0 f1 f2 f3 f4 z0 z1 z2 z3 z4 lf HF6 H16 H46 HV6;generalize V6.setCell ⟨FB,3,none⟩ (aA (bs QS))=V7 at *;obtain⟨s0,s1,s2,s3,s4,s5,s6⟩:=BY H17.out;have hO:=zq (HO.out _ HV7.out);go_wp2_with fail
   refine hO.out.mono ?_;rintro e V8⟨rfl,hb⟩;have HV8:=zq (aU HV7.out hb);have HF8:=zq (HF7.out.below hb HF7.out.lt);have H48:=zq (H47.out.below hb H47.out.lt);obtain⟨g0,g1,g2,g3,g4,y0,y1,y2,y3,y4,lg⟩:=I8 HF8.out;obtain⟨k0,k1,k2,k3,k4,v0,v1,v2,v3,v4,lk⟩:=I8 H48.out;have hne1:=Ka.out.2.1;have hne2:=Ne.symm Ka.out.2.1;clear hb;go_wp2;refine nV (v:=F.v) (by rw[ER.out];exact AN rfl _ _ (w.heap.size+1+1) _ _ _ _ _ rfl (bT.set5 (H48.out.other (a:=⟨FB,4,none⟩) (aA (bs PS)) hne1) _ _ _ _ _) OS Mq) rfl ⟨rfl,Mr (HV8.out.setCell (p:=⟨FB,4,none⟩) Ka.out.2.2 (aA (bs PS))) (by omega) _ _ _ _ _⟩
  ·go_wp2_with fail
   refine hO.out.mono ?_;rintro e V8⟨rfl,hb⟩;have HV8:=zq (aU HV5.out hb);have HF8:=zq (HF5.out.below hb HF5.out.lt);have H48:=zq (H45.out.below hb H45.out.lt);obtain⟨g0,g1,g2,g3,g4,y0,y1,y2,y3,y4,lg⟩:=I8 HF8.out;obtain⟨k0,k1,k2,k3,k4,v0,v1,v2,v3,v4,lk⟩:=I8 H48.out;have hne1:=Ka.out.2.1;have hne2:=Ne.symm Ka.out.2.1;clear hb;go_wp2;refine nV (v:=F.v) (by rw[ER.out];exact AN rfl _ _ (w.heap.size+1+1) _ _ _ _ _ rfl (bT.set5 (H48.out.other (a:=⟨FB,4,none⟩) (aA (bs PS)) hne1) _ _ _ _ _) OS Mq) rfl ⟨rfl,Mr (HV8.out.setCell (p:=⟨FB,4,none⟩) Ka.out.2.2 (aA (bs PS))) (by omega) _ _ _ _ _⟩
end
section
open Go.Shelf Go Go.RowKit Go.Lib
structure Sl where
 b:Nat
 off:Nat
 len:Nat
 cap:Nat
 cs:List aS
deriving Inhabited
def Sl.v(l:Sl):aS:=aB (some ⟨l.b,l.off,none⟩) l.len l.cap
def Sl.ok(l:Sl):Prop:=l.cs.length=l.len*3∧∀u∈l.cs,u.oneCell'=true
def Sl.Rd(l:Sl)(W:aF):Prop:=∀(j:Nat)(u:aS),l.cs[j]? =some u→W.cell? ⟨l.b,l.off+j,none⟩=some u
def RdS(W:aF)(a:Option cT)(ls:List Sl):Prop:=∀i,i<ls.length→∃b off,a=some ⟨b,off,none⟩∧W.cell? ⟨b,off+i,none⟩=some (ls.getD i default).v∧(ls.getD i default).Rd W
theorem Sl.Rd.below{l:Sl}{W W':aF}(h:l.Rd W)(hb:Below W.heap.size W W'):l.Rd W':=fun j u hu=>(hb.cell (p:=⟨l.b,l.off+j,none⟩) (bG W _ (h j u hu))).trans (h j u hu)
theorem RdS.below{W W':aF}{a:Option cT}{ls:List Sl}(h:RdS W a ls)(hb:Below W.heap.size W W'):RdS W' a ls:=fun i hi=>by
 obtain⟨b,off,rfl,h1,h2⟩:=h i hi
 exact⟨b,off,rfl,(hb.cell (p:=⟨b,off+i,none⟩) (bG W _ h1)).trans h1,h2.below hb⟩
def mF(ls:List Sl):Nat→Nat
 |0=>0
 |k+1=>mF ls k+(ls.getD k default).len
def AO(ls:List Sl):List aS:=ls.flatMap Sl.cs
theorem OT{ls:List Sl}{k:Nat}(hk:k<ls.length):AO (ls.take (k+1))=AO (ls.take k)++(ls.getD k default).cs:=by
 unfold AO;rw[dU hk,Fw];simp[aO,hk]
theorem Qz{ls:List Sl}{n:Nat}(h:∀i,i<n→(ls.getD i default).len≤10000):∀k,k≤n→mF ls k≤k*10000
 |0,_=>aG _
 |k+1,hk=>by
  have h1:=Qz h k (by omega)
  have h2:=h k (by omega)
  rw[mF,Nat.succ_mul];omega
end
section
open Go.Shelf
def Tryz.grS_ren:iK:=⟨fun |4=>145|n=>n,fun |22=>52|25=>74|3=>3|4=>4|9=>9|20=>20|0=>0|n=>n,fun |n=>n⟩
theorem Tryz.grS:JK aC Tryz.grS_ren:={
 mixed:=by kernel_rfl
 f4:=⟨Tryz.f145.name,by decide,func145.trans (congrArg some (by kernel_rfl))⟩
 t0:=underlying0
 a0:=isAgg0
 z0:=sizeOf0
 v0:=zeroValue0
 t3:=underlying3
 a3:=isAgg3
 z3:=sizeOf3
 v3:=zeroValue3
 t4:=underlying4
 a4:=isAgg4
 z4:=sizeOf4
 v4:=zeroValue4
 t9:=underlying9
 a9:=isAgg9
 z9:=sizeOf9
 v9:=zeroValue9
 t20:=underlying20
 a20:=isAgg20
 z20:=sizeOf20
 v20:=zeroValue20
 t22:=Kl
 a22:=isAgg52
 z22:=sizeOf52
 v22:=zeroValue52}
open Go Go.RowKit Go.Lib Go.Shelf
def Sl.ok7(l:Sl):Prop:=l.cs.length=l.len*7∧∀u∈l.cs,u.oneCell'=true
theorem OU:(Tryz.prog.info? 74).map (fun i=>(i.zero,i.size,i.bytes))=some (some (cN #[aD aE 0,aD aE 0,aD aE 0,aD aE 0,aN false,aD aE 0,aD aE 0]),7,56):=by kernel_rfl
theorem growS(n:Nat)(w:aF)(h0:0<n)(hn:n≤100000000):
 aW aC 145 #[aB none 0 0,aD aE n] w fun e w'=>(∃g cap,e=aQ (aB (some ⟨g,0,none⟩) 0 cap)∧w'.ownsRow w.heap.size 74 7 (aB (some ⟨g,0,none⟩) 0 cap) 0 [])∧Below w.heap.size w w':=by
 obtain⟨i0,hi,zL,vX,oL⟩:=vJ OU;have H:=Any8.slices_Grow_grow Tryz.grS i0 (cN #[aD aE 0,aD aE 0,aD aE 0,aD aE 0,aN false,aD aE 0,aD aE 0]) hi zL (by rw[vX];decide) none 0 0 n [] w (aG _) (by omega) (by rw[oL];omega) (by omega) (by simp) (fun _=>rfl) (fun a e=>(by cases e));refine Calls.mono H ?_;rintro e w'⟨rfl,rfl⟩;refine⟨⟨w.heap.size,_,rfl,rfl,.inr ⟨w.heap.size,_,_,rfl,aG _,World.alloc_heap_new w.drew _,bN _,?_,?_,rfl⟩⟩,((aH _ w).drew.alloc (by simp) _)⟩
 ·exact grownCap_le_maxLen w _ _ _ (by unfold dL;omega)
 ·have:=grownCap_ge w (0+n) 0 (Tryz.grS_ren.t 25);rw[tX,tX,Zh,Zh];simp only[Value.cells,bW,bF,bY];generalize grownCap w (0+n) 0 (Tryz.grS_ren.t 25)=c at *;omega
theorem appS{w:aF}{cR:Array gL}{rest:List gL}{o:gL}{a:kZ}{Q:Exit→kZ→aF→Prop}(Is:o.guard=none)(s x:qV)
 (ho:o.op=.call {callee:=.builtin .append,args:= #[s,x],argTypes:= #[52,52]})(base:Nat)
 (gv cv n:Nat)(xs:List aS)(hs:a.eval s=aB (some ⟨gv,0,none⟩) n cv)(hown:w.ownsRow base 74 7 (aB (some ⟨gv,0,none⟩) n cv) n xs)
 (l:Sl)(hx:a.eval x=l.v)(hl:l.ok7)(hr:l.Rd w)(M8:n+l.len≤100000000)(kJ:base≤w.heap.size)
 (h:∀g cap w',w'.ownsRow base 74 7 (aB (some ⟨g,0,none⟩) (n+l.len) cap) (n+l.len) (xs++l.cs)→base≤g→w.grownBy w' (some gv)→
  wpList aC cR Q rest (a.put o.dst (aB (some ⟨g,0,none⟩) (n+l.len) cap)) w'):
 wpList aC cR Q (o::rest) a w:=by
 obtain⟨i0,hi,zL,vX,oL⟩:=vJ OU;refine wpList_append_own _ Is s x 52 ho base 74 i0 (cN #[aD aE 0,aD aE 0,aD aE 0,aD aE 0,aN false,aD aE 0,aD aE 0]) 7 56 Kl hi zL vX oL rfl (by decide) _ n xs hs hown ⟨l.b,l.off,none⟩ l.len l.cap l.cs hx hl.1 (fun j u hj=>by rw[XN];exact hr j u hj) hl.2
  (by unfold dL;omega) (by omega) kJ ?_
 intro v' w' oR hg It;rcases oR.2 with⟨h1,h2⟩|⟨g',M9,yU,hv,h3,-⟩
 ·have:=(It.1 h1).1;cases this
 ·subst hv;exact h g' M9 w' oR h3 hg
theorem concatS(a:Option cT)(n ca:Nat)(ls:List Sl)(w:aF)(hl:ls.length=n)(hn:n≤1000)(wG:∀l∈ls,l.len≤10000∧l.ok7)(hpos:0<mF ls n)(rl:RdS w a ls):
 aW aC 71 #[aB a n ca] w fun e w'=>(∃g cap,e=aQ (aB (some ⟨g,0,none⟩) (mF ls n) cap)∧w'.ownsRow w.heap.size 74 7 (aB (some ⟨g,0,none⟩) (mF ls n) cap) (mF ls n) (AO ls))∧Below w.heap.size w w':=by
 have hok:∀i,i<n→(ls.getD i default).len≤10000∧(ls.getD i default).ok7:=fun i hi=>wG _ (eB (by omega) default);have Zx:∀k,k≤n→mF ls k≤k*10000:=fun k hk=>Qz (fun i hi=>(hok i (by omega)).1) k hk;have GJ:∀k,k≤n→mF ls k≤10000000:=fun k hk=>by have:=Zx k hk;have:k*10000≤1000*10000:=Nat.mul_le_mul_right _ (by omega);omega
 have HA:bH (∀k,k<n→AO (ls.take (k+1))=AO (ls.take k)++(ls.getD k default).cs):=fun k hk=>OT (by omega);have HAn:bH (AO (ls.take n)=AO ls):=by show _=_;rw[List.take_of_length_le (by omega)]
 have Hm:bH (∀k,k<n→mF ls (k+1)=mF ls k+(ls.getD k default).len):=fun k _=>rfl;have Hb:=zq GJ;have ZR:=zq hok;have Hl:=zq hl;have Rl:=zq rl;have HG:=zq (fun W=>growS (mF ls n) W hpos (by have:=GJ n (aG _);omega));have hbn:=GJ n (aG _);clear hl wG rl Zx GJ hok;go_enter func71,ntmps71;go_wp2;go_loop [3,11] (fun s i=>∃k:Nat,i=aD aE k∧k≤n∧s=aD aE (mF ls k:Nat)) (fun _ i=>n-(aK i).toNat);case atStart=>exact⟨0,rfl,bN _,rfl⟩
 case round=>
  obtain⟨k,rfl,hk,rfl⟩:=hrel;by_cases hlt:k<n
  ·obtain⟨lb,lo,rfl,c0,-⟩:=Rl.out k (by rw[Hl.out];exact hlt);have b1:=Hb.out k hk;have b2:=Hb.out (k+1) hlt;have e2:=Hm.out k hlt;have HE:=zq e2;rw[e2]at b2;clear e2;generalize ls.getD k default=l at *;unfold Sl.v at c0;generalize l.len=m at *;generalize l.b=la at *;generalize l.off=lof at *;generalize l.cap=lc at *;obtain⟨s1,Ei⟩:∃s,mF ls (k+1)=s:=⟨_,rfl⟩;rw[Ei]at HE;have TJ:=zq Ei;clear Ei;generalize mF ls k=s0 at *;go_wp2;go_round;case rel=>exact⟨k+1,by go_num,by omega,by rw[TJ.out,HE.out];go_num⟩
   case measure=>simp only[aK];omega
  ·obtain rfl:n=k:=by omega
   obtain⟨N,hN⟩:∃N,mF ls n=N:=⟨_,rfl⟩;rw[hN]at HG hbn⊢;have HN:=zq hN;clear hN hpos;go_wp2_with fail
   refine(HG.out _).mono ?_;rintro e W1⟨⟨g0,vi,rfl,JE⟩,hb1⟩;have eW:=zq hb1;have Nq:=zq JE;clear hb1 JE HG;go_wp2;go_loopw[6,27] (fun o i wr=>∃(k g cap:Nat),i=aD aE k∧k≤n∧o=aB (some ⟨g,0,none⟩) (mF ls k) cap∧bH (wr.ownsRow w.heap.size 74 7 (aB (some ⟨g,0,none⟩) (mF ls k) cap) (mF ls k) (AO (ls.take k)))∧bH (Below w.heap.size w wr)) (fun _ i _=>n-(aK i).toNat);case atStart=>exact⟨0,g0,vi,rfl,bN _,rfl,Nq.out,eW.out⟩
   case round=>
    clear eW Nq;obtain⟨k,g,cap,rfl,hk,rfl,qO,HB⟩:=hrel;by_cases hlt2:k<n
    ·obtain⟨lb,lo,rfl,c0,rp⟩:=(Rl.out.below HB.out) k (by rw[Hl.out];exact hlt2);have HE:=zq (Hm.out k hlt2);have b2:=Hb.out (k+1) hlt2;rw[HE.out]at b2;have HAk:=zq (HA.out k hlt2);have Rp:=zq rp;have Ok:=zq (ZR.out k hlt2).2;clear rp;generalize ls.getD k default=l at *;obtain⟨lbb,lof,m,lc,cs⟩:=l;unfold Sl.v at c0;simp only[]at *;obtain⟨s1,Ei⟩:∃s,mF ls (k+1)=s:=⟨_,rfl⟩;rw[Ei]at HE;have TJ:=zq Ei;clear Ei;generalize mF ls k=s0 at *;have hown:=qO.out;have Ru:=HB.out.size;have hb3:s0+m≤100000000:=by omega
     go_wp2_with (at_builtin;refine appS rfl _ _ rfl w.heap.size g cap s0 _ rfl hown ⟨lbb,lof,m,lc,cs⟩ rfl Ok.out Rp.out hb3 Ru ?_;intro g5 WO w5 rS uw CV;simp only[]at rS)
     have yI:=zq (eP (v:=aB (some ⟨g,0,none⟩) s0 cap) HB.out CV hown (aG _) Ru);rw[←HAk.out,←HE.out]at rS;have HO5:=zq rS;clear hown rS CV;go_wp2;go_roundw;case rel=>exact⟨k+1,g5,WO,by go_num,by omega,by rw[TJ.out,HE.out],by rw[TJ.out];exact HO5.out,yI.out⟩
     case measure=>simp only[aK];omega
    ·obtain rfl:n=k:=by omega
     rw[HAn.out,HN.out]at qO;rw[HN.out];go_wp2;go_ret;exact⟨⟨g,cap,by first |rfl|(rw[HN.out];rfl),by rw[HN.out];exact qO.out⟩,HB.out⟩
end
section
open Go Go.RowKit Go.Lib
def lH(l:List Sd):List aS:=l.flatMap fun s=>s.cells.toList
theorem Da(l:List Sd):(lH l).length=l.length*7:=by
 induction l with
 |nil=>rfl
 |cons q qs ih=>simp[lH]at *;omega
theorem Fl:∀(l:List Sd)(i j:Nat),i<l.length→j<7→(lH l)[i*7+j]? =some ((l.getD i default).cells.getD j aP)
 |[],i,_,h,_=>by simp at h
 |q::qs,0,j,_,hj=>by
  have e:lH (q::qs)=q.cells.toList++lH qs:=rfl
  rw[e,oC,dZ,Bb (by simpa using hj)]
  match j,hj with
  |0,_=>rfl
  |1,_=>rfl
  |2,_=>rfl
  |3,_=>rfl
  |4,_=>rfl
  |5,_=>rfl
  |6,_=>rfl
 |q::qs,i+1,j,h,hj=>by
  have e:lH (q::qs)=q.cells.toList++lH qs:=rfl
  rw[e,lU (by simp;omega),show(i+1)*7+j-q.cells.toList.length=i*7+j by simp;omega]
  exact Fl qs i j (by simpa using h) hj
theorem lE.own{w:aF}{base e:Nat}{a:Option cT}{n cap:Nat}{l:List Sd}(h:w.ownsRow base e 7 (aB a n cap) n (lH l)):lE w a l:=by
 intro i hi;have hl:=h.1;rw[Da]at hl;rcases h.2 with⟨_,h2⟩|⟨g,c,yU,hv,_⟩
 ·omega
 ·injection hv with e1 e2 e3;subst e1 e3;refine⟨g,0,rfl,fun j hj=>?_⟩;rw[dZ,eX h (i*7+j) (by omega)];exact Fl l i j hi hj
def RE(r:Rg):Sl:=match r.a with
 |some p=>⟨p.block,p.off,r.ss.length,r.cap,lH r.ss⟩
 |none=>⟨0,0,0,0,[]⟩
def eK(rs:List Rg):List Sd:=rs.flatMap Rg.ss
theorem xh{w:aF}{r:Rg}(h:lE w r.a r.ss)(h0:0<r.ss.length):∃b off,r.a=some ⟨b,off,none⟩∧RE r=⟨b,off,r.ss.length,r.cap,lH r.ss⟩∧(RE r).v=r.v∧(RE r).Rd w:=by
 obtain⟨b,off,e,-⟩:=h 0 h0;obtain⟨ra,rc,rss⟩:=r;simp only at *;subst e;refine⟨b,off,rfl,rfl,rfl,fun j u hj=>?_⟩;have hj7:j<rss.length*7:=by rw[←Da];exact(List.getElem?_eq_some_iff.1 hj).1
 obtain⟨b',o',e,c⟩:=h (j/7) (by omega);injection e with e;injection e with e1 e2;subst e1 e2;have e3:(RE ⟨some ⟨b,off,none⟩,rc,rss⟩).cs[j]? =some ((rss.getD (j/7) default).cells.getD (j%7) aP):=by
  have:=Fl rss (j/7) (j%7) (by omega) (by omega);rwa[show j/7*7+j%7=j by omega]at this
 rw[hj]at e3;injection e3 with e3;have:=c (j%7) (by omega);rw[show off+j/7*7+j%7=off+j by omega]at this;rw[e3];exact this
theorem Ug(l m:List Sd):lH (l++m)=lH l++lH m:=by simp[lH]
theorem et{rs:List Rg}:(∀r∈rs,(RE r).cs=lH r.ss)→AO (rs.map RE)=lH (eK rs):=by
 induction rs with
 |nil=>intro _;rfl
 |cons r t ih=>
  intro h;have e1:AO ((r::t).map RE)=(RE r).cs++AO (t.map RE):=rfl;have e2:eK (r::t)=r.ss++eK t:=rfl;rw[e1,e2,Ug,ih (fun q hq=>h q (List.mem_cons_of_mem _ hq)),h r oJ]
theorem xi(l:List Sd):∀u∈lH l,u.oneCell'=true:=by
 intro u hu;obtain⟨s,-,h⟩:=List.mem_flatMap.1 hu;simp at h;rcases h with rfl|rfl|rfl|rfl|rfl|rfl|rfl<;>rfl
theorem eu{rs:List Rg}(h:∀r∈rs,(RE r).len=r.ss.length):mF (rs.map RE) rs.length=(eK rs).length:=by
 have TU:∀k,k≤rs.length→mF (rs.map RE) k=(eK (rs.take k)).length:=by
  intro k;induction k with
  |zero=>intro _;simp[mF,eK]
  |succ k ih=>
   intro hk;have JM:k<rs.length:=hk;rw[mF,ih (fZ JM),dU JM];unfold eK;rw[Fw,cP];congr 1;simp[aO,JM,h _ (Cc JM)]
 rw[TU _ (aG _),zw]
theorem Uh(a:Option cT)(N ca:Nat)(rs:List Rg)(w:aF)(hl:rs.length=N)(hN:N≤1000)(hN0:0<N)(hn:∀r∈rs,r.ss.length≤1000∧0<r.ss.length)(rr:GL w a rs):
 aW aC 71 #[aB a N ca] w fun e w'=>(∃g cap,e=aQ (aB (some ⟨g,0,none⟩) (eK rs).length cap)∧lE w' (some ⟨g,0,none⟩) (eK rs))∧Below w.heap.size w w':=by
 have hX:∀r∈rs,∃b off,r.a=some ⟨b,off,none⟩∧RE r=⟨b,off,r.ss.length,r.cap,lH r.ss⟩∧(RE r).v=r.v∧(RE r).Rd w:=fun r hr=>by
  obtain⟨i,hi,rfl⟩:=eU hr;obtain⟨b,o,-,-,h⟩:=rr i hi;have e:rs.getD i default=rs[i]:=by simp[aO,hi]
  rw[e]at h;exact xh h (hn _ hr).2
 have hs:=eu (rs:=rs) (fun r hr=>by obtain⟨b,o,-,e,-⟩:=hX r hr;rw[e]);have ha:=et (rs:=rs) (fun r hr=>by obtain⟨b,o,-,e,-⟩:=hX r hr;rw[e]);rw[hl]at hs;have hpos:0<(eK rs).length:=by
  obtain⟨r,t,rfl⟩:∃r t,rs=r::t:=by
   cases rs with
   |nil=>simp at hl;omega
   |cons r t=>exact⟨r,t,rfl⟩
  have:=(hn r oJ).2;have e2:eK (r::t)=r.ss++eK t:=rfl;rw[e2,cP];omega
 have H:=concatS a N ca (rs.map RE) w (by simpa using hl) hN (fun l ji=>by
  obtain⟨r,hr,rfl⟩:=List.mem_map.1 ji;obtain⟨b,o,-,e,-⟩:=hX r hr;rw[e];exact⟨by have:=(hn r hr).1;show r.ss.length≤10000;omega,Da _,xi _⟩) (by rw[hs];exact hpos) (fun i hi=>by
   have rm:i<rs.length:=by simpa using hi
   obtain⟨b,o,e,c,-⟩:=rr i rm;have e1:(rs.map RE).getD i default=RE rs[i]:=by simp[aO,rm]
   have e2:rs.getD i default=rs[i]:=by simp[aO,rm]
   obtain⟨b2,o2,-,e3,e4,e5⟩:=hX rs[i] (Cc rm);refine⟨b,o,e,?_,?_⟩
   ·rw[e1,e4,←e2];exact c
   ·rw[e1];exact e5)
 rw[hs,ha]at H;refine H.mono ?_;rintro e w'⟨⟨g,cap,rfl,h⟩,hb⟩;exact⟨⟨g,cap,rfl,lE.own h⟩,hb⟩
theorem xj (g:FI) (lb:Array aS) (eg:∀ args w,(uQ g args).run aC w= .ok (.enter g args) w) (a:Option cT) (n cap:Nat) (xs:List Sd) (p:Nat→Bool) (w:aF)
 (hn:xs.length=n) (sT:n≤9223372036854775807) (hc:lE w a xs)
 (hp:∀ i,i < n→∀ W,Below w.heap.size w W→aW aC g (#[(xs.getD i default).v] ++ lb) W (Rt (aN (p i)) W)) :
 aW aC 191 #[aB a n cap, .func (.func g) #[] lb] w (Rt (aD aE (mD p n)) w):=by
 have Hc:=zq hc;have Hn:=zq hn;have Hp:=zq hp;clear hc hn hp;go_enter func191,ntmps191;go_wp2;go_loopw [5,8] (fun _ i wr=> ∃ k:Nat,i=aD aE k∧k≤n∧Below w.heap.size w wr∧bH (mD p k= -1)) (fun _ i _=> n - (aK i).toNat);case atStart=> exact⟨0,rfl,bN _,aH _ w,rfl⟩
 case round=>
  obtain⟨k,rfl,hk,hB,hz⟩:=hrel;by_cases hlt:k < n
  ·obtain⟨b,off,rfl,c0,c1,c2,c3,c4,c5,c6⟩:=(Hc.out.below hB).at (i:=k) (by rw [Hn.out];exact hlt) rfl;have IQ:=zq (Hp.out k hlt);unfold Sd.v Sd.cells at IQ;generalize xs.getD k default=x at *;cases hq:p k with
   | true=>
    rw [hq] at IQ;have R:bH (mD p n=k):=Aj hz.out hq hlt;clear hq;go_wp2_with fail
    refine(IQ.out _ hB).mono ?_;rintro e W1 ⟨rfl,hb1⟩;go_wp2;go_ret;exact⟨by rw [R.out] <;> rfl,aR hB hb1 hB.size⟩
   | false=>
    rw [hq] at IQ;have oL:bH (mD p (k + 1)= -1):=Ai hz.out hq;clear hq;go_wp2_with fail
    refine(IQ.out _ hB).mono ?_;rintro e W1 ⟨rfl,hb1⟩;go_wp2;go_roundw;case rel=> exact⟨k + 1,by go_num,by omega,aR hB hb1 hB.size,oL⟩
    case measure=> simp only [aK];omega
  ·obtain rfl:n=k:=by omega
   go_wp2;go_ret;exact⟨by rw [hz.out] <;> rfl,hB⟩
theorem xk(g:FI)(lb:Array aS)(eg:∀args w,(uQ g args).run aC w=.ok (.enter g args) w)(a:Option cT)(n cap:Nat)(xs:List Sd)(p:Nat→Bool)(w:aF)
 (hn:xs.length=n)(sT:n≤9223372036854775807)(hc:lE w a xs)
 (hp:∀i,i<n→∀W,Below w.heap.size w W→aW aC g (#[(xs.getD i default).v]++lb) W (Rt (aN (p i)) W)):
 aW aC 116 #[aB a n cap,.func (.func g) #[] lb] w (Rt (aN (anyN p n)) w):=by
 have HI:=zq (xj g lb eg a n cap xs p w hn sT hc hp);have R:bH (∀c,mD p n=c→anyN p n=decide (0≤c)):=fun c h=>by rw[←h];exact Ak p n
 clear hp hc hn;generalize mD p n=c at *;have R:=zq (R.out c rfl);go_enter func116,ntmps116;go_wp2_with fail
 refine HI.out.mono ?_;rintro e W1⟨rfl,hb1⟩;go_wp2;go_ret;exact⟨by rw[R.out]<;>rfl,hb1⟩
theorem xl (g:FI) (lb:Array aS) (eg:∀ args w,(uQ g args).run aC w= .ok (.enter g args) w) (a:Option cT) (n cap:Nat) (xs:List Rg) (p:Nat→Bool) (w:aF)
 (hn:xs.length=n) (sT:n≤9223372036854775807) (hc:GL w a xs)
 (hp:∀ i,i < n→∀ W,Below w.heap.size w W→aW aC g (#[aB (xs.getD i default).a (xs.getD i default).ss.length (xs.getD i default).cap] ++ lb) W (Rt (aN (p i)) W)) :
 aW aC 193 #[aB a n cap, .func (.func g) #[] lb] w (Rt (aD aE (mD p n)) w):=by
 have Hc:=zq hc;have Hn:=zq hn;have Hp:=zq hp;clear hc hn hp;go_enter func193,ntmps193;go_wp2;go_loopw [5,8] (fun _ i wr=> ∃ k:Nat,i=aD aE k∧k≤n∧Below w.heap.size w wr∧bH (mD p k= -1)) (fun _ i _=> n - (aK i).toNat);case atStart=> exact⟨0,rfl,bN _,aH _ w,rfl⟩
 case round=>
  obtain⟨k,rfl,hk,hB,hz⟩:=hrel;by_cases hlt:k < n
  ·obtain⟨b,off,rfl,c0,_⟩:=(Hc.out.below hB).at (i:=k) (by rw [Hn.out];exact hlt) rfl;have IQ:=zq (Hp.out k hlt);generalize xs.getD k default=x at *;cases hq:p k with
   | true=>
    rw [hq] at IQ;have R:bH (mD p n=k):=Aj hz.out hq hlt;clear hq;go_wp2_with fail
    refine(IQ.out _ hB).mono ?_;rintro e W1 ⟨rfl,hb1⟩;go_wp2;go_ret;exact⟨by rw [R.out] <;> rfl,aR hB hb1 hB.size⟩
   | false=>
    rw [hq] at IQ;have oL:bH (mD p (k + 1)= -1):=Ai hz.out hq;clear hq;go_wp2_with fail
    refine(IQ.out _ hB).mono ?_;rintro e W1 ⟨rfl,hb1⟩;go_wp2;go_roundw;case rel=> exact⟨k + 1,by go_num,by omega,aR hB hb1 hB.size,oL⟩
    case measure=> simp only [aK];omega
  ·obtain rfl:n=k:=by omega
   go_wp2;go_ret;exact⟨by rw [hz.out] <;> rfl,hB⟩
theorem xm(g:FI)(lb:Array aS)(eg:∀args w,(uQ g args).run aC w=.ok (.enter g args) w)(a:Option cT)(n cap:Nat)(xs:List Rg)(p:Nat→Bool)(w:aF)
 (hn:xs.length=n)(sT:n≤9223372036854775807)(hc:GL w a xs)
 (hp:∀i,i<n→∀W,Below w.heap.size w W→aW aC g (#[aB (xs.getD i default).a (xs.getD i default).ss.length (xs.getD i default).cap]++lb) W (Rt (aN (p i)) W)):
 aW aC 119 #[aB a n cap,.func (.func g) #[] lb] w (Rt (aN (anyN p n)) w):=by
 have HI:=zq (xl g lb eg a n cap xs p w hn sT hc hp);have R:bH (∀c,mD p n=c→anyN p n=decide (0≤c)):=fun c h=>by rw[←h];exact Ak p n
 clear hp hc hn;generalize mD p n=c at *;have R:=zq (R.out c rfl);go_enter func119,ntmps119;go_wp2_with fail
 refine HI.out.mono ?_;rintro e W1⟨rfl,hb1⟩;go_wp2;go_ret;exact⟨by rw[R.out]<;>rfl,hb1⟩
theorem ew(a:Option cT)(n cap:Nat)(l:List Sd)(w:aF)(hl:l.length=n)(hn:n≤1000)(hC:FE l)(r:lE w a l):
 aW aC 120 #[aB a n cap] w (Rt (aN (!uO l)) w):=by
 have HS:=zq (dz a n cap l w hl hn hC r);clear r hl hC;generalize uO l=B at *;refine dE func120 rfl ?_;simp only[ntmps120,bW,bF,bY,cW,cX,bR,bS,cD,bU,cL,bZ];go_wp2_with fail
 refine HS.out.mono ?_;rintro e W⟨rfl,hb⟩;go_wp2;exact nV (iB Tryz.results120 _ _ _) rfl ⟨rfl,hb⟩
theorem sgI_pos{n:Int}:0<uZ n↔0<n:=by
 unfold uZ;split
 ·omega
 ·split <;>omega
theorem sgI_neg{n:Int}:uZ n<0↔n<0:=by
 unfold uZ;split
 ·omega
 ·split <;>omega
theorem vA(n:Int):uZ n= -1∧n<0∨uZ n=0∧n=0∨uZ n=1∧0<n:=by
 have h1:= @sgI_pos n;have h2:= @sgI_neg n;have h3:=pO n;omega
theorem QB(a b:Int):(0<uZ a*uZ b→0<a*b)∧(uZ a*uZ b<0→a*b<0):=by
 rcases vA a with⟨e,h⟩|⟨e,h⟩|⟨e,h⟩<;>rcases vA b with⟨e2,h2⟩|⟨e2,h2⟩|⟨e2,h2⟩<;>rw[e,e2]<;>(constructor <;>intro k<;>first |(exfalso;revert k;decide)|skip)
 ·exact Int.mul_pos_of_neg_of_neg h h2
 ·exact Int.mul_neg_of_neg_of_pos h h2
 ·exact Int.mul_neg_of_pos_of_neg h h2
 ·exact Int.mul_pos h h2
theorem lft_of{l:List Sd}{k:Nat}(hk:k<l.length)(hs:uO l=true)(h:0<Vn l k):DS (l.getD (pre l.length k) default) (l.getD k default) (jG l k)=true:=by
 unfold uO at hs;simp only[bK,iH]at hs;have b:=dC.1 hs.1 _ (zV hk);unfold xS at b;simp only[dO,Bool.not_eq_false',decide_eq_true_eq]at b;have b1:=b.1;unfold Vn at h;unfold FG dY at b1 h;rw[AK hk]at b1 h;unfold DS;rw[decide_eq_true_iff];generalize(l.getD k default).x-(l.getD (pre l.length k) default).x=p at *;generalize(l.getD k default).y-(l.getD (pre l.length k) default).y=q at *;generalize(jG l k).x-(l.getD k default).x=c at *;generalize(jG l k).y-(l.getD k default).y=d at *;have m1:=QB p d;have m2:=QB q c;rcases vA p with⟨e,h1⟩|⟨e,h1⟩|⟨e,h1⟩<;>rcases vA q with⟨e2,h2⟩|⟨e2,h2⟩|⟨e2,h2⟩<;>rw[e,e2]at b1<;>first |(exfalso;revert b1;decide)|skip
 all_goals first
  |(subst h1;rw[show uZ 0*uZ d=0 by rw[e,D6]]at h;have:=m2.2 (by omega);rw[D6];omega)
  |(subst h2;rw[show uZ 0*uZ c=0 by rw[e2,D6]]at h;have:=m1.1 (by omega);rw[D6];omega)
theorem jnd_of{f:Nat→List Sd}{N:Nat}(hs:∀r,r<N→uO (f r)=true)(h:GM f N=true):Ue f N=true:=by
 unfold GM at h;unfold Ue;simp only[bK,iH]at *;refine⟨dC.2 fun r hr=>dC.2 fun k hk=>?_,h.2⟩;have h1:=dC.1 (dC.1 h.1 r hr) k hk;have h2:=hs r hr;unfold Er at h1;unfold jnX;rcases Int.lt_trichotomy (Vn (f r) k) 0 with c|c|c
 ·rw[decide_eq_true c,Bool.true_and]at h1;rw[h1,Bool.and_false]
 ·unfold uO at h2;simp only[bK,iH]at h2;have b:=dC.1 h2.1 k hk;unfold xS at b;rw[decide_eq_true c,Bool.or_true]at b;cases b
 ·rw[lft_of hk h2 c];rfl
theorem wW{f:Nat→List Sd}{N:Nat}(h:qQ f N=0):N≠0∧anyN (J8 f) N=false∧dA f N≤24∧anyN (Fi f) N=false∧anyN (Fj f) N=false∧I4 f N=false∧C8 f N=true∧GM f N=true:=by
 by_cases h0:N=0
 ·rw[YS h0]at h;cases h
 cases h1:anyN (J8 f) N;case true=>rw[YT h1]at h;cases h
 rw[YU h0 h1]at h;by_cases h2:24<dA f N
 ·rw[ip h2]at h;cases h
 rw[iN h2]at h;cases h3:anyN (Fi f) N;case true=>rw[ip h3]at h;cases h
 rw[iN (by rw[h3];decide)]at h;cases h4:anyN (Fj f) N;case true=>rw[ip h4]at h;cases h
 rw[iN (by rw[h4];decide)]at h;cases h5:I4 f N;case true=>rw[ip h5]at h;cases h
 rw[iN (by rw[h5];decide)]at h;cases h6:C8 f N<;>cases h7:GM f N<;>rw[h6,h7]at h<;>first |(cases h;done)|exact⟨h0,rfl,by omega,rfl,rfl,rfl,rfl,rfl⟩|(revert h;decide)
theorem sid_all{rs:List Rg}{N:Nat}(hl:rs.length=N)(h:anyN (Fi (bQ rs)) N=false):∀s∈eK rs,yJ s=true:=fun s hs=>by
 obtain⟨r,hr,hs⟩:=List.mem_flatMap.1 hs
 obtain⟨i,hi,rfl⟩:=eU hr
 obtain⟨j,hj,rfl⟩:=eU hs
 have e:bQ rs i=rs[i].ss:=by unfold bQ;simp[aO,hi]
 have h1:=dC.1 h i (by omega)
 unfold Fi at h1
 rw[e]at h1
 have h2:=dC.1 h1 j hj
 unfold J9 at h2
 rw[show(rs[i].ss).getD j default=rs[i].ss[j] by simp[aO,hj]]at h2
 simpa using h2
theorem AP{rs:List Rg}:dA (bQ rs) rs.length=(eK rs).length:=by
 have TU:∀k,k≤rs.length→dA (bQ rs) k=(eK (rs.take k)).length:=by
  intro k;induction k with
  |zero=>intro _;simp[dA,eK]
  |succ k ih=>
   intro hk;have JM:k<rs.length:=hk;rw[dA,ih (fZ JM),dU JM];unfold eK;rw[Fw,cP];congr 1;unfold bQ;simp[aO,JM]
 rw[TU _ (aG _),zw]
theorem Xo (a:Option cT) (N cap:Nat) (rs:List Rg) (w:aF) (hl:rs.length=N) (hN:N≤1000) (hn:∀ r,(bQ rs r).length≤1000) (rr:GL w a rs) (h0:qQ (bQ rs) N=0)
 (hX:∀ W,Below w.heap.size w W→aW aC 122 #[aB a N cap] W (Rt (aN false) W)) :
 aW aC 48 #[cN #[aB a N cap]] w (Rt (aD aE 0) w):=by
 obtain⟨c0,c1,c2,c3,c4,c5,c6,c7⟩:=wW h0;have hp:∀ r,r < N→0 < (bQ rs r).length:=fun r hr=> by
  have:=dC.1 c1 r hr;unfold J8 at this;have:=of_decide_eq_false this;omega
 have hC:∀ r,FE (bQ rs r):=GO (fun r hr=> Dx (by omega)) c3;have Ym:∀ r,r < N→uO (bQ rs r)=true:=fun r hr=> by
  have:=dC.1 c4 r hr;unfold Fj at this;simpa using this
 have Fy:(eK rs).length≤24:=by rw [← AP,hl];exact c2
 have Fg:∀ k,k≤N→dA (bQ rs) k≤24:=fun k hk=> bE (qU hk) c2;have Fc:∀ r∈rs,r.ss.length≤1000∧0 < r.ss.length:=fun r hr=> by
  obtain⟨i,hi,rfl⟩:=eU hr;have e:bQ rs i=rs[i].ss:=by unfold bQ;simp [aO,hi]
  rw [← e];exact⟨hn i,hp i (by omega)⟩
 have HCc:=zq (fun W (hW:Below w.heap.size w W)=> Uh a N cap rs W hl hN (by omega) Fc (rr.below hW));have hsid:=sid_all hl c3;have dd:=zq (fun g c W (r:lE W (some ⟨g,0,none⟩) (eK rs))=> xk 117 #[] (enters_of func117 (by kernel_rfl) rfl) (some ⟨g,0,none⟩) (eK rs).length c (eK rs) (fun i=> !yJ ((eK rs).getD i default)) W rfl (by omega) r (fun i _ W2 _=> by
  rw [H8];exact ef _ W2))
 have E1:bH (anyN (fun i=> !yJ ((eK rs).getD i default)) (eK rs).length=false):=dC.2 fun i hi=> by rw [hsid _ (eB hi default)];rfl
 have bo:=zq (fun W (hW:Below w.heap.size w W)=> xm 120 #[] (enters_of func120 (by kernel_rfl) rfl) a N cap rs (fun r=> !uO (bQ rs r)) W hl (by omega) (rr.below hW) (fun i hi W2 h2=> by
  rw [H8];exact ew _ _ _ (bQ rs i) W2 rfl (hn i) (hC i) (((rr.below hW).below h2).at (i:=i) (by omega) rfl).choose_spec.choose_spec.2.2))
 have E2:bH (anyN (fun r=> !uO (bQ rs r)) N=false):=dC.2 fun r hr=> by rw [Ym r hr];rfl
 have wz:=zq (fun W (hW:Below w.heap.size w W)=> em a N cap rs W hl hN hn hp hC (rr.below hW));rw [ppl_of c6] at wz;have HJn:=zq (fun W (hW:Below w.heap.size w W)=> ep a N cap rs W hl hN hn hC (rr.below hW));rw [jnd_of Ym c7] at HJn;rw [E1.out] at dd;rw [E2.out] at bo;have HX:=zq hX;have HR:=zq rr;have HL:=zq hl;have HP:=zq hp;have HN0:=zq c0;have J5:=zq Fg;have WV:bH (dA (bQ rs) N=(eK rs).length):=by show _=_;rw [← AP,hl]
 clear hX rr hl hp c0 c1 c2 c3 c4 c5 c6 c7 hC Ym Fg Fc hsid E1 E2 h0 hn;have fA:=(aH _ w).alloc (aG _) (aJ #[aB a N cap] 24);have rG:=bT.new w #[aB a N cap] 24;obtain⟨W0,eQ⟩:=nm (w.alloc (aJ #[aB a N cap] 24));rw [eQ] at fA rG;have gY:=zq fA;have tD:=zq rG;have b0:=rG.cell 0;simp only [aL,aI] at b0;have HW:=zq eQ;clear fA rG eQ;refine dE func48 rfl ?_;simp only [ntmps48,bW,bF,bY,cW,cX,bR,bS,cD,bU,cL,bZ];go_upto_region 1 with (fail)
 rw [HW.out];clear HW;go_wp2;go_loopw [3,9] (fun t i wr=> ∃ r:Nat,i=aD aE r∧t=aD aE (dA (bQ rs) r:Nat)∧r≤N∧bH (Below W0.heap.size W0 wr)) (fun _ i _=> N - (aK i).toNat);case atStart=> exact⟨0,rfl,rfl,bN _,aH _ _⟩
 case round=>
  clear b0;obtain⟨r,rfl,rfl,hr,HB⟩:=hrel;rename aF=> wr;have b0:=(tD.out.below HB.out tD.out.lt).cell 0;simp only [aL,aI] at b0;by_cases hrN:r < N
  ·obtain⟨b,o,rfl,c0, -⟩:=(HR.out.below (aU gY.out HB.out)).at (i:=r) (by rw [HL.out];exact hrN) rfl;rw [show(rs.getD r default).ss.length=(bQ rs r).length from rfl] at c0;have Fg:=J5.out r hr;have hct2:=J5.out (r + 1) hrN;have jo:=HP.out r hrN;have E1:bH (dA (bQ rs) (r + 1)=dA (bQ rs) r + (bQ rs r).length):=rfl;rw [E1.out] at hct2;generalize dA (bQ rs) r=C at *;generalize (bQ rs r).length=n at *;have wh:(r:Int) < N:=by omega
   have Yp:((n:Int)==0)=false:=by rw [beq_eq_false_iff_ne];omega
   go_wp2;go_roundw;case rel=> exact⟨r + 1,by go_num,by rw [E1.out] <;> go_num,by omega,HB.out⟩
   case measure=> simp only [aK];omega
  ·obtain rfl:N=r:=by omega
   have hc:=J5.out N hr;have hpos:0 < dA (bQ rs) N:=by
    have h1:=HP.out 0 (by have:=HN0.out;omega);have h2:=Mn (f:=bQ rs) (N:=N) (r:=0) (by have:=HN0.out;omega);omega
   generalize dA (bQ rs) N=C at *;have Yp:((C:Int)==0)=false:=by rw [beq_eq_false_iff_ne];omega
   have vR:=zq (aU gY.out HB.out);have HC:=zq (HCc.out _ vR.out);go_wp2_with fail
   refine HC.out.mono ?_;rintro e W1 ⟨⟨g,c,rfl,hs⟩,hb⟩;have HBw1:=zq (aU vR.out hb);have eW:=zq (aU HB.out hb);have H1:=zq (dd.out g c W1 hs);have b0:=cF hb b0;clear hs hb HC;go_wp2_with fail
   refine H1.out.mono ?_;rintro e W2 ⟨rfl,hb⟩;have Xp:=zq (aU HBw1.out hb);have b0:=cF hb b0;have H2:=zq (bo.out _ Xp.out);clear hb H1;go_wp2_with fail
   refine H2.out.mono ?_;rintro e W3 ⟨rfl,hb⟩;have HBw3:=zq (aU Xp.out hb);have b0:=cF hb b0;have H3:=zq (HX.out _ HBw3.out);clear hb H2;go_wp2_with fail
   refine H3.out.mono ?_;rintro e W4 ⟨rfl,hb⟩;have HBw4:=zq (aU HBw3.out hb);have b0:=cF hb b0;have H4:=zq (wz.out _ HBw4.out);clear hb H3;go_wp2_with fail
   refine H4.out.mono ?_;rintro e W5 ⟨rfl,hb⟩;have HBw5:=zq (aU HBw4.out hb);have b0:=cF hb b0;have H5:=zq (HJn.out _ HBw5.out);clear hb H4;go_wp2_with fail
   refine H5.out.mono ?_;rintro e W6 ⟨rfl,hb⟩;have HBw6:=zq (aU HBw5.out hb);clear hb H5;go_wp2;exact nV (iB Tryz.results48 _ _ _) rfl ⟨rfl,HBw6.out⟩
def kW(l:List Fr):List aS:=l.flatMap fun s=>s.cells.toList
theorem Ui(l:List Fr):(kW l).length=l.length*5:=by
 induction l with
 |nil=>rfl
 |cons q qs ih=>simp[kW]at *;omega
theorem Uj(l m:List Fr):kW (l++m)=kW l++kW m:=by simp[kW]
def YY(l:List Sd)(n:Nat):List Fr:=(List.range n).map fun i=>YX (l.getD i default) (jG l i)
def oM(f:Nat→List Sd):Nat→List Fr
 |0=>[]
 |n+1=>oM f n++YY (f n) (f n).length
theorem xn(l:List Sd)(n:Nat):YY l (n+1)=YY l n++[YX (l.getD n default) (jG l n)]:=by unfold YY;rw[List.range_succ,List.map_append];rfl
theorem frN_len(l:List Sd)(n:Nat):(YY l n).length=n:=by simp[YY]
theorem zJ(f:Nat→List Sd):∀n,(oM f n).length=dA f n
 |0=>rfl
 |n+1=>by rw[oM,cP,zJ f n,frN_len];rfl
theorem info_fr:(Tryz.prog.info? 44).map (fun i=>(i.zero,i.size,i.bytes))=some (some (cN #[aN false,aD aE 0,aD aE 0,aA ⟨#[]⟩,aA ⟨#[]⟩]),5,56):=by kernel_rfl
theorem xp (a:Option cT) (N cap:Nat) (rs:List Rg) (w:aF) (hl:rs.length=N) (hN:N≤1000) (hn:∀ r,(bQ rs r).length≤1000) (rr:GL w a rs) (h0:qQ (bQ rs) N=0) (hE:iM w) (hD:Qy w)
 (hck:∀ W,Below w.heap.size w W→aW aC 48 #[cN #[aB a N cap]] W (Rt (aD aE 0) W)) :
 aW aC 17 #[cN #[aB a N cap]] w fun e w' => (∃ v,e=aQ (cC #[v,aD aE 0])∧w'.ownsRow w.heap.size 44 5 v (dA (bQ rs) N) (kW (oM (bQ rs) N)))∧Below w.heap.size w w' :=by
 obtain⟨c0,c1,c2,c3, -⟩:=wW h0;have Fg:∀ k,k≤N→dA (bQ rs) k≤24:=fun k hk=> bE (qU hk) c2;have HS:bH (∀ r i,r < N→i < (bQ rs r).length→yJ ((bQ rs r).getD i default)=true):=fun r i hr hi=> by
  have h1:=dC.1 (dC.1 c3 r hr) i hi;unfold J9 at h1;simpa using h1
 have HF:=zq (fun s t (h:yJ s=true) W (hW:Below w.heap.size w W)=> fr_of s t W (hE.below hW) (hD.below hW) h);have J5:=zq Fg;have HR:=zq rr;have HL:=zq hl;have If:=zq hck;have Hn:=zq hn;clear hl rr h0 hE hD hck Fg c0 c1 c2 c3 hn;have fA:=(aH _ w).alloc (aG _) (aJ #[aB a N cap] 24);have rG:=bT.new w #[aB a N cap] 24;obtain⟨W0,eQ⟩:=nm (w.alloc (aJ #[aB a N cap] 24));rw [eQ] at fA rG;have gY:=zq fA;have tD:=zq rG;have b0:=rG.cell 0;simp only [aL,aI] at b0;have HW:=zq eQ;clear fA rG eQ;refine dE func17 rfl ?_;simp only [ntmps17,bW,bF,bY,cW,cX,bR,bS,cD,bU,cL,bZ];go_upto_region 1 with (fail)
 rw [HW.out];clear HW;have Tz:=zq (If.out _ gY.out);go_wp2_with fail
 refine Tz.out.mono ?_;rintro e W1 ⟨rfl,hb⟩;have eW:=zq (aU gY.out hb);have BC:=zq (tD.out.below hb tD.out.lt);have b0:=cF hb b0;clear hb Tz If tD;go_wp2;go_loopw [4,15] (fun v i wr=> ∃ r:Nat,i=aD aE r∧r≤N∧bH (wr.ownsRow w.heap.size 44 5 v (dA (bQ rs) r) (kW (oM (bQ rs) r)))∧bH (Below w.heap.size w wr)) (fun _ i _=> N - (aK i).toNat);case atStart=> exact⟨0,rfl,bN _,⟨rfl, .inl ⟨rfl,rfl⟩⟩,eW.out⟩
 case round=>
  clear b0;obtain⟨r,rfl,hr,HO,HB⟩:=hrel;rename aF=> wr;by_cases hrN:r < N
  ·obtain⟨b,o,rfl,k0,Ml⟩:=(HR.out.below HB.out).at (i:=r) (by rw [HL.out];exact hrN) rfl;rw [show(rs.getD r default).ss.length=(bQ rs r).length from rfl] at k0;have E1:bH (oM (bQ rs) (r + 1)=oM (bQ rs) r ++ YY (bQ rs r) (bQ rs r).length):=rfl;have E2:bH (dA (bQ rs) (r + 1)=dA (bQ rs) r + (bQ rs r).length):=rfl;have Fg:=J5.out (r + 1) hrN;rw [E2.out] at Fg;have HSr:=zq (fun i=> HS.out r i hrN);have Ca:bH (∀ W,Below w.heap.size w W→lE W (rs.getD r default).a (bQ rs r)):=fun W hW=> ((HR.out.below hW).at (i:=r) (by rw [HL.out];exact hrN) rfl).choose_spec.choose_spec.2.2;clear Ml;obtain⟨A1,we⟩:=nm (oM (bQ rs) (r + 1));obtain⟨C1,YL⟩:=nm (dA (bQ rs) (r + 1));rw [we] at E1;rw [YL] at E2;have Vl:=zq we;have dd:=zq YL;clear we YL;generalize oM (bQ rs) r=A0 at *;generalize dA (bQ rs) r=C0 at *;generalize (rs.getD r default).a=ar at *;generalize (rs.getD r default).cap=cr at *;generalize bQ rs r=l at *;obtain⟨n,kd⟩:=nm l.length;rw [kd] at k0 E1 E2 Fg HSr;have Xb:=zq kd;clear kd;have wh:(r:Int) < N:=by omega
   have hNr:kW (A0 ++ YY l 0)=kW A0:=by simp [YY]
   go_wp2;go_loopw [4,21] (fun v i wi=> ∃ k:Nat,i=aD aE k∧k≤n∧bH (wi.ownsRow w.heap.size 44 5 v (C0 + k) (kW (A0 ++ YY l k)))∧bH (Below w.heap.size w wi)) (fun _ i _=> n - (aK i).toNat);case atStart=> exact⟨0,rfl,bN _,by rw [hNr];exact HO.out,HB.out⟩
   case round=>
    clear k0;obtain⟨k,rfl,hk,IF,fR⟩:=hrel;rename aF=> wi;by_cases hkn:k < n
    ·obtain⟨pb,po,rfl,f0,f1,f2,f3,f4,f5,f6⟩:=(Ca.out wi fR.out).at (i:=k) (by rw [Xb.out];exact hkn) rfl;have Hs:=zq (HSr.out k hkn);have ES:=zq (xn l k);have Rv:=Kw k n;have Vz:(k + 1) % n < n:=Nat.mod_lt _ (by omega);have R3:=zq (fun (V:aF) (h:lE V (some ⟨pb,po,none⟩) l)=> h.at (i:=(k + 1) % n) (s:=jG l k) (by rw [Xb.out];exact Vz) (by unfold jG;rw [Xb.out]));have HFk:=zq (fun W hW=> HF.out (l.getD k default) (jG l k) Hs.out W hW);have HX2:bH (l.getD ((k + 1) % n) default=jG l k):=by show _=_;unfold jG;rw [Xb.out]
     generalize YX (l.getD k default) (jG l k)=FR at *;generalize l.getD k default=s at *;generalize jG l k=t at *;generalize (k + 1) % n=m2 at *;obtain⟨x,y,rise,run,gable,plate,over⟩:=s;obtain⟨x2,y2,YV,run2,Qw,Qx,YW⟩:=t;simp only [] at f0 f1 f2 f3 f4 f5 f6;unfold Sd.v Sd.cells at HFk;simp only [] at HFk;obtain⟨fu,fc,fd,fp,ft⟩:=FR;have hki:(k:Int) < n:=by omega
     unfold Fr.v Fr.cells at HFk;simp only [] at HFk;go_upto_region 10 with (fail)
     obtain⟨wb,hwb⟩:=nm (wi.alloc (aJ #[aD aE x,aD aE y,aD aE rise,aD aE run,aN gable,aD aE plate,aD aE over] 74));have hbb:=(aH _ wi).alloc (aG _) (aJ #[aD aE x,aD aE y,aD aE rise,aD aE run,aN gable,aD aE plate,aD aE over] 74);have hqb:=bT.new wi #[aD aE x,aD aE y,aD aE rise,aD aE run,aN gable,aD aE plate,aD aE over] 74;rw [hwb] at hbb hqb ⊢;clear hwb f0 f1 f2 f3 f4 f5 f6;obtain⟨s0,s1,s2,s3,s4,s5,s6⟩:=BY hqb;have HBb:=zq (aU fR.out hbb);obtain⟨pb',po',e1,d0,d1,d2,d3,d4,d5,d6⟩:=R3.out wb (Ca.out wb HBb.out);injection e1 with e1;injection e1 with e1 e2;subst e1 e2;simp only [] at d0 d1 d2 d3 d4 d5 d6;have HOb:=zq (dI IF.out hbb);have HN4:=zq (fun (V:aF) (h:Below w.heap.size w V)=> (Ca.out V h).range (i:=m2) (s:=⟨x2,y2,YV,run2,Qw,Qx,YW⟩) (by rw [Xb.out];exact Vz) HX2.out);clear hbb IF fR;have w3:IntKind.i64.wrap ((k:Int) + 1)=(k:Int) + 1:=aX _ (by omega);have v3:(m2:Int) < n:=by omega
     have v4:(0:Int)≤(m2:Int):=by omega
     have v5:¬ n=0:=by omega
     refine xR 12 (fun | 11=> .made | _=> .quiet) (fun V=> bT V wi.heap.size #[aD aE x,aD aE y,aD aE rise,aD aE run,aN gable,aD aE plate,aD aE over] 74∧Below w.heap.size w V) ⟨hqb,HBb.out.drew⟩ ?_ (st:=fun w1 w2 h hb=> ⟨h.1.below hb hqb.lt,h.2.trans (hb.mono HBb.out.size)⟩);refine qS 0 rfl (pu ?_);refine qL 1 wi.heap.size 0 #[aD aE x,aD aE y,aD aE rise,aD aE run,aN gable,aD aE plate,aD aE over] (fun V h=> h.1.1) rfl (pu ?_);refine qS 2 rfl (pu ?_);refine qS 3 rfl (pu ?_);refine qS 4 rfl (pu ?_);refine qS 5 rfl (pu ?_);refine qS 6 rfl (pu ?_);refine qS 7 rfl (pu ?_);refine qS 8 rfl (pu ?_);refine qR 9 pb (po + m2 * 7) #[aD aE x2,aD aE y2,aD aE YV,aD aE run2,aN Qw,aD aE Qx,aD aE YW] (fun V h=> HN4.out V h.1.2) rfl (pu ?_);refine qC 10 (fun W h=> HFk.out W h.1.2) rfl (pu ?_);refine qM 11 #[aN fu,aD aE fc,aD aE fd,aA (bs fp),aA (bs ft)] 44 (fun g=> aB (some ⟨g,0,none⟩) 1 1) rfl (fun g hg hn=> pu ?_) ⟨fun _=> rfl,fun w=> by go_simp⟩;refine qT fun V hV hG=> ?_;have hG5:bT V g #[aN fu,aD aE fc,aD aE fd,aA (bs fp),aA (bs ft)] 44:=hG g _ _ (by unfold Ck;rw [ip rfl]);have Ae:=hV.b;have hVb:Below w.heap.size w V:=hV.1.2;have hOV:=dI HOb.out Ae;clear hV hG;refine eI 12 [] rfl (fun K hK=> ?_) aT;rw [ip (by kernel_rfl)];obtain⟨i0,hi,zL,vX,oL⟩:=vJ info_fr;refine I3 _ _ 25 rfl w.heap.size 44 i0 (cN #[aN false,aD aE 0,aD aE 0,aA ⟨#[]⟩,aA ⟨#[]⟩]) 5 56 underlying25 hi zL vX oL rfl (by decide) _ (C0 + k) _ rfl hOV ⟨g,0,none⟩ 1 1 [aN fu,aD aE fc,aD aE fd,aA (bs fp),aA (bs ft)] rfl rfl (fun j u hj=> by rw [XN,dZ,hG5.cell];simpa using hj) (by simp [nO]) (by unfold dL;omega) (by omega) hVb.size ?_;intro v' w' oR hg';refine hK _ _ (pu ?_);refine tI 13 rfl (pu ?_);refine wpAnyIn_done (by kernel_rfl) ?_ _;refine mR.normal ?_;have FC:=zq (eP (hVb) hg' hOV (aG _) hVb.size);have hlist:kW (A0 ++ YY l k) ++ [aN fu,aD aE fc,aD aE fd,aA (bs fp),aA (bs ft)]=kW (A0 ++ YY l (k + 1)):=by
      rw [ES.out,← List.append_assoc,Uj (A0 ++ YY l k)];rfl
     rw [hlist] at oR;have HO6:=zq oR;clear hK hg' oR hOV Ae hG5 hVb hlist;go_wp2;go_roundw;case rel=> exact⟨k + 1,by go_num,by omega,HO6.out,FC.out⟩
     case measure=> simp only [aK];omega
    ·obtain rfl:n=k:=by omega
     have Vm:=IF.out;rw [← E1.out,← E2.out,← Vl.out,← dd.out] at Vm;have Vm:=zq Vm;go_wp2;go_roundw;case rel=> exact⟨r + 1,by go_num,by omega,Vm.out,fR.out⟩
     case measure=> simp only [aK];omega
  ·obtain rfl:N=r:=by omega
   go_wp2;exact nV (jW rfl _ _) rfl ⟨⟨_,rfl,HO.out⟩,HB.out⟩
theorem Ms:∀(l:List Fr)(i j:Nat),i<l.length→j<5→(kW l)[i*5+j]? =some ((l.getD i default).cells.getD j aP)
 |[],i,_,h,_=>by simp at h
 |q::qs,0,j,_,hj=>by
  have e:kW (q::qs)=q.cells.toList++kW qs:=rfl
  rw[e,oC,dZ,Bb (by simpa using hj)]
  match j,hj with
  |0,_=>rfl
  |1,_=>rfl
  |2,_=>rfl
  |3,_=>rfl
  |4,_=>rfl
 |q::qs,i+1,j,h,hj=>by
  have e:kW (q::qs)=q.cells.toList++kW qs:=rfl
  rw[e,lU (by simp;omega),show(i+1)*5+j-q.cells.toList.length=i*5+j by simp;omega]
  exact Ms qs i j (by simpa using h) hj
theorem zR.own{w:aF}{base e:Nat}{a:Option cT}{n cap:Nat}{l:List Fr}(h:w.ownsRow base e 5 (aB a n cap) n (kW l)):zR w a l:=by
 intro i hi;have hl:=h.1;rw[Ui]at hl;rcases h.2 with⟨_,h2⟩|⟨g,c,yU,hv,_⟩
 ·omega
 ·injection hv with e1 e2 e3;subst e1 e3;refine⟨g,0,rfl,fun j hj=>?_⟩;rw[dZ,eX h (i*5+j) (by omega)];exact Ms l i j hi hj
theorem xq(a:Option cT)(N cap:Nat)(rs:List Rg)(w:aF)(hl:rs.length=N)(hN:N≤1000)(hN0:0<N)(hn:∀r∈rs,r.ss.length≤1000∧0<r.ss.length)(rr:GL w a rs)
 (hck:∀W,Below w.heap.size w W→aW aC 48 #[cN #[aB a N cap]] W (Rt (aD aE 0) W)):
 aW aC 29 #[cN #[aB a N cap]] w fun e w'=>(∃g c,e=aQ (cC #[aB (some ⟨g,0,none⟩) (eK rs).length c,aD aE 0])∧lE w' (some ⟨g,0,none⟩) (eK rs))∧Below w.heap.size w w':=by
 have HCc:=zq (fun W(hW:Below w.heap.size w W)=>Uh a N cap rs W hl hN hN0 hn (rr.below hW));have If:=zq hck;clear hl hn rr hck;have fA:=(aH _ w).alloc (aG _) (aJ #[aB a N cap] 24);have rG:=bT.new w #[aB a N cap] 24;obtain⟨W0,eQ⟩:=nm (w.alloc (aJ #[aB a N cap] 24));rw[eQ]at fA rG;have gY:=zq fA;have b0:=rG.cell 0;simp only[aL,aI]at b0;have HW:=zq eQ;clear fA rG eQ;refine dE func29 rfl ?_;simp only[ntmps29,bW,bF,bY,cW,cX,bR,bS,cD,bU,cL,bZ];go_upto_region 1 with(fail)
 rw[HW.out];clear HW;have Tz:=zq (If.out _ gY.out);go_wp2_with fail
 refine Tz.out.mono ?_;rintro e W1⟨rfl,hb⟩;have eW:=zq (aU gY.out hb);have b0:=cF hb b0;have H1:=zq (HCc.out _ eW.out);clear hb Tz If;go_wp2_with fail
 refine H1.out.mono ?_;rintro e W2⟨⟨g,c,rfl,hs⟩,hb⟩;have fR:=zq (aU eW.out hb);have HS:=zq hs;clear hb hs H1;go_wp2;exact nV (jW rfl _ _) rfl ⟨⟨g,c,rfl,HS.out⟩,fR.out⟩
def DV(ss:List Sd)(fs:List Fr)(i j:Nat):Int:=if(fs.getD i default).up=true then(ss.getD j default).y else(ss.getD j default).x
theorem ez(SB FB:Nat)(sa fa:Option cT)(n m ca cb i j:Nat)(ss:List Sd)(fs:List Fr)(w:aF)(hE:iM w)(hs:ss.length=n)(hf:fs.length=m)(hi:i<m)(hj:j<n)(hn:n≤1000)(hm:m≤1000)
 (cs:w.cell? ⟨SB,0,none⟩=some (aB sa n ca))(cf:w.cell? ⟨FB,0,none⟩=some (aB fa m cb))(rs:lE w sa ss)(rf:zR w fa fs)(hC:FE ss):
 aW aC 31 #[aD aE i,aD aE j,bA (some ⟨SB,0,none⟩),bA (some ⟨FB,0,none⟩)] w (Rt (aA (bs (bJ ((DV ss fs i j:Int):Rat)))) w):=by
 obtain⟨b,o,rfl,s0,s1,-⟩:=rs.at (i:=j) (by omega) rfl;obtain⟨b2,o2,rfl,f0,f1,-⟩:=rf.at (i:=i) (by omega) rfl;obtain⟨x1,x2,y1,y2⟩:=hC j;have hL:(DV ss fs i j).natAbs<10^18:=by unfold DV;split <;>omega
 have HO:=zq (fun W(hW:Below w.heap.size w W)=>Gu (DV ss fs i j) W (hE.below hW) hL);have EL:bH (DV ss fs i j=if(fs.getD i default).up=true then(ss.getD j default).y else(ss.getD j default).x):=rfl;obtain⟨C,hCe⟩:=nm (DV ss fs i j);rw[hCe]at HO EL⊢;generalize(ss.getD j default).x=x at *;generalize(ss.getD j default).y=y at *;generalize(fs.getD i default).up=u at *;have hiI:(i:Int)<m:=by omega
 have hjI:(j:Int)<n:=by omega
 clear rs rf hE hs hf hC hL hCe x1 x2 y1 y2 f1;have E:bH (C=if u=true then y else x):=EL;cases u
 ·obtain rfl:C=x:=E.out;refine dE func31 rfl ?_;simp only[ntmps31,bW,bF,bY,cW,cX,bR,bS,cD,bU,cL,bZ];go_wp2_with fail
  refine(HO.out _ (aH _ _)).mono ?_;rintro e W⟨rfl,hb⟩;go_wp2;exact nV (iB Tryz.results31 _ _ _) rfl ⟨rfl,hb⟩
 ·obtain rfl:C=y:=E.out;refine dE func31 rfl ?_;simp only[ntmps31,bW,bF,bY,cW,cX,bR,bS,cD,bU,cL,bZ];go_wp2_with fail
  refine(HO.out _ (aH _ _)).mono ?_;rintro e W⟨rfl,hb⟩;go_wp2;exact nV (iB Tryz.results31 _ _ _) rfl ⟨rfl,hb⟩
theorem Uk{F:Fence}{nF:Nat}{P:dP}{w:aF}{o:gL}{a:kZ}{K:kZ→aF→Prop}{Q:Exit→kZ→aF→Prop}(g:Nat)(cs z:Array aS)(T:eC){x y:qV}(e:o.op=.store T x y)(d:o.dst=none)
 (hx:a.eval x=bA (some ⟨g,0,none⟩))(hy:a.eval y=cN cs)(hi:(P.info? T).map (·.size)=some cs.size)(h1:cs.all (·.oneCell')=true)(hz:bT w g z T)(hs:z.size=cs.size)
 (h:bT (w.setCells g 0 cs.toList) g cs T→K a (w.setCells g 0 cs.toList)):rL F nF P o a w K Q:=by
 have hb:bT (w.setCells g 0 cs.toList) g cs T:=by
  have:=zU g T cs.toList 0 w z hz;rwa[GK z _ (by simpa using hs),D5]at this
 have e2:=run_storeAt_mid (P:=P) w g 0 T cs (fun j hj=>⟨by rw[dZ,hz.cell];simp[hs,hj],by rw[dZ];exact hz.fz j⟩) hi h1;unfold rL;refine⟨by simp[Oper.about,e],?_⟩;rw[Oper.semAt_plain F _ _ (by rw[e];intro c hc';cases hc')];unfold execOp;simp only[e,hx,hy,wD,e2,oH,vP];show K (a.put o.dst aP) _;rw[d];exact h hb
theorem DW{P:dP}{fn:Func}{p q r:Tmp}{t1 t2 t3:eC}(h:fn.results= #[.cell p t1,.cell q t2,.cell r t3])(tmps:Array aS)(w:aF)(g1 g2 g3:Nat)(v1 v2 v3:aS)
 (h1:tmps.getD p aP=bA (some ⟨g1,0,none⟩))(h2:tmps.getD q aP=bA (some ⟨g2,0,none⟩))(h3:tmps.getD r aP=bA (some ⟨g3,0,none⟩))
 (l1:(mm t1 ⟨g1,0,none⟩).run P w=.ok v1 w)(l2:(mm t2 ⟨g2,0,none⟩).run P w=.ok v2 w)(l3:(mm t3 ⟨g3,0,none⟩).run P w=.ok v3 w):
 (gR fn tmps).run P w=.ok (cC #[v1,v2,v3]) w:=by
 have h1':tmps[p]?.getD aP=bA (some ⟨g1,0,none⟩):=by simpa using h1
 have h2':tmps[q]?.getD aP=bA (some ⟨g2,0,none⟩):=by simpa using h2
 have h3':tmps[r]?.getD aP=bA (some ⟨g3,0,none⟩):=by simpa using h3
 simp[gR,h,asAddr,h1',h2',h3',wD,vP,l1,l2,l3,oH]
end
section
open Go Go.RowKit Go.Shelf Go.Lib
section
attribute[local go_sem] Oper.semAt_some
structure FdW(P0 BB Q E:Nat)(C0:Int)(arr:Array aS)(Ds:List Nat)(w0 W:aF)(d:Nat→Bool)(u0 u1:aS)(w:aF):Prop where
 v0:d 0=true→u0=aD aE C0
 v1:d 1=true→u1=cN arr
 b2:bT w (P0+1+1) #[if d 2=true then aD aE C0 else aD aE 0] 3
 b3:bT w (P0+1+1+1) (if d 3=true then arr else T8) 99
 b4:bT w (P0+1+1+1+1) #[aD aE 0] 32
 b7:bT w BB #[aD aE C0] 3
 b9:bT w Q arr 99
 k1:KeepsFrom E W w
 k3:Below w0.heap.size w0 w
 k4:Mk w0.heap.size E Ds w
theorem ldv_int{b:Nat}{v:aS}{W:aF}(h:W.cell? ⟨b,0,none⟩=some v):(mm 3 ⟨b,0,none⟩).run aC W=.ok v W:=by
 have ha:(isAgg 3).run aC W=.ok false W:=by first |rfl|kernel_rfl
 simp[go_sem,h,ha]
theorem fe{b:Nat}{v:aS}{W:aF}(h:W.cell? ⟨b,0,none⟩=some v):(mm 32 ⟨b,0,none⟩).run aC W=.ok v W:=by
 have ha:(isAgg 32).run aC W=.ok false W:=by first |rfl|kernel_rfl
 simp[go_sem,h,ha]
variable{P0 BB Q E:Nat}{C0:Int}{arr:Array aS}{Ds:List Nat}{w0 W w w':aF}{d:Nat→Bool}{u0 u1:aS}
theorem blkS{b g:Nat}{cs:Array aS}{T:eC}{vs:List aS}(h:bT w b cs T)(jC:b≠g):bT (w.setCells g 0 vs) b cs T:=(xQ w g vs 0 w b jC).trans h
theorem FdW.sto2(h:FdW P0 BB Q E C0 arr Ds w0 W d u0 u1 w)(hP:w0.heap.size≤P0)(hB:P0+1+1+1+1<BB)(hQ:BB<Q):FdW P0 BB Q E C0 arr Ds w0 W (Uf d 2) u0 u1 (w.setCell ⟨P0+1+1,0,none⟩ (aD aE C0)):=by
 have hr:=DU.blk h.b2 (B:=w0.heap.size) (by omega);have hg:=ix w (P0+1+1) (aD aE C0);exact⟨h.v0,h.v1,h.b2.set 0 _,h.b3.other _ (by show P0+1+1+1≠P0+1+1;omega),h.b4.other _ (by show P0+1+1+1+1≠P0+1+1;omega),h.b7.other _ (by show BB≠P0+1+1;omega),h.b9.other _ (by show Q≠P0+1+1;omega),
  h.k1.trans (Qv hg hr),h.k3.grown hg h.k3.size fun k hk=>(hr k hk).1,h.k4.growT hg hr⟩
theorem FdW.sto3(h:FdW P0 BB Q E C0 arr Ds w0 W d u0 u1 w)(hP:w0.heap.size≤P0)(hB:P0+1+1+1+1<BB)(hQ:BB<Q)(hb:bT (w.setCells (P0+1+1+1) 0 arr.toList) (P0+1+1+1) arr 99):FdW P0 BB Q E C0 arr Ds w0 W (Uf d 3) u0 u1 (w.setCells (P0+1+1+1) 0 arr.toList):=by
 have hr:=DU.blk h.b3 (B:=w0.heap.size) (by omega);have hg:=C9 (P0+1+1+1) arr.toList 0 w;exact⟨h.v0,h.v1,blkS h.b2 (by omega),hb,blkS h.b4 (by omega),blkS h.b7 (by omega),blkS h.b9 (by omega),h.k1.trans (Qv hg hr),h.k3.grown hg h.k3.size fun k hk=>(hr k hk).1,h.k4.growT hg hr⟩
theorem FdW.sto4(h:FdW P0 BB Q E C0 arr Ds w0 W d u0 u1 w)(hP:w0.heap.size≤P0)(hB:P0+1+1+1+1<BB)(hQ:BB<Q):FdW P0 BB Q E C0 arr Ds w0 W (Uf d 4) u0 u1 (w.setCell ⟨P0+1+1+1+1,0,none⟩ (aD aE 0)):=by
 have hr:=DU.blk h.b4 (B:=w0.heap.size) (by omega);have hg:=ix w (P0+1+1+1+1) (aD aE 0);exact⟨h.v0,h.v1,h.b2.other _ (by show P0+1+1≠P0+1+1+1+1;omega),h.b3.other _ (by show P0+1+1+1≠P0+1+1+1+1;omega),h.b4.set 0 _,h.b7.other _ (by show BB≠P0+1+1+1+1;omega),h.b9.other _ (by show Q≠P0+1+1+1+1;omega),
  h.k1.trans (Qv hg hr),h.k3.grown hg h.k3.size fun k hk=>(hr k hk).1,h.k4.growT hg hr⟩
theorem pl_find (a : Option cT) (N cap : Nat) (rs : List Rg) (q : Nat) (w : aF) (hl : rs.length = N) (hN : N ≤ 1000) (hn : ∀ r, (bQ rs r).length ≤ 1000) (rr : GL w a rs) (hc : dA (bQ rs) N ≤ 24) (r k : Nat) (hr : r < N) (hk : k < (bQ rs r).length) (hq : q = dA (bQ rs) r + k)
 (hck : ∀ W, Below w.heap.size w W → aW aC 48 #[cN #[aB a N cap]] W (Rt (aD aE 0) W)) :
 aW aC 53 #[cN #[aB a N cap], aD aE q] w (Rt (cC #[aD aE (dA (bQ rs) r : Nat), cN (dt (bQ rs r) k), aD aE 0]) w) := by
 have If := zq hck
 have HR := zq rr
 have HL := zq hl
 have HN := zq hn
 have J5 : bH (∀ j, j ≤ N → dA (bQ rs) j ≤ 24) := fun j hj => bE (qU hj) hc
 have HQ : bH (q = dA (bQ rs) r + k) := hq
 clear hck rr hl hn hc hq
 obtain ⟨W0, eQ⟩ := nm (((((w.alloc (aJ #[aB a N cap] 24)).alloc (aJ #[aD aE q] 3)).alloc (aJ #[aD aE 0] 3)).alloc (aJ T8 99)).alloc (aJ #[aD aE 0] 32))
 have n1 := ((((bT.new w #[aB a N cap] 24).alloc (aJ #[aD aE q] 3)).alloc (aJ #[aD aE 0] 3)).alloc (aJ T8 99)).alloc (aJ #[aD aE 0] 32)
 have n2 := (((bT.new (w.alloc (aJ #[aB a N cap] 24)) #[aD aE q] 3).alloc (aJ #[aD aE 0] 3)).alloc (aJ T8 99)).alloc (aJ #[aD aE 0] 32)
 have n3 := ((bT.new ((w.alloc (aJ #[aB a N cap] 24)).alloc (aJ #[aD aE q] 3)) #[aD aE 0] 3).alloc (aJ T8 99)).alloc (aJ #[aD aE 0] 32)
 have n4 := (bT.new (((w.alloc (aJ #[aB a N cap] 24)).alloc (aJ #[aD aE q] 3)).alloc (aJ #[aD aE 0] 3)) T8 99).alloc (aJ #[aD aE 0] 32)
 have n5 := bT.new ((((w.alloc (aJ #[aB a N cap] 24)).alloc (aJ #[aD aE q] 3)).alloc (aJ #[aD aE 0] 3)).alloc (aJ T8 99)) #[aD aE 0] 32
 have nb := (((((aH w.heap.size w).alloc (aG _) (aJ #[aB a N cap] 24)).alloc (by simp) (aJ #[aD aE q] 3)).alloc (by simp; omega) (aJ #[aD aE 0] 3)).alloc (by simp; omega) (aJ T8 99)).alloc (by simp; omega) (aJ #[aD aE 0] 32)
 simp only [bB] at n1 n2 n3 n4 n5
 rw [eQ] at n1 n2 n3 n4 n5 nb
 have HW := zq eQ
 have N1 := zq n1
 have N2 := zq n2
 have N3 := zq n3
 have N4 := zq n4
 have N5 := zq n5
 have NB := zq nb
 clear eQ n1 n2 n3 n4 n5 nb
 refine dE func53 rfl ?_
 simp only [ntmps53, bW, bF, bY, cW, cX, bR, bS, cD, bU, cL, bZ]
 go_upto_region 1 with (fail)
 rw [HW.out]
 clear HW
 have p0 := N1.out.cell 0
 simp only [aL, aI] at p0
 have Tz := zq (If.out _ NB.out)
 go_wp2_with fail
 refine Tz.out.mono ?_
 rintro e W1 ⟨rfl, hb⟩
 have eW := zq (aU NB.out hb)
 have M1 := zq (N1.out.below hb N1.out.lt)
 have M2 := zq (N2.out.below hb N2.out.lt)
 have M3 := zq (N3.out.below hb N3.out.lt)
 have M4 := zq (N4.out.below hb N4.out.lt)
 have M5 := zq (N5.out.below hb N5.out.lt)
 have M5l := M5.out.lt
 clear hb p0 N1 N2 N3 N4 N5 NB Tz If
 have p0 := M1.out.cell 0
 simp only [aL, aI] at p0
 obtain ⟨W2, Ii⟩ := nm (W1.alloc (aJ #[aD aE 0] 3))
 have hb := (aH _ W1).alloc (aG _) (aJ #[aD aE 0] 3)
 have hq6 := bT.new W1 #[aD aE 0] 3
 rw [Ii] at hb hq6
 have Wi := zq Ii
 clear Ii
 go_upto_region 4 with (fail)
 rw [Wi.out]
 have fR := zq (aU eW.out hb)
 have K1 := zq (M1.out.below hb M1.out.lt)
 have K2 := zq (M2.out.below hb M2.out.lt)
 have K3 := zq (M3.out.below hb M3.out.lt)
 have K4 := zq (M4.out.below hb M4.out.lt)
 have K5 := zq (M5.out.below hb M5.out.lt)
 have K6 := zq hq6
 have p0 := K1.out.cell 0
 simp only [aL, aI] at p0
 clear hb hq6 M1 M2 M3 M4 M5 eW Wi
 obtain ⟨P0, hP0⟩ := nm w.heap.size
 obtain ⟨BB, hBB⟩ := nm W1.heap.size
 rw [hBB] at M5l K6
 rw [hP0] at K1 K2 K3 K4 K5 p0 M5l
 have HP0 := zq hP0
 have xt : bH (P0 + 1 + 1 + 1 + 1 < BB) := M5l
 first | rw [hP0, hBB] | skip
 clear hP0 hBB M5l
 go_wp2
 refine wp_loop (fun a' w' => ∃ (r1 : Nat) (Ds : List Nat) (u9 u20 u21 u22 u23 u24 u34 u35 u36 u37 u38 : aS), a' = { tmps := #[cN #[aB a N cap], aD aE q, bA (some ⟨P0, 0, none⟩), bA (some ⟨P0 + 1, 0, none⟩), bA (some ⟨P0 + 1 + 1, 0, none⟩), bA (some ⟨P0 + 1 + 1 + 1, 0, none⟩), bA (some ⟨P0 + 1 + 1 + 1 + 1, 0, none⟩), bA (some ⟨BB, 0, none⟩), aP, u9, aP, aP, cN #[aB a N cap], aD aE 0, aN false, aP, bA (some ⟨P0, 0, none⟩), aB a N cap, aD aE N, aD aE r1, u20, u21, u22, u23, u24, aP, aP, aP, aP, aP, aP, aP, aP, aP, u34, u35, u36, u37, u38, aP], defers := Ds.map mkD } ∧
  r1 ≤ r ∧ bH (bT w' P0 #[aB a N cap] 24) ∧ bH (bT w' (P0 + 1) #[aD aE q] 3) ∧ bH (bT w' (P0 + 1 + 1) #[aD aE 0] 3) ∧ bH (bT w' (P0 + 1 + 1 + 1) T8 99) ∧ bH (bT w' (P0 + 1 + 1 + 1 + 1) #[aD aE 0] 32) ∧ bH (bT w' BB #[aD aE (dA (bQ rs) r1 : Nat)] 3) ∧ bH (Below w.heap.size w w') ∧ bH (Mk w.heap.size w'.heap.size Ds w'))
  (fun a' _ => N - (aK (a'.tmps.getD 19 aP)).toNat) ⟨0, [], aP, aP, aP, aP, aP, aP, aP, aP, aP, aP, aP, rfl, bN _, K1.out, K2.out, K3.out, K4.out, K5.out, K6.out, fR.out, Mk.nil _ _ _⟩ ?_
 clear K1 K2 K3 K4 K5 K6 fR p0
 rintro _ wr ⟨r1, Ds, u9, u20, u21, u22, u23, u24, u34, u35, u36, u37, u38, rfl, hr1, K1, K2, K3, K4, K5, K6, HB, HM⟩
 have hrN : r1 < N := by omega
 obtain ⟨b, o, rfl, c0, Ml⟩ := (HR.out.below HB.out).at (i := r1) (by rw [HL.out]; exact hrN) rfl
 rw [show (rs.getD r1 default).ss.length = (bQ rs r1).length from rfl] at c0
 have Ca := zq Ml
 have T9 : bH (∀ p, 0 < (bQ rs r1).length → (rs.getD r1 default).a = some p → p.block < w.heap.size) := fun p h0 e => by
  obtain ⟨b', o', e1, -, rs1⟩ := HR.out.at (i := r1) (by rw [HL.out]; exact hrN) rfl
  obtain ⟨b2, o2, e2, c⟩ := rs1 0 h0
  rw [e] at e2; injection e2 with e2; subst e2
  exact bG w _ (c 0 (by decide))
 have E1 : bH (dA (bQ rs) (r1 + 1) = dA (bQ rs) r1 + (bQ rs r1).length) := rfl
 have Fg := J5.out (r1 + 1) hrN
 rw [E1.out] at Fg
 have yB := HN.out r1
 have hlo : dA (bQ rs) r1 ≤ q := by rw [HQ.out]; exact bE (qU hr1) (Nat.le_add_right _ _)
 have HE : bH (r1 = r ∧ q = dA (bQ rs) r1 + k ∧ k < (bQ rs r1).length ∨ r1 < r ∧ dA (bQ rs) r1 + (bQ rs r1).length ≤ q) := by
  rcases Nat.lt_or_ge r1 r with h | h
  ·exact .inr ⟨h, by rw [← E1.out, HQ.out]; exact bE (qU h) (Nat.le_add_right _ _)⟩
  ·obtain rfl : r1 = r := by omega
   exact .inl ⟨rfl, HQ.out, hk⟩
 rw [show (rs.getD r1 default).ss = bQ rs r1 from rfl] at Ca
 clear Ml
 have b0 := K1.out.cell 0
 simp only [aL, aI] at b0
 obtain ⟨l, hl⟩ := nm (bQ rs r1)
 rw [hl] at E1 Fg yB HE Ca T9 c0
 obtain ⟨n, SK⟩ := nm l.length
 rw [SK] at E1 Fg yB HE T9 c0
 have HLn := zq SK
 have HLl := zq hl
 clear hl SK
 generalize (rs.getD r1 default).a = ar at *
 generalize (rs.getD r1 default).cap = cr at *
 obtain ⟨C1, YL⟩ := nm (dA (bQ rs) (r1 + 1))
 rw [YL] at E1
 have dd := zq YL
 clear YL
 obtain ⟨C0, hC0⟩ := nm (dA (bQ rs) r1)
 rw [hC0] at E1 HE K6 Fg hlo
 have Tz := zq hC0
 clear hC0
 go_wp2_with fail
 refine (AH ar n cr wr).mono ?_
 rintro e W3 ⟨rfl, Rw⟩
 have hb1 : Below wr.heap.size wr W3 := by rw [Rw]; exact (aH _ _).alloc (aG _) _
 have hq1 : bT W3 wr.heap.size #[aB ar n cr] 52 := by rw [Rw]; exact bT.new _ _ _
 have L1 := zq (K1.out.below hb1 K1.out.lt)
 have L2 := zq (K2.out.below hb1 K2.out.lt)
 have L3 := zq (K3.out.below hb1 K3.out.lt)
 have L4 := zq (K4.out.below hb1 K4.out.lt)
 have L5 := zq (K5.out.below hb1 K5.out.lt)
 have L6 := zq (K6.out.below hb1 K6.out.lt)
 have HB3 := zq (aU HB.out hb1)
 have BC := zq hq1
 have HM3 := zq ((HM.out.below hb1).grow hb1.size)
 have B8 := zq (Ca.out.below hb1)
 have HBs : bH (BB < wr.heap.size) := K6.out.lt
 clear hb1 hq1 Rw K1 K2 K3 K4 K5 K6 HB HM Ca c0 b0
 generalize wr.heap.size = Bs at *
 go_wp2_with fail
 have J6 : ∀ j, lN Bs ar n j → j < P0 ∨ j = Bs := by
  rintro j (rfl | ⟨h0, p, e, rfl⟩)
  ·exact .inr rfl
  ·exact .inl (by have := T9.out p h0 e; have := HP0.out; omega)
 refine AI Bs ar n cr l rfl HLn.out yB (BC.out.cell 0) B8.out
  (fun i W => bT W P0 #[aB (some ⟨b, o, none⟩) N cap] 24 ∧ bT W (P0 + 1) #[aD aE q] 3 ∧ bT W (P0 + 1 + 1) #[aD aE 0] 3 ∧ bT W (P0 + 1 + 1 + 1) T8 99 ∧ bT W (P0 + 1 + 1 + 1 + 1) #[aD aE 0] 32 ∧ bT W BB #[aD aE (C0 : Nat)] 3 ∧ Below w.heap.size w W ∧ Mk w.heap.size W3.heap.size Ds W ∧ C0 + i ≤ q)
  (fun c _ W => c = .ret ∧ r1 = r ∧ bT W (P0 + 1 + 1) #[aD aE (C0 : Nat)] 3 ∧ bT W (P0 + 1 + 1 + 1) (dt l k) 99 ∧ bT W (P0 + 1 + 1 + 1 + 1) #[aD aE 0] 32 ∧ Below w.heap.size w W ∧ Mk w.heap.size W3.heap.size Ds W)
  (cU (Own.from (fun s A B lM hs hg hr => hs.own hg hr) _) (cU (Own.from (fun s A B lM hs hg hr => hs.own hg hr) _) (cU (Own.from (fun s A B lM hs hg hr => hs.own hg hr) _) (cU (Own.from (fun s A B lM hs hg hr => hs.own hg hr) _) (cU (Own.from (fun s A B lM hs hg hr => hs.own hg hr) _) (cU (Own.from (fun s A B lM hs hg hr => hs.own hg hr) _) (cU (oA (aG _) HB3.out.size) (cU Mk.from (fun _ _ _ _ h _ _ => h)))))))))
  (fun c => cU (fun _ _ _ _ h _ _ => h) (cU (fun _ _ _ _ h _ _ => h) (cU (Own.from (fun s A B lM hs hg hr => hs.own hg hr) _) (cU (Own.from (fun s A B lM hs hg hr => hs.own hg hr) _) (cU (Own.from (fun s A B lM hs hg hr => hs.own hg hr) _) (cU (oA (aG _) HB3.out.size) Mk.from))))))
  ⟨L1.out, L2.out, L3.out, L4.out, L5.out, L6.out, HB3.out, HM3.out, hlo⟩
  (fun i Q ar' => { tmps := #[cN #[aB (some ⟨b, o, none⟩) N cap], aD aE q, bA (some ⟨P0, 0, none⟩), bA (some ⟨P0 + 1, 0, none⟩), bA (some ⟨P0 + 1 + 1, 0, none⟩), bA (some ⟨P0 + 1 + 1 + 1, 0, none⟩), bA (some ⟨P0 + 1 + 1 + 1 + 1, 0, none⟩), bA (some ⟨BB, 0, none⟩), aP, aB ar n cr, aD aE i, bA (some ⟨Q, 0, none⟩), cN #[aB (some ⟨b, o, none⟩) N cap], aD aE 0, aN false, aP, bA (some ⟨P0, 0, none⟩), aB (some ⟨b, o, none⟩) N cap, aD aE N, aD aE r1, aN true, bA (some ⟨b, o + r1, none⟩), aB ar n cr, aB ar n cr, .func (.func 203) #[] #[bA (some ⟨Bs, 0, none⟩)], aD aE i, cN ar', aP, aP, aP, aP, aP, aP, aP, u34, u35, u36, u37, u38, aP], defers := [] })
  (fun ly i p s t W K hi hK => ?_) (fun ly i Q p s t W hi hp hs ht hq Yy J7 hI => ?_) (fun D W hD hI hK => ?_) (fun D c i W hD hi hI hK => ?_)
 ·gi_upto_region 9 with (fail)
  refine uN T8 (zX p s t) rfl ?_
  show K _ _
  simpa only [Act.put, aM, aV, bC] using hK
 ·obtain ⟨h1, h2, h3, h4, h5, h6, h7, h8, h9⟩ := hI
  have A1 := zq h1
  have A2 := zq h2
  have A3 := zq h3
  have A4 := zq h4
  have A5 := zq h5
  have A6 := zq h6
  have A7 := zq h7
  have A8 := zq h8
  have Aq := zq hq
  have Hrw := zq J7
  have f6 := h6.cell 0
  have f2 := h2.cell 0
  simp only [aL, aI] at f6 f2
  have w1 : IntKind.i64.wrap ((C0 : Int) + i) = (C0 : Int) + i := aX _ (by omega)
  clear h1 h2 h3 h4 h5 h6 h7 h8 hq J7
  by_cases hfd : C0 + i = q
  ·obtain ⟨e1, e2⟩ : r1 = r ∧ i = k := by rcases HE.out with ⟨a1, a2, a3⟩ | ⟨a1, a2⟩ <;> omega
   have He : bH (r1 = r ∧ dt l k = zX p s t) := ⟨e1, by
    rw [← e2]
    show zX (l.getD (pre l.length i) default) (l.getD i default) (jG l i) = _
    rw [HLn.out, hp, hs, ht]⟩
   clear e1 e2
   have ht1 : ((C0 : Int) + i == q) = true := by rw [beq_iff_eq]; omega
   gi_upto_region 11 with (fail)
   have HBq : bH (BB < Q) := bL (Nat.lt_trans HBs.out BC.out.lt) Yy
   have wz : bH (w.heap.size ≤ P0) := Nat.le_of_eq HP0.out
   refine AG (fun d a' w' => ∃ u0 u1 : aS, a' = { tmps := #[cN #[aB (some ⟨b, o, none⟩) N cap], aD aE q, bA (some ⟨P0, 0, none⟩), bA (some ⟨P0 + 1, 0, none⟩), bA (some ⟨P0 + 1 + 1, 0, none⟩), bA (some ⟨P0 + 1 + 1 + 1, 0, none⟩), bA (some ⟨P0 + 1 + 1 + 1 + 1, 0, none⟩), bA (some ⟨BB, 0, none⟩), aP, aB ar n cr, aD aE i, bA (some ⟨Q, 0, none⟩), cN #[aB (some ⟨b, o, none⟩) N cap], aD aE 0, aN false, aP, bA (some ⟨P0, 0, none⟩), aB (some ⟨b, o, none⟩) N cap, aD aE N, aD aE r1, aN true, bA (some ⟨b, o + r1, none⟩), aB ar n cr, aB ar n cr, .func (.func 203) #[] #[bA (some ⟨Bs, 0, none⟩)], aD aE i, cN (zX p s t), aD aE C0, aD aE i, aD aE ((C0 : Int) + i), aD aE q, aN true, u0, u1, u34, u35, u36, u37, u38, aP], defers := [] } ∧ FdW P0 BB Q W3.heap.size C0 (zX p s t) Ds w W d u0 u1 w')
    ⟨aP, aP, rfl, ⟨fun h => by (cases h), fun h => by (cases h), A3.out, A4.out, A5.out, A6.out, Aq.out, (KeepsOthers.drew W).from _, A7.out.drew, A8.out⟩⟩ ?_ ?_
   ·rintro d _ w' i' oi ho ⟨u0, u1, rfl, H⟩ hd hneed hcl K hK
    have hi : i' < 5 := (Array.getElem?_eq_some_iff.1 ho).1
    have hm : ∀ k, List.elem k (BX .any _ i') = true → d k = true := fun k h => hneed k (List.elem_iff.1 h)
    have hu : ∀ j, List.elem i' (BX .any _ j) = true → d j = false := fun j h => by
     cases e : d j with
     | false => rfl
     | true => have := hcl j e i' (List.elem_iff.1 h); rw [hd] at this; cases this
    clear hneed hcl
    obtain rfl | rfl | rfl | rfl | rfl : i' = 0 ∨ i' = 1 ∨ i' = 2 ∨ i' = 3 ∨ i' = 4 := by omega
    ·obtain rfl := dQ ho
     rw [ip (by kernel_rfl)]
     have c3 := H.b7.cell 0
     simp only [aL, aI] at c3
     exact C4 (v := aD aE C0) (w' := w') (by go_simp) (hK _ _ ⟨aD aE C0, u1, rfl, ⟨fun _ => rfl, H.v1, H.b2, H.b3, H.b4, H.b7, H.b9, H.k1, H.k3, H.k4⟩⟩)
    ·obtain rfl := dQ ho
     rw [ip (by kernel_rfl)]
     exact Qp 99 Q 0 (zX p s t) (H.b9.range 0 21 rfl) (hK _ _ ⟨u0, cN (zX p s t), rfl, ⟨H.v0, fun _ => rfl, H.b2, H.b3, H.b4, H.b7, H.b9, H.k1, H.k3, H.k4⟩⟩)
    ·obtain rfl := dQ ho
     rw [ip (by kernel_rfl)]
     have e0 := H.v0 (hm 0 (by kernel_rfl))
     have z3 := H.b2.fz 0
     have c3 := H.b2.cell 0
     simp only [aL, aI] at c3
     exact Kv (w' := w'.setCell ⟨P0 + 1 + 1, 0, none⟩ (aD aE C0)) (by go_simp) (hK _ _ ⟨u0, u1, rfl, H.sto2 wz.out xt.out HBq.out⟩)
    ·obtain rfl := dQ ho
     rw [ip (by kernel_rfl)]
     have e1 := H.v1 (hm 1 (by kernel_rfl))
     exact Uk (P0 + 1 + 1 + 1) (zX p s t) _ 99 rfl rfl rfl e1 (by kernel_rfl) (by simp [nO]) H.b3 (by split <;> rfl) (fun hb => hK _ _ ⟨u0, u1, rfl, H.sto3 wz.out xt.out HBq.out hb⟩)
    ·obtain rfl := dQ ho
     rw [ip (by kernel_rfl)]
     have z3 := H.b4.fz 0
     have c3 := H.b4.cell 0
     simp only [aL, aI] at c3
     exact Kv (w' := w'.setCell ⟨P0 + 1 + 1 + 1 + 1, 0, none⟩ (aD aE 0)) (by go_simp) (hK _ _ ⟨u0, u1, rfl, H.sto4 wz.out xt.out HBq.out⟩)
   ·rintro d _ w' ⟨u0, u1, rfl, H⟩ hall
    have h2 := H.b2
    have h3 := H.b3
    rw [hall 2 (by decide)] at h2
    rw [hall 3 (by decide)] at h3
    simp only [if_true] at h2 h3
    have H2 := zq h2
    have H3 := zq h3
    have HX := zq H
    clear h2 h3 H hall
    gi_wp2
    exact ⟨HX.out.k1, rfl, He.out.1, H2.out, by rw [He.out.2]; exact H3.out, HX.out.b4, HX.out.k3, HX.out.k4⟩
  ·have ht1 : ((C0 : Int) + i == q) = false := by rw [beq_eq_false_iff_ne]; omega
   gi_wp2
   exact ⟨zp _ _, cY.refl _ _, A1.out, A2.out, A3.out, A4.out, A5.out, A6.out, A7.out, A8.out, by omega⟩
 ·obtain ⟨h1, h2, h3, h4, h5, h6, h7, h8, h9⟩ := hI
  have hlt : r1 < r := by rcases HE.out with ⟨a1, a2, a3⟩ | ⟨a1, a2⟩ <;> omega
  have f6 := h6.cell 0
  have z6 := h6.fz 0
  have l6 := h6.lt
  simp only [aL, aI] at f6
  have w1 : IntKind.i64.wrap ((C0 : Int) + n) = ((C1 : Nat) : Int) := by rw [E1.out]; exact aX _ (by omega)
  have q6 := h6.set 0 (aD aE (C1 : Nat))
  simp only [aM, aV] at q6
  rw [← dd.out] at q6
  have G1 := zq (h1.other (a := ⟨BB, 0, none⟩) (aD aE (C1 : Nat)) (by show P0 ≠ BB; have := xt.out; omega))
  have G2 := zq (h2.other (a := ⟨BB, 0, none⟩) (aD aE (C1 : Nat)) (by show P0 + 1 ≠ BB; have := xt.out; omega))
  have G3 := zq (h3.other (a := ⟨BB, 0, none⟩) (aD aE (C1 : Nat)) (by show P0 + 1 + 1 ≠ BB; have := xt.out; omega))
  have G4 := zq (h4.other (a := ⟨BB, 0, none⟩) (aD aE (C1 : Nat)) (by show P0 + 1 + 1 + 1 ≠ BB; have := xt.out; omega))
  have G5 := zq (h5.other (a := ⟨BB, 0, none⟩) (aD aE (C1 : Nat)) (by show P0 + 1 + 1 + 1 + 1 ≠ BB; have := xt.out; omega))
  have G6 := zq q6
  have G7 := zq (h7.setCell (p := ⟨BB, 0, none⟩) (by show w.heap.size ≤ BB; have := xt.out; have := HP0.out; omega) (aD aE (C1 : Nat)))
  have G8 := h8.cons (fZ (bL (by have := HBs.out; have := xt.out; have := HP0.out; omega) (fZ BC.out.lt))) hD hK
  have G8 := zq (G8.setCell h6 0 (aD aE (C1 : Nat))).top
  rw [dd.out] at G6
  clear h1 h2 h3 h4 h5 h6 h7 h8 h9 q6 hK
  go_wp2
  go_roundw
  ·exact ⟨r1 + 1, D :: Ds, _, _, _, _, _, _, _, _, _, _, _, rfl, hlt, G1.out, G2.out, G3.out, G4.out, G5.out, by rw [dd.out]; exact G6.out, G7.out, G8.out⟩
  ·show N - ((r1 : Int) + 1).toNat < N - (r1 : Int).toNat
   omega
 ·obtain ⟨rfl, hr2, h3, h4, h5, h7, h8⟩ := hI
  have A3 := zq h3
  have A4 := zq h4
  have A5 := zq h5
  have A7 := zq h7
  have A8 := zq (h8.cons (fZ (bL (by have := HBs.out; have := xt.out; have := HP0.out; omega) (fZ BC.out.lt))) hD hK)
  have HRr2 := zq hr2
  clear h3 h4 h5 h7 h8 hr2
  go_wp2
  refine Qu (Ds := D :: Ds) rfl A8.out (fun V => bT V (P0 + 1 + 1) #[aD aE (C0 : Nat)] 3 ∧ bT V (P0 + 1 + 1 + 1) (dt l k) 99 ∧ bT V (P0 + 1 + 1 + 1 + 1) #[aD aE 0] 32 ∧ Below w.heap.size w V) ⟨A3.out, A4.out, A5.out, A7.out⟩
   (fun V X hX hV hx => ⟨hV.1.putObj _ hx rfl, hV.2.1.putObj _ hx rfl, hV.2.2.1.putObj _ hx rfl, hV.2.2.2.trans (pC hX hx)⟩)
   (fun V hV => ⟨DW rfl _ _ (P0 + 1 + 1) (P0 + 1 + 1 + 1) (P0 + 1 + 1 + 1 + 1) (aD aE (C0 : Nat)) (cN (dt l k)) (aD aE 0) rfl rfl rfl (ldv_int (hV.1.cell 0)) (run_loadVar_mid _ _ 0 _ (dt l k).toList _ (hV.2.1.range 0 21 rfl) rfl rfl (by kernel_rfl)) (fe (hV.2.2.1.cell 0)), ?_, hV.2.2.2⟩)
  rw [← HRr2.out, HLl.out, Tz.out]
end
end
section
open Go Go.RowKit Go.Lib
theorem I9(a:Option cT)(N cap:Nat)(rs:List Rg)(w:aF)(hl:rs.length=N)(hN:N≤1000)(hn:∀r,(bQ rs r).length≤1000)(rr:GL w a rs)(h0:qQ (bQ rs) N=0):
 aW aC 48 #[cN #[aB a N cap]] w (Rt (aD aE 0) w):=by
 obtain⟨c0,c1,c2,c3,c4,c5,c6,c7⟩:=wW h0;exact Xo a N cap rs w hl hN hn rr h0 fun W hW=>Xm a N cap rs W hl hN hn (rr.below hW) c2 c5
theorem stA{F:Fence}{n:Nat}{P:dP}{cR:Array gL}{rest:List gL}{op:gL}{a:kZ}{w:aF}{Q:Exit→kZ→aF→Prop}(T:eC)(z cs:Array aS){x y:qV}(hx:a.eval x=bA (some ⟨w.heap.size,0,none⟩))(hy:a.eval y=cN cs)
 (h:wpListIn F n P cR Q rest a (w.alloc (aJ cs T)))(hz:z.size=cs.size:=by rfl)(h1:cs.all (·.oneCell')=true:=by simp[nO])(ho:op.op=.store T x y:=by rfl)(hg:op.guard=none:=by rfl)(hd:op.dst=none:=by rfl)(hi:(P.info? T).map (·.size)=some cs.size:=by kernel_rfl):
 wpListIn F n P cR Q (op::rest) a (w.alloc (aJ z T)):=
 wpListIn_plain hg fun K hK=>Uk w.heap.size cs z T ho hd hx hy hi h1 (bT.new w z T) hz fun _=>hK _ _ (by
  rw[xP,GK z _ (by simpa using hz),D5];exact h)
theorem ldG{F:Fence}{n:Nat}{P:dP}{cR:Array gL}{rest:List gL}{op:gL}{a:kZ}{w:aF}{Q:Exit→kZ→aF→Prop}(ty:eC)(b o:Nat)(cs:Array aS){x:qV}{d:TypeDesc}(hc:w.rangeAt b o cs.toList)
 (h:wpListIn F n P cR Q rest (a.put op.dst (cN cs)) w)(hw:Region.wanted op (yielded cR a.tmps)=true:=by kernel_rfl)(ho:op.op=.load ty x:=by rfl)(hx:a.eval x=bA (some ⟨b,o,none⟩):=by rfl)(hu:P.underlying ty=some d:=by rfl)(hd:d.isRow=true:=by rfl)(hz:(P.info? ty).map (·.size)=some cs.toList.length:=by kernel_rfl):wpListIn F n P cR Q (op::rest) a w:=
 wpListIn_step fun K hK=>by
  rw[ip hw]
  exact Qp ty b o cs hc (hK _ _ h) ho hx hu hd hz
theorem ff(a:Option cT)(N cap:Nat)(rs:List Rg)(q:Nat)(w:aF)(hl:rs.length=N)(hN:N≤1000)(hn:∀r,(bQ rs r).length≤1000)(rr:GL w a rs)(h0:qQ (bQ rs) N=0)(r k:Nat)(hr:r<N)(hk:k<(bQ rs r).length)(hq:q=dA (bQ rs) r+k):
 aW aC 20 #[cN #[aB a N cap],aD aE q] w (Rt (cC #[aN (DS ((bQ rs r).getD (pre (bQ rs r).length k) default) ((bQ rs r).getD k default) (jG (bQ rs r) k)),aD aE 0]) w):=by
 obtain⟨c0,c1,c2,c3,-⟩:=wW h0;have hC:∀r,FE (bQ rs r):=GO (fun r hr=>Dx (by omega)) c3;have HF:=zq (fun W(hW:Below w.heap.size w W)=>pl_find a N cap rs q W hl hN hn (rr.below hW) c2 r k hr hk hq fun V hV=>I9 a N cap rs V hl hN hn (rr.below (aU hW hV)) h0);have HLf:=zq (fun W=>YQ ((bQ rs r).getD (pre (bQ rs r).length k) default) ((bQ rs r).getD k default) (jG (bQ rs r) k) W (hC r _) (hC r _) (hC r _));have E:bH (dt (bQ rs r) k=zX ((bQ rs r).getD (pre (bQ rs r).length k) default) ((bQ rs r).getD k default) (jG (bQ rs r) k)):=rfl;generalize DS _ _ _=B at *;generalize(bQ rs r).getD (pre (bQ rs r).length k) default=p at *;generalize(bQ rs r).getD k default=s at *;generalize jG (bQ rs r) k=t at *;rw[E.out]at HF;generalize dA (bQ rs) r=C0 at *;clear hl rr h0 c0 c1 c2 c3 hC hq hn E hk hr;have fA:=(aH _ w).alloc (aG _) (aJ #[aB a N cap] 24);have rG:=bT.new w #[aB a N cap] 24;obtain⟨W0,eQ⟩:=nm (w.alloc (aJ #[aB a N cap] 24));rw[eQ]at fA rG;have gY:=zq fA;have b0:=rG.cell 0;simp only[aL,aI]at b0;have HW:=zq eQ;clear fA rG eQ;refine dE func20 rfl ?_;simp only[ntmps20,bW,bF,bY,cW,cX,bR,bS,cD,bU,cL,bZ];go_upto_region 1 with(fail)
 rw[HW.out];clear HW;refine(wpIn_wide (n:=9)).1 ?_;gi_wp2;refine⟨trivial,callsIn_wide.2 ((HF.out _ gY.out).mono ?_)⟩;rintro e W1⟨rfl,hb⟩;have eW:=zq (aU gY.out hb);obtain⟨W2,Ii⟩:=nm (W1.alloc (aJ (zX p s t) 99));have hb2:=(aH _ W1).alloc (aG _) (aJ (zX p s t) 99);have Ic:=bT.new W1 (zX p s t) 99;rw[Ii]at hb2 Ic;have fR:=zq (aU eW.out hb2);have DO:=zq Ic;have Wi:=zq Ii;clear hb hb2 Ic Ii b0 gY eW HF;gi_wp2_with (refine stA 99 T8 (zX p s t) rfl rfl ?_);rw[Wi.out];clear Wi;refine(wpIn_wide (n:=9)).1 ?_;gi_wp2_with (refine ldG 99 W1.heap.size 0 (zX p s t) (DO.out.range 0 21 rfl) ?_);refine⟨trivial,callsIn_wide.2 ((HLf.out _).mono ?_)⟩;rintro e W3⟨rfl,hb⟩;have HB3:=zq (aU fR.out hb);clear hb;gi_wp2;exact nV (jW rfl _ _) rfl ⟨rfl,HB3.out⟩
def QC:List Int→Int
 |[]=>0
 |x::l=>if x=0 then QC l else x
theorem xu{l:List Int}(h:∀i,i<l.length→l.getD i 0=0):QC l=0:=by
 induction l with
 |nil=>rfl
 |cons x l ih=>
  rw[QC,ip (by simpa using h 0 (by simp))];exact ih fun i hi=>by simpa using h (i+1) (by simpa using hi)
theorem orI_at{l:List Int}{k:Nat}(hk:k<l.length)(h:∀i,i<k→l.getD i 0=0)(h0:l.getD k 0≠0):QC l=l.getD k 0:=by
 induction l generalizing k with
 |nil=>simp at hk
 |cons x l ih=>
  cases k with
  |zero=>rw[QC,iN (by simpa using h0)];simp
  |succ k=>
   rw[QC,ip (by simpa using h 0 (by omega))];rw[ih (k:=k) (by simpa using hk) (fun i hi=>by simpa using h (i+1) (by omega)) (by simpa using h0)];simp
theorem xw(b off n cap:Nat)(xs:List Int)(w:aF)(hl:xs.length=n)(hn:n≤1000000)(hc:∀i,i<n→w.cell? ⟨b,off+i,none⟩=some (aD aE (xs.getD i 0))):
 aW aC 151 #[aB (some ⟨b,off,none⟩) n cap] w fun e w'=>e=aQ (aD aE (QC xs))∧w=w':=by
 have Hc:=zq hc;have Hl:=zq hl;clear hc hl;go_enter func151,ntmps151;go_wp2;go_loop [8] (fun i=>∃k:Nat,i=aD aE k∧k≤n∧∀j,j<k→xs.getD j 0=0) (fun i=>n-(aK i).toNat);case atStart=>exact⟨0,rfl,by omega,fun j hj=>by omega⟩
 case round=>
  obtain⟨k,rfl,hk,hz⟩:=hrel;have Hz:=zq hz;clear hz;by_cases hlt:k<n
  ·have c0:=Hc.out k hlt;have hlt2:(k:Int)<n:=by omega
   obtain⟨x,hx⟩:∃x,xs.getD k 0=x:=⟨_,rfl⟩;rw[hx]at c0;have Hx:=zq hx;clear hx;by_cases h0:x=0
   ·subst h0;go_wp2;go_round;case rel=>exact⟨k+1,by go_num,by omega,fun j hj=>by
     by_cases e:j=k
     ·rw[e];exact Hx.out
     ·exact Hz.out j (by omega)⟩
    case measure=>simp only[aK];omega
   ·have E:=zq ((orI_at (by rw[Hl.out];exact hlt) Hz.out (by rw[Hx.out];exact h0)).trans Hx.out);have jC:(x !=0)=true:=by rw[bne_iff_ne];exact h0
    go_wp2;go_ret;exact⟨by rw[E.out]<;>rfl,rfl⟩
  ·obtain rfl:k=n:=by omega
   have E:=zq (xu (l:=xs) fun i hi=>Hz.out i (by rw[←Hl.out];exact hi));go_wp2;go_ret;exact⟨by rw[E.out]<;>rfl,rfl⟩
theorem xx(p q:Po)(w:aF)(hE:iM w)(h1:p.x.length≤8000000)(h2:p.y.length≤8000000)(h3:q.x.length≤8000000)(h4:q.y.length≤8000000):
 aW aC 152 #[p.v,q.v] w (Rt (aD aE (QC [(iE p.x q.x).1,(iE p.y q.y).1])) w):=by
 have HX:bH (∀W,Below w.heap.size w W→aW aC 61 #[aA (bs p.x),aA (bs q.x)] W (Rt (aD aE (iE p.x q.x).1) W)):=fun W hW=>by
  have:=mN (bs p.x) (bs q.x) W (hE.below hW) (by rw[cZ];exact h1) (by rw[cZ];exact h3);rwa[bP,bP]at this
 have HY:bH (∀W,Below w.heap.size w W→aW aC 61 #[aA (bs p.y),aA (bs q.y)] W (Rt (aD aE (iE p.y q.y).1) W)):=fun W hW=>by
  have:=mN (bs p.y) (bs q.y) W (hE.below hW) (by rw[cZ];exact h2) (by rw[cZ];exact h4);rwa[bP,bP]at this
 have HO:bH (∀(a b:Int)(W:aF),aW aC 151 #[aB (some ⟨W.heap.size,0,none⟩) 2 2] (W.alloc (aJ #[aD aE a,aD aE b] 3)) fun e w'=>e=aQ (aD aE (QC [a,b]))∧W.alloc (aJ #[aD aE a,aD aE b] 3)=w'):=fun a b W=>
  xw W.heap.size 0 2 2 [a,b] _ rfl (by decide) fun i hi=>by
   have q:=bT.new W #[aD aE a,aD aE b] 3;match i,hi with
   |0,_=>exact q.cell 0
   |1,_=>exact q.cell 1
 obtain⟨b0,b1,hb⟩:=two_new (w:=w) (c1:=p.cells) (c2:=q.cells) (T1:=66) (T2:=66) rfl;have k0:=b0.cell 0;have k1:=b0.cell 1;have k2:=b1.cell 0;have k3:=b1.cell 1;unfold Po.v Po.cells at *;simp only[aL,aI,bM]at k0 k1 k2 k3;have l1:=b0.lt;have l2:=b1.lt;have HB:=zq hb;clear hE h1 h2 h3 h4 hb b0 b1;generalize(iE p.x q.x).1=c1 at *;generalize(iE p.y q.y).1=c2 at *;generalize bs p.x=PX at *;generalize bs p.y=PY at *;generalize bs q.x=QX at *;generalize bs q.y=QY at *;go_enter func152,ntmps152;go_wp2;obtain⟨W0,eQ⟩:∃W,(w.alloc (aJ #[aA PX,aA PY] 66)).alloc (aJ #[aA QX,aA QY] 66)=W:=⟨_,rfl⟩;rw[eQ]at k0 k1 k2 k3 l1 l2 HB⊢;clear eQ;go_region_held3 (fun w'=>(w'.cell? ⟨w.heap.size,0,none⟩=some (aA PX)∧w'.cell? ⟨w.heap.size,1,none⟩=some (aA PY))∧(w'.cell? ⟨w.heap.size+1,0,none⟩=some (aA QX)∧w'.cell? ⟨w.heap.size+1,1,none⟩=some (aA QY))) (go_keep)
  (first
   |(go_at_call 61;(with_reducible refine(HX.out _ HB.out.drew).mono ?_);rintro e w1 ⟨rfl,hb1⟩;have eW:=zq (HB.out.drew.trans (hb1.mono HB.out.size));have:=ck hb1 w.heap.size 0 (aA PX);have:=ck hb1 w.heap.size 1 (aA PY);have:=ck hb1 (w.heap.size+1) 0 (aA QX);have:=ck hb1 (w.heap.size+1) 1 (aA QY))
   |(go_at_call 61;(with_reducible refine(HY.out _ eW.out).mono ?_);rintro e w2 ⟨rfl,hb2⟩;have fR:=zq (eW.out.trans (hb2.mono eW.out.size));have:=ck hb2 w.heap.size 0 (aA PX);have:=ck hb2 w.heap.size 1 (aA PY);have:=ck hb2 (w.heap.size+1) 0 (aA QX);have:=ck hb2 (w.heap.size+1) 1 (aA QY))
   |(go_at_call 151;(with_reducible refine(HO.out _ _ _).mono ?_);rintro e w3 ⟨rfl,rfl⟩)
   |fail)
 go_wp2;go_ret;exact⟨rfl,fR.out.alloc fR.out.size _⟩
def Ja(a b:Int):Int:=if a<b then -1 else if b<a then 1 else 0
theorem OV(a:Int)(w:aF):aW aC 230 #[aD aE a] w fun e w'=>e=aQ (aN false)∧w=w':=by
 go_enter func230,ntmps230;go_wp2;go_ret;exact⟨by first |rfl|(simp;done),rfl⟩
theorem Ul(a b:Int)(w:aF):aW aC 153 #[aD aE a,aD aE b] w fun e w'=>e=aQ (aD aE (Ja a b))∧∃n,w'=w.drewN n:=by
 have H1:=zq (fun W=>OV a W);have H2:=zq (fun W=>OV b W);by_cases h:a<b
 ·have E:bH (Ja a b= -1):=ip h;go_enter Vb,Rq;go_wp2_with (first |(refine(H1.out _).mono ?_;rintro e w1 ⟨rfl,rfl⟩)|(refine(H2.out _).mono ?_;rintro e w1 ⟨rfl,rfl⟩))
  go_ret;exact⟨by rw[E.out]<;>rfl,0,rfl⟩
 ·by_cases h2:b<a
  ·have E:bH (Ja a b=1):=by show _=_;rw[Ja,iN h,ip h2]
   go_enter Vb,Rq;go_wp2_with (first |(refine(H1.out _).mono ?_;rintro e w1 ⟨rfl,rfl⟩)|(refine(H2.out _).mono ?_;rintro e w1 ⟨rfl,rfl⟩))
   go_ret;exact⟨by rw[E.out]<;>rfl,0,rfl⟩
  ·have E:bH (Ja a b=0):=by show _=_;rw[Ja,iN h,iN h2]
   go_enter Vb,Rq;go_wp2_with (first |(refine(H1.out _).mono ?_;rintro e w1 ⟨rfl,rfl⟩)|(refine(H2.out _).mono ?_;rintro e w1 ⟨rfl,rfl⟩))
   go_ret;exact⟨by rw[E.out]<;>rfl,0,rfl⟩
def Db(fs:List Fr)(at':List (List UInt8))(p q:Pt):Int:=
 QC [QC [(iE (dV fs at' p).x (dV fs at' q).x).1,(iE (dV fs at' p).y (dV fs at' q).y).1],Ja p.side q.side,(iE p.en q.en).1]
theorem xy{w:aF}{c1 c2 c3:Array aS}{T1 T2 T3:eC}:bT (((w.alloc (aJ c1 T1)).alloc (aJ c2 T2)).alloc (aJ c3 T3)) w.heap.size c1 T1∧bT (((w.alloc (aJ c1 T1)).alloc (aJ c2 T2)).alloc (aJ c3 T3)) (w.heap.size+1) c2 T2∧
 bT (((w.alloc (aJ c1 T1)).alloc (aJ c2 T2)).alloc (aJ c3 T3)) (w.heap.size+1+1) c3 T3∧Below w.heap.size w (((w.alloc (aJ c1 T1)).alloc (aJ c2 T2)).alloc (aJ c3 T3)):=by
 refine⟨((bT.new w _ _).alloc _).alloc _,?_,?_,(((aH _ w).alloc (aG _) _).alloc (by simp) _).alloc (by simp <;>omega) _⟩
 ·have:=(bT.new (w.alloc (aJ c1 T1)) c2 T2).alloc (aJ c3 T3);rwa[bB]at this
 ·have:=bT.new ((w.alloc (aJ c1 T1)).alloc (aJ c2 T2)) c3 T3;rwa[bB,bB]at this
theorem fg(a b2:Option cT)(nf ca c2:Nat)(fs:List Fr)(at':List (List UInt8))(p q:Pt)(s t:Nat)(w:aF)(hE:iM w)
 (hs:p.side=s)(J2:s<nf)(ht:q.side=t)(Rv:t<nf)(hf:fs.length=nf)(hl:at'.length=nf)(rf:zR w a fs)(ra:Ek w b2 at')
 (h1:(dV fs at' p).x.length≤8000000)(h2:(dV fs at' p).y.length≤8000000)(h3:(dV fs at' q).x.length≤8000000)(h4:(dV fs at' q).y.length≤8000000)(h5:p.en.length≤8000000)(h6:q.en.length≤8000000):
 aW aC 75 #[cN #[aB a nf ca,aB b2 nf c2],p.v,q.v] w (Rt (aD aE (Db fs at' p q)) w):=by
 have HP:bH (∀W,Below w.heap.size w W→aW aC 70 #[cN #[aB a nf ca,aB b2 nf c2],p.v] W (Rt ((dV fs at' p).v) W)):=fun W hW=>Ax a b2 nf ca c2 fs at' p s W hs J2 hf hl (rf.below hW) (ra.below hW);have HQ:bH (∀W,Below w.heap.size w W→aW aC 70 #[cN #[aB a nf ca,aB b2 nf c2],q.v] W (Rt ((dV fs at' q).v) W)):=fun W hW=>Ax a b2 nf ca c2 fs at' q t W ht Rv hf hl (rf.below hW) (ra.below hW);have HOr:bH (∀W,Below w.heap.size w W→aW aC 152 #[(dV fs at' p).v,(dV fs at' q).v] W (Rt (aD aE (QC [(iE (dV fs at' p).x (dV fs at' q).x).1,(iE (dV fs at' p).y (dV fs at' q).y).1])) W)):=fun W hW=>xx _ _ W (hE.below hW) h1 h2 h3 h4;have HZ:=zq (fun W=>Ul p.side q.side W);have HT:bH (∀W,Below w.heap.size w W→aW aC 61 #[aA (bs p.en),aA (bs q.en)] W (Rt (aD aE (iE p.en q.en).1) W)):=fun W hW=>by
  have:=mN (bs p.en) (bs q.en) W (hE.below hW) (by rw[cZ];exact h5) (by rw[cZ];exact h6);rwa[bP,bP]at this
 have HO:bH (∀(x y z:Int)(W:aF),aW aC 151 #[aB (some ⟨W.heap.size,0,none⟩) 3 3] (W.alloc (aJ #[aD aE x,aD aE y,aD aE z] 3)) fun e w'=>e=aQ (aD aE (QC [x,y,z]))∧W.alloc (aJ #[aD aE x,aD aE y,aD aE z] 3)=w'):=fun x y z W=>
  xw W.heap.size 0 3 3 [x,y,z] _ rfl (by decide) fun i hi=>by
   have q:=bT.new W #[aD aE x,aD aE y,aD aE z] 3;match i,hi with
   |0,_=>exact q.cell 0
   |1,_=>exact q.cell 1
   |2,_=>exact q.cell 2
 obtain⟨b0,b1,b2',hb⟩:=xy (w:=w) (c1:= #[aB a nf ca,aB b2 nf c2]) (c2:=p.cells) (c3:=q.cells) (T1:=70) (T2:=47) (T3:=47);have k0:=b0.cell 0;have k1:=b0.cell 1;have k2:=b1.cell 0;have k3:=b1.cell 1;have k4:=b1.cell 2;have k5:=b2'.cell 0;have k6:=b2'.cell 1;have k7:=b2'.cell 2;have E:bH (Db fs at' p q=QC [QC [(iE (dV fs at' p).x (dV fs at' q).x).1,(iE (dV fs at' p).y (dV fs at' q).y).1],Ja p.side q.side,(iE p.en q.en).1]):=rfl;unfold Pt.v Pt.cells at *;unfold Po.v Po.cells at *;simp only[aL,aI,bM]at k0 k1 k2 k3 k4 k5 k6 k7;have l1:=b0.lt;have l2:=b1.lt;have l3:=b2'.lt;have HB:=zq hb;clear hE hs J2 ht Rv hf hl rf ra h1 h2 h3 h4 h5 h6 hb b0 b1 b2';generalize Db fs at' p q=RES at *;generalize dV fs at' p=cp at *;generalize dV fs at' q=cq at *;generalize QC [(iE cp.x cq.x).1,(iE cp.y cq.y).1]=o1 at *;generalize Ja p.side q.side=o2 at *;generalize(iE p.en q.en).1=o3 at *;obtain⟨ps,pf,pe⟩:=p;obtain⟨qs,qf,qe⟩:=q;simp only[]at *;generalize bs cp.x=PX at *;generalize bs cp.y=PY at *;generalize bs cq.x=QX at *;generalize bs cq.y=QY at *;generalize bs pf=PF at *;generalize bs pe=PE at *;generalize bs qf=QF at *;generalize bs qe=QE at *;go_enter func75,ntmps75;go_wp2;obtain⟨W0,eQ⟩:∃W,((w.alloc (aJ #[aB a nf ca,aB b2 nf c2] 70)).alloc (aJ #[aD aE ps,aA PF,aA PE] 47)).alloc (aJ #[aD aE qs,aA QF,aA QE] 47)=W:=⟨_,rfl⟩;rw[eQ]at k0 k1 k2 k3 k4 k5 k6 k7 l1 l2 l3 HB⊢;clear eQ;go_region_held3 (fun w'=>(w'.cell? ⟨w.heap.size,0,none⟩=some (aB a nf ca)∧w'.cell? ⟨w.heap.size,1,none⟩=some (aB b2 nf c2))∧(w'.cell? ⟨w.heap.size+1,0,none⟩=some (aD aE ps)∧w'.cell? ⟨w.heap.size+1,1,none⟩=some (aA PF)∧w'.cell? ⟨w.heap.size+1,2,none⟩=some (aA PE))∧(w'.cell? ⟨w.heap.size+1+1,0,none⟩=some (aD aE qs)∧w'.cell? ⟨w.heap.size+1+1,1,none⟩=some (aA QF)∧w'.cell? ⟨w.heap.size+1+1,2,none⟩=some (aA QE))) (go_keep)
  (first
   |(go_at_call 70;(with_reducible refine(HP.out _ HB.out.drew).mono ?_);rintro e w1 ⟨rfl,hb1⟩;have eW:=zq (HB.out.drew.trans (hb1.mono HB.out.size));have:=ck hb1 w.heap.size 0 (aB a nf ca);have:=ck hb1 w.heap.size 1 (aB b2 nf c2);have:=ck hb1 (w.heap.size+1) 0 (aD aE ps);have:=ck hb1 (w.heap.size+1) 1 (aA PF);have:=ck hb1 (w.heap.size+1) 2 (aA PE);have:=ck hb1 (w.heap.size+1+1) 0 (aD aE qs);have:=ck hb1 (w.heap.size+1+1) 1 (aA QF);have:=ck hb1 (w.heap.size+1+1) 2 (aA QE))
   |(go_at_call 70;(with_reducible refine(HQ.out _ eW.out).mono ?_);rintro e w2 ⟨rfl,hb2⟩;have fR:=zq (eW.out.trans (hb2.mono eW.out.size));have:=ck hb2 w.heap.size 0 (aB a nf ca);have:=ck hb2 w.heap.size 1 (aB b2 nf c2);have:=ck hb2 (w.heap.size+1) 0 (aD aE ps);have:=ck hb2 (w.heap.size+1) 1 (aA PF);have:=ck hb2 (w.heap.size+1) 2 (aA PE);have:=ck hb2 (w.heap.size+1+1) 0 (aD aE qs);have:=ck hb2 (w.heap.size+1+1) 1 (aA QF);have:=ck hb2 (w.heap.size+1+1) 2 (aA QE))
   |(go_at_call 152;(with_reducible refine(HOr.out _ fR.out).mono ?_);rintro e w3 ⟨rfl,hb3⟩;have HB3:=zq (fR.out.trans (hb3.mono fR.out.size));have:=ck hb3 w.heap.size 0 (aB a nf ca);have:=ck hb3 w.heap.size 1 (aB b2 nf c2);have:=ck hb3 (w.heap.size+1) 0 (aD aE ps);have:=ck hb3 (w.heap.size+1) 1 (aA PF);have:=ck hb3 (w.heap.size+1) 2 (aA PE);have:=ck hb3 (w.heap.size+1+1) 0 (aD aE qs);have:=ck hb3 (w.heap.size+1+1) 1 (aA QF);have:=ck hb3 (w.heap.size+1+1) 2 (aA QE))
   |(go_at_call 153;(with_reducible refine(HZ.out _).mono ?_);rintro e w4 ⟨rfl,n4,rfl⟩)
   |(go_at_call 61;(with_reducible refine(HT.out _ (by first |exact cK HB3.out _|exact HB3.out)).mono ?_);rintro e w5 ⟨rfl,hb5⟩;have yI:=zq ((cK HB3.out n4).trans (hb5.mono (cK HB3.out n4).size));have:=ck hb5 w.heap.size 0 (aB a nf ca);have:=ck hb5 w.heap.size 1 (aB b2 nf c2);have:=ck hb5 (w.heap.size+1) 0 (aD aE ps);have:=ck hb5 (w.heap.size+1) 1 (aA PF);have:=ck hb5 (w.heap.size+1) 2 (aA PE);have:=ck hb5 (w.heap.size+1+1) 0 (aD aE qs);have:=ck hb5 (w.heap.size+1+1) 1 (aA QF);have:=ck hb5 (w.heap.size+1+1) 2 (aA QE))
   |(go_at_call 151;(with_reducible refine(HO.out _ _ _ _).mono ?_);rintro e w6 ⟨rfl,rfl⟩)
   |fail)
 go_wp2;go_ret;exact⟨by rw[E.out]<;>rfl,yI.out.alloc yI.out.size _⟩
end
section
open Go
def Result.dge{α:Type}(d:Nat):Result α→Prop
 |.ok _ w=>d≤w.drawn
 |.halt _ w=>d≤w.drawn
theorem Result.dge_mono{α:Type}{d e:Nat}(h:d≤e){r:Result α}(hr:Result.dge e r):Result.dge d r:=by
 cases r with
 |ok a w=>exact bE h hr
 |halt a w=>exact bE h hr
theorem QD{α:Type}:∀(a:Ask α)(w:aF),w.drawn≤(w.ask a).2.drawn
 |.done a,w=>aG _
 |.ask what range k,w=>by
  unfold World.ask
  dsimp only
  split
  ·exact QD (k 0) w
  ·exact bE (Pi w.drawn) (QD _ {w with drawn:=w.drawn+1})
theorem sys_dge(w:aF)(c:Sys):w.drawn≤(w.sys c).2.drawn:=by
 have h:=QD (Kernel.perform c w.os) w;unfold World.sys;split
 ·exact aG _
 ·rename_i h1;rw[h1]at h;exact h
def Um{ε β:Type}(P:β→Prop)(x:Except ε β):Prop:=∀b,x=.ok b→P b
theorem Um.bind{ε α β:Type}{P:β→Prop}{x:Except ε α}{f:α→Except ε β}(h:∀a,Um P (f a)):Um P (x>>=f):=by
 intro b hb;cases x with
 |error e=>cases hb
 |ok a=>exact h a b hb
theorem Um.thr{ε β:Type}{P:β→Prop}{e:ε}:Um P (MonadExcept.throw e:Except ε β):=fun b hb=>by cases hb
theorem NF{p:dP}{w w':aF}{a:cT}{u:eC}{k:cT}{v:aS}{b:Bool}{l:List cT}(h:w.viewStore p a u k v b=.ok (w',l)):w'.drawn=w.drawn:=by
 have:Um (fun r:aF×List cT=>r.1.drawn=w.drawn) (w.viewStore p a u k v b):=by
  unfold World.viewStore;repeat' (first |(refine Um.bind fun _=>?_)|exact Um.thr|(intro b hb;cases hb;rfl)|split)
 exact this _ h
theorem QG{p:dP}{w w':aF}{a:cT}{v:aS}{b:Bool}{l:List cT}(h:w.farStore p a v b=.ok (w',l)):w'.drawn=w.drawn:=by
 unfold World.farStore at h;split at h
 ·split at h
  ·rename_i r hr;cases h;exact NF hr
  ·cases h
 ·cases h
theorem mG{α:Type}(p:dP)(s:Sem α)(w:aF):Result.dge w.drawn (s.run p w):=by
 induction s generalizing w with
 |pure a=>exact aG _
 |load m a k ih=>
  unfold gN;split
  ·exact ih _ w
  ·split
   ·exact ih _ w
   ·exact aG _
 |store m a v k ih=>
  cases v<;>(try exact aG _)<;>
  ·simp only[gN];split
   ·split
    ·exact aG _
    ·exact ih (w.setCell _ _)
   ·split
    ·rename_i h;have:=ih ‹aF›;rw[QG h]at this;exact this
    ·exact aG _
 |new o k ih=>exact ih _ _
 |shape r k ih=>exact ih _ _
 |freeze a n k ih=>
  have h:=ih (w.freeze a n);have e:(w.freeze a n).drawn=w.drawn:=by unfold World.freeze;split <;>rfl
  rw[e]at h;exact h
 |frozen a k ih=>exact ih _ _
 |getObj r k ih=>
  unfold gN;split
  ·exact aG _
  ·exact ih _ _
  ·exact aG _
 |setObj r o k ih=>
  unfold gN;split
  ·exact aG _
  ·exact ih _
  ·exact aG _
 |choose q k ih=>
  unfold gN;split
  ·exact ih _ _
  ·exact Result.dge_mono (Pi _) (ih _ {w with drawn:=w.drawn+1})
 |sys c k ih=>exact Result.dge_mono (sys_dge w c) (ih _ _)
 |program k ih=>exact ih _ _
 |mark m k ih=>exact ih _
 |halt h=>exact aG _
theorem mO{α:Type}{p:dP}{s:Sem α}{w w':aF}{a:α}(h:s.run p w=.ok a w'):w.drawn≤w'.drawn:=by
 have:=mG p s w;rw[h]at this;exact this
def GStep.dge(d:Nat):GStep→Prop
 |.go _ w _=>d≤w.drawn
 |.comm _ _ _ _ w _=>d≤w.drawn
 |.spawn _ _ w _=>d≤w.drawn
 |.count _ w _=>d≤w.drawn
 |.timer _ _ w _=>d≤w.drawn
 |.alone _ _ w _=>d≤w.drawn
 |.newcoro _ _ _ w _=>d≤w.drawn
 |.coroswitch _ _ _ w _=>d≤w.drawn
 |.collect _ w _=>d≤w.drawn
 |.watch _ w _=>d≤w.drawn
 |.ended _ _ _=>True
theorem GStep.dge_after{d:Nat}{es:Array Event}{s:GStep}(h:GStep.dge d s):GStep.dge d (s.after es):=by
 cases s<;>exact h
theorem GStep.dge_ite{d:Nat}{c:Prop}[Decidable c]{a b:GStep}(ha:GStep.dge d a)(hb:GStep.dge d b):GStep.dge d (if c then a else b):=by
 split
 ·exact ha
 ·exact hb
theorem BM{p:dP}{Xq:Bool}{fr:xZ}{cs:List xZ}{dy:Option Rr}{v:aS}{d:Nat}{w:aF}(h:d≤w.drawn):GStep.dge d (doReturn p Xq fr cs dy v w):=by
 unfold doReturn
 repeat' split
 all_goals first |exact h|trivial
theorem Un{w:aF}{fd:Nat}{t:ByteArray}{o:Outcome}{d:Nat}:GStep.dge d (endWith w fd t o):=by
 unfold endWith
 dsimp only
 repeat' split
 all_goals trivial
theorem BZ{p:dP}{fr:xZ}{v:aS}{w:aF}{d:Nat}(h:d≤w.drawn):GStep.dge d (endPrinting p fr v w):=by
 unfold endPrinting;dsimp only;split
 ·exact h
 ·trivial
theorem GQ{p:dP}{fr:xZ}{cs:List xZ}{dy:Option Rr}{m:String}{w:aF}{d:Nat}(h:d≤w.drawn):GStep.dge d (endFatal p fr cs dy m w):=by
 unfold endFatal;extract_lets chain raw shown;have hr:=mG p shown w;revert hr;generalize gN p shown w=r;intro hr;split
 ·exact bE h hr
 ·trivial
 ·trivial
theorem Uo{p:dP}{fr:xZ}{dy:Rr}{f:Fatal}{w:aF}{d:Nat}(h:d≤w.drawn):GStep.dge d (writeOn p fr dy f w):=by
 unfold writeOn;extract_lets on;split
 ·trivial
 ·extract_lets j1 j2 j3 j4 write;clear_value write;simp only[pV];have hr:=mG p write w;revert hr;generalize gN p write w=r;intro hr;split
  ·rename_i e;cases e;exact bE h hr
  ·rename_i e;cases e;exact bE h hr
  ·trivial
  ·trivial
theorem die_dge{p:dP}{fr:xZ}{dy:Rr}{w:aF}{d:Nat}(h:d≤w.drawn):GStep.dge d (die p fr dy w):=by
 unfold die;split
 ·exact Uo h
 ·split
  ·split
   ·exact h
   ·exact Un
  ·dsimp only;split
   ·exact h
   ·rename_i s _;have hr:=mG p (withAddress s) w;revert hr;generalize gN p (withAddress s) w=r;intro hr;split
    ·exact bE h hr
    ·trivial
   ·rename_i t recv name _;refine GStep.dge_after ?_;simp only[pV];have hr:=mG p (invoke (.fn (.method name) #[]) #[.iface t recv]) w;revert hr;generalize gN p (invoke (.fn (.method name) #[]) #[.iface t recv]) w=r;intro hr;split
    ·exact bE h hr
    ·exact bE h hr
    ·trivial
    ·exact BZ (bE h hr)
    ·trivial
   ·trivial
theorem Jb{p:dP}{fr:xZ}{cs:List xZ}{dy:Option Rr}{df:Deferred}{w:aF}{d:Nat}(h:d≤w.drawn):GStep.dge d (callDeferred p fr cs dy df w):=by
 unfold callDeferred
 refine GStep.dge_ite trivial ?_
 ·simp only[pV]
  refine GStep.dge_after ?_
  have hr:=mG p (invoke df.target df.args) w
  revert hr
  generalize gN p (invoke df.target df.args) w=r
  intro hr
  repeat' split
  all_goals first |exact bE h hr|trivial|exact GQ (bE h hr)
theorem Xr{p:dP}{Xq:Bool}{fr:xZ}{cs:List xZ}{dy:Option Rr}{w:aF}{d:Nat}(h:d≤w.drawn):GStep.dge d (unwind p Xq fr cs dy w):=by
 unfold unwind;split
 ·rename_i b _ ds _;refine GStep.dge_after ?_;simp only[pV];have hr:=mG p (Zi b) w;revert hr;generalize gN p (Zi b) w=r;intro hr;split
  ·exact bE h hr
  ·trivial
 ·exact Jb h
 ·split
  ·trivial
  ·rename_i chain _;refine GStep.dge_ite trivial ?_;split
   ·exact h
   ·split
    ·refine GStep.dge_ite h ?_;have hr:=mG p (reportChain chain false) w;revert hr;generalize gN p (reportChain chain false) w=r;intro hr;split
     ·exact bE h hr
     ·trivial
     ·trivial
    ·split
     ·exact BZ h
     ·trivial
  ·split
   ·exact BM h
   ·rename_i fn _;refine GStep.dge_after ?_;simp only[pV];have hr:=mG p (gR fn fr.tmps) w;revert hr;generalize gN p (gR fn fr.tmps) w=r;intro hr;split
    ·exact BM (bE h hr)
    ·trivial
    ·trivial
theorem fh{p:dP}{fr:xZ}{cs:List xZ}{dy:Option Rr}{g:Nat}{w:aF}{d:Nat}(h:d≤w.drawn):GStep.dge d (early p fr cs dy g w):=by
 unfold early;extract_lets refuse notYet;have hn:∀w:aF,d≤w.drawn→GStep.dge d (notYet w):=fun w h=>by
  simp only[notYet];split
  ·exact h
  ·trivial
 refine GStep.dge_ite (hn w h) ?_;split
 ·trivial
 ·rename_i f _;extract_lets there;refine GStep.dge_ite (hn w h) ?_;refine GStep.dge_ite (hn w h) ?_;split
  ·trivial
  ·exact h
  ·trivial
  ·exact hn w h
  ·refine GStep.dge_ite h ?_;refine GStep.dge_ite (hn w h) ?_;have hr:=mG p (choose (.early g)) w;revert hr;generalize gN p (choose (.early g)) w=r;intro hr;split
   ·exact hn _ (bE h hr)
   ·exact bE h hr
   ·trivial
theorem wX{p:dP}{Dc:Bool}{fr:xZ}{cs:List xZ}{dy:Option Rr}{s:Sem Next}{w:aF}{d:Nat}(h:d≤w.drawn):GStep.dge d (stepG.apply p Dc fr cs dy s w):=by
 unfold stepG.apply
 extract_lets go kind
 have e:∃es,(if Dc=true then s.runT p w #[]else(s.run p w,#[]))=(s.run p w,es):=by
  split
  ·exact⟨_,pV _ _ _ _⟩
  ·exact⟨_,rfl⟩
 obtain⟨es,e⟩:=e
 rw[e]
 dsimp only
 have hr:=mG p s w
 revert hr
 generalize gN p s w=r
 intro hr
 refine GStep.dge_after ?_
 clear e
 repeat' split
 all_goals first |exact bE h hr|trivial|exact GQ (bE h hr)|exact fh (bE h hr)|skip
theorem xz{p:dP}{Dc:Bool}{fr:xZ}{cs:List xZ}{dy:Option Rr}{w:aF}{d:Nat}(h:d≤w.drawn):GStep.dge d (stepG.oper p Dc fr cs dy w):=by
 unfold stepG.oper;split
 ·trivial
 ·split
  ·exact wX h
  ·exact wX h
theorem Mt{α:Type}{d:Nat}{x:Option α}{a:GStep}{f:α→GStep}(ha:GStep.dge d a)(hf:∀y,GStep.dge d (f y)):GStep.dge d (x.elim a f):=by
 cases x with
 |none=>exact ha
 |some y=>exact hf y
theorem yc{p:dP}{Xq Dc:Bool}{fr:xZ}{cs:List xZ}{dy:Option Rr}{w:aF}{d:Nat}(h:d≤w.drawn):GStep.dge d (stepG.exec p Xq Dc fr cs dy w):=by
 unfold stepG.exec;extract_lets go hence lost leave;have hl:∀j,GStep.dge d (leave j):=fun j=>by
  simp only[leave];split
  ·exact GStep.dge_ite h trivial
  ·rename_i l _;refine GStep.dge_after ?_;simp only[pV];have hr:=mG p (NK l j) w;revert hr;generalize gN p (NK l j) w=r;intro hr;split
   ·exact BM (bE h hr)
   ·trivial
 have ht:∀l,GStep.dge d (hence l):=fun l=>h;clear_value leave;split
 ·exact hl _
 ·exact hl _
 ·exact ht _
 ·exact ht _
 ·exact ht _
 ·exact ht _
 ·exact ht _
 ·split
  ·exact ht _
  ·trivial
 ·exact ht _
 ·exact ht _
 ·exact ht _
 ·exact ht _
 ·exact Mt (hl _) ht
 ·exact Mt (hl _) ht
 ·refine GStep.dge_after ?_;rename_i f params assign body k _;simp only[pV];have hr:=mG p (Instr.enterLoop fr.fn fr.tmps params assign body fr.roundOf) w;revert hr;generalize gN p (Instr.enterLoop fr.fn fr.tmps params assign body fr.roundOf) w=r;intro hr;split
  ·exact wX (bE h hr)
  ·trivial
 ·trivial
 ·exact wX h
 ·refine GStep.dge_after ?_;rename_i l k _;simp only[pV];have hr:=mG p (Instr.endLoop l) w;revert hr;generalize gN p (Instr.endLoop l) w=r;intro hr;split
  ·exact bE h hr
  ·exact bE h hr
  ·trivial
 ·trivial
 ·exact wX h
 ·rename_i lM args _ _;cases Extern.next lM with
  |none=>trivial
  |some e=>exact wX h
 ·rename_i id cR draw k _;refine GStep.dge_ite (ht _) ?_;have hr:=mG p (choose (.order fr.fn id)) w;revert hr;generalize gN p (choose (.order fr.fn id)) w=r;intro hr;split
  ·exact bE h hr
  ·trivial
 ·exact ht _
 ·exact GStep.dge_ite (xz h) h
theorem fi{p:dP}{Xq Dc:Bool}{g:jd}{w:aF}{d:Nat}(h:d≤w.drawn):GStep.dge d (stepG p Xq g w Dc):=by
 unfold stepG;dsimp only;split
 ·exact die_dge h
 ·exact yc h
 ·exact Xr h
def Stepped.dge(d:Nat):Stepped→Prop
 |.next m=>d≤m.world.drawn
 |.ended _ _=>True
theorem Kb{rest:Rest}{cases:Array CommCase}{w w':aF}(h:waitingAt rest cases w=some w'):w'.drawn=w.drawn:=by
 unfold waitingAt at h;split at h
 ·split at h
  ·cases h;rfl
  ·cases h
 ·cases h;rfl
theorem Kc{p:dP}{rest:Rest}{gs:Array jd}{i:Nat}{g:jd}{cases:Array CommCase}{bl:Bool}{sh:CommShape}{w:aF}{d:Nat}(h:d≤w.drawn):Stepped.dge d (communicate p rest gs i g cases bl sh w).1:=by
 unfold communicate;extract_lets put illMade me other ready pick;split
 ·trivial
 ·split
  ·split
   ·split
    ·rename_i hw;show _≤World.drawn _;rw[Kb hw];exact h
    ·trivial
   ·exact h
  ·have hr:=mG p pick w;revert hr;generalize gN p pick w=r;intro hr;cases r with
   |halt a w1=>trivial
   |ok a w1=>
    obtain⟨k,c,way⟩:=a;have hw:d≤w1.drawn:=bE h hr;dsimp only;split
    ·have hz:=mG p (runtimePanic (.plain "send on closed channel"):Sem Unit) w1;revert hz;generalize gN p (runtimePanic (.plain "send on closed channel"):Sem Unit) w1=r2;intro hz;split
     ·exact bE hw hz
     ·trivial
    ·exact hw
    ·exact hw
    ·split
     ·exact hw
     ·split
      ·rename_i hq;have hz:=mO hq;exact bE hw hz
      ·trivial
    ·exact hw
    ·exact hw
    ·trivial
theorem Up{p:dP}{gs:Array jd}{rest:Rest}{w:aF}{d:Nat}(h:d≤w.drawn):Stepped.dge d (look p gs rest w):=by
 unfold look;split
 ·extract_lets;split;dsimp only;split
  ·trivial
  ·split
   ·trivial
   ·split
    ·rename_i hq;have hz:=mO hq;exact bE h hz
    ·trivial
    ·trivial
 ·trivial
theorem fj{p:dP}{m:vV}{k:Nat}{d:Nat}(h:d≤m.world.drawn):Stepped.dge d (serve p m k):=by
 unfold serve;split
 ·trivial
 ·exact h
 ·extract_lets;split
  ·trivial
  ·exact h
theorem Uq(w:aF)(c:Nat):(drain w c).2.drawn=w.drawn:=by
 unfold drain;split <;>rfl
theorem GR(m:vV)(k:Nat)(t:Timer)(a b:Nat):(retime m k t a b).2.world.drawn=m.world.drawn:=by
 unfold retime;cases t.chan with
 |none=>rfl
 |some c=>exact Uq _ _
theorem NG{m m':vV}{op:TimerOp}{v:aS}(h:timerOp m op=.ok (v,m')):m'.world.drawn=m.world.drawn:=by
 unfold timerOp at h;split at h
 ·split at h
  ·cases h;rfl
  ·split at h
   ·split at h
    ·cases h
    ·cases h;rfl
   ·cases h
 ·unfold timerOp.named at h;split at h
  ·injection h with h;exact(congrArg (fun r:aS×vV=>r.2.world.drawn) h).symm.trans (GR _ _ _ _ _)
  ·cases h
 ·split at h
  ·rename_i m1 hm;have hm1:m1.world.drawn=m.world.drawn:=by
    unfold timerOp.opened at hm;split at hm
    ·split at hm
     ·cases hm;rfl
     ·cases hm
    ·cases hm;rfl
   unfold timerOp.named at h;split at h
   ·injection h with h;exact((congrArg (fun r:aS×vV=>r.2.world.drawn) h).symm.trans (GR _ _ _ _ _)).trans hm1
   ·cases h
  ·cases h
 ·cases h;rfl
theorem yd{p:dP}{m:vV}{i:Nat}{l:Bool}{d:Nat}(h:d≤m.world.drawn):Stepped.dge d (runT p m i l).1:=by
 unfold runT;extract_lets rest world;split;rename_i g gs _;extract_lets wake fn pos s cR done;have hs:GStep.dge d s:=fi h;clear_value s;split
 ·trivial
 ·exact Kc hs
 ·exact hs
 ·exact hs
 ·simp only[done];split
  ·trivial
  ·exact hs
 ·exact hs
 ·exact Up hs
 ·exact hs
 ·exact hs
 ·simp only[done];split
  ·exact hs
  ·exact hs
  ·trivial
 ·simp only[done];split
  ·rename_i hq;show d≤World.drawn _;have:=NG hq;dsimp only at this;rw[this];exact hs
  ·exact hs
  ·trivial
  ·trivial
def Move.dge(d:Nat):Move→Prop
 |.goroutine m _=>d≤m.world.drawn
 |.machine s _=>Stepped.dge d s
theorem Jc{p:dP}{m:vV}{d:Nat}(h:d≤m.world.drawn):Move.dge d (askOn p m):=by
 unfold askOn;extract_lets mono rs ds pick;have hp:∀m:vV,d≤m.world.drawn→Move.dge d (pick m):=fun m h=>by
  simp only[pick];split
  ·trivial
  ·rename_i hq;have h1:=bE h (mO hq);split
   ·exact h1
   ·split
    ·trivial
    ·rename_i Ic;exact bE h1 (mO Ic)
 clear_value pick;split
 ·trivial
 ·rename_i hq;have h1:=bE h (mO hq);clear hq;clear_value rs;split
  ·exact fj h1
  ·extract_lets m2;cases rs with
   |nil=>
    dsimp only;split
    ·exact h1
    ·split
     ·exact h1
     ·split
      ·trivial
      ·trivial
   |cons r rs=>
    dsimp only;split
    ·exact hp _ h1
    ·split
     ·trivial
     ·rename_i Ic;exact hp _ (bE h1 (mO Ic))
     ·rename_i Ic;have hz:=mO Ic;exact bE h1 hz
     ·rename_i Ic;have hz:=mO Ic;exact hp _ (bE h1 hz)
theorem OW{p:dP}{m:vV}{d:Nat}(h:d≤m.world.drawn):Move.dge d (ask p m):=by
 unfold ask;split
 ·split
  ·trivial
  ·rename_i hq;have hl:=Up (p:=p) (gs:=m.gs) (rest:=m.rest) (bE h (mO hq));split
   ·rename_i Ic;rw[Ic]at hl;exact Jc hl
   ·exact hl
  ·rename_i hq;exact Jc (bE h (mO hq))
 ·exact Jc h
theorem ye{p:dP}{m:vV}{d:Nat}(h:d≤m.world.drawn):Move.dge d (move p m):=by
 unfold move;split
 ·split
  ·exact h
  ·trivial
 ·split
  ·split
   ·exact h
   ·exact OW h
  ·exact OW h
theorem yf{p:dP}{m:vV}{d:Nat}(h:d≤m.world.drawn):Stepped.dge d (step p m):=by
 unfold step stepT;have hm:=ye (p:=p) h;split
 ·rename_i hq;rw[hq]at hm;exact yd hm
 ·rename_i hq;rw[hq]at hm;exact hm
theorem yg{p:dP}{n:Nat}:∀{m:vV} {d:Nat},d≤m.world.drawn→Stepped.dge d (runN p n m):=by
 induction n with
 |zero=>intro m d h;exact h
 |succ n ih=>
  intro m d h;unfold runN;have hs:=yf (p:=p) h;split
  ·rename_i hq;rw[hq]at hs;exact ih hs
  ·trivial
theorem Steps.dge{p:dP}{m m':vV}(h:Steps p m m'):m.world.drawn≤m'.world.drawn:=by
 obtain⟨n,h⟩:=h;have:=yg (p:=p) (n:=n) (aG m.world.drawn);rw[h]at this;exact this
theorem Ur{P:dP}{f:FI}{args:Array aS}{w:aF}{R:Ending→aF→Prop}(h:aW P f args w R)(hR:∀e w',R e w'→∃v,e=aQ v):aW P f args w fun e w'=>R e w'∧w.drawn≤w'.drawn:=by
 intro cs;obtain⟨e,w',fr,h1,h2,h3,h4⟩:=h cs;obtain⟨v,rfl⟩:=hR e w' h1;exact⟨_,w',fr,⟨h1,Steps.dge h2⟩,h2,h3,h4⟩
end
section
open Go.Shelf
def Tryz.sortN_ren:iK:=⟨fun |6=>96|15=>173|14=>172|28=>252|29=>253|20=>244|21=>245|22=>246|23=>247|24=>248|25=>249|26=>250|27=>251|46=>292|47=>293|48=>294|49=>295|50=>296|57=>328|n=>n,fun |22=>54|24=>27|25=>95|3=>3|39=>227|0=>0|53=>301|55=>303|4=>4|46=>295|45=>294|50=>229|5=>5|9=>9|66=>332|70=>336|76=>355|77=>214|n=>n,fun |n=>n⟩
open Go Go.RowKit Go.Lib Go.Sort Go.Shelf
def Nm(s:List UInt8):Prop:=∃q:Rat,HQ 140 q∧s=bJ q
structure NmT where
 s:List UInt8
 ok:Nm s
instance:Inhabited NmT:=⟨⟨bJ 0,⟨0,by constructor <;>decide,rfl⟩⟩⟩
theorem Nm.cmp{s t:List UInt8}(h:Nm s)(k:Nm t):iE s t=(tG (dD s) (dD t),0):=by
 obtain⟨x,hx,rfl⟩:=h;obtain⟨y,hy,rfl⟩:=k;rw[IA hx hy (by decide),jZ,jZ]
theorem Dz{s:List UInt8}(h:Nm s):s.length≤8000000:=by
 obtain⟨q,hq,rfl⟩:=h;have:=tT hq (by decide);rwa[cZ]at this
theorem grow_of{w w':aF}(h:Below w.heap.size w w')(hd:w.drawn≤w'.drawn):∃q os,w'=grow (w.drewN q) os:=by
 refine⟨w'.drawn-w.drawn,w'.heap.extract w.heap.size w'.heap.size,?_⟩;obtain⟨OX,tape',Xs,JU,output'⟩:=w';have e1:JU=w.os:=h.os;have e2:tape'=w.tape:=h.tape;have e3:output'=w.output:=h.output;have hs:w.heap.size≤OX.size:=h.size;have hb:∀k,k<w.heap.size→OX[k]? =w.heap[k]? :=h.block;have hd:w.drawn≤Xs:=hd;subst e1 e2 e3;have eh:OX=w.heap++OX.extract w.heap.size OX.size:=by
  apply Array.ext_getElem?;intro k;by_cases hk:k<w.heap.size
  ·rw[yA hk];exact hb k hk
  ·rw[Array.getElem?_append_right (by omega),Array.getElem?_extract];by_cases hk2:k<OX.size
   ·rw[ip (by omega)];congr 1;omega
   ·rw[iN (by omega),Array.getElem?_eq_none (by omega)]
 rw[World.mk.injEq];exact⟨eh,rfl,by show Xs=w.drawn+(Xs-w.drawn);omega,rfl,rfl⟩
theorem Calls.grown{f:FI}{args:Array aS}{w:aF}{v:aS}(h:aW aC f args w (Rt (v) w)):aW aC f args w fun e w'=>e=aQ v∧∃q os,w'=grow (w.drewN q) os:=
 (Ur h fun _ _ hR=>⟨_,hR.1⟩).mono fun _ _⟨⟨h1,h2⟩,h3⟩=>⟨h1,grow_of h2 h3⟩
theorem JH{α:Type}[Inhabited α](enc:α→aS)(w:aF)(g off m:Nat)(d:Array α)(os:Array Obj):w.grownBy (sortWorld enc w g off m d os) (some g):=by
 refine⟨rfl,rfl,rfl,?_,fun k hk jC=>?_⟩
 ·show w.heap.size≤(RM w.heap g _++os).size;rw[tX,Ik];omega
 ·show(RM w.heap g _++os)[k]? =_;rw[yA (by rw[Ik];exact hk),U8,iN (fun e=>jC (by rw[e]))]
theorem fk{α:Type}[Inhabited α](enc:α→aS)(w:aF)(base g n cap m:Nat)(e:eC)(d d':List α)(os:Array Obj)(ho:w.ownsRow base e 1 (aB (some ⟨g,0,none⟩) n cap) n (d.map enc))(hl:d'.length=n):
 (sortWorld enc w g 0 m d'.toArray os).ownsRow base e 1 (aB (some ⟨g,0,none⟩) n cap) n (d'.map enc):=by
 obtain⟨h1,h2⟩:=ho;refine⟨by rw[List.length_map];omega,.inr ?_⟩;rcases h2 with⟨h2,-⟩|⟨g',c',yU,h2,h3,h4,h5,h6,h7,h8⟩
 ·cases h2
 ·cases h2;refine⟨g,cap,putCells enc 0 d'.toArray yU,rfl,h3,?_,h5,h6,by unfold putCells;rw[Array.size_mapIdx];exact h7,?_⟩
  ·show(RM w.heap g _++os)[g]? =_;have hg:g<w.heap.size:=(Array.getElem?_eq_some_iff.1 h4).1;rw[yA (by rw[Ik];exact hg),U8,ip rfl,h4];rfl
  ·apply List.ext_getElem?;intro i;rw[List.getElem?_take,List.getElem?_map,Array.getElem?_toList];unfold putCells;rw[Array.getElem?_mapIdx];by_cases hi:i<n
   ·have hc:i<yU.size:=by rw[h7];omega
    rw[ip (by omega),Array.getElem?_eq_getElem hc,List.getElem?_eq_getElem (by omega),mn,mn,ip ⟨bN _,by simp;omega⟩];have:i<d'.toArray.size:=by simp;omega
    rw[Nat.sub_zero,getElem!_pos d'.toArray i this];simp
   ·rw[iN (by omega),List.getElem?_eq_none (by omega)];rfl
end
end Go.Proofs.YtckgmoobicmbnaaGreatDoor
