import Derived.Test.YtckgmoobicmbnaaGreatDoorProg
import Derived.WalkKit
import Derived.WalkSpells
import Derived.WalkLawsBesides
import Derived.RegionTactic
import Derived.ChangeAlike
import Derived.Deep.QuietTactic
import Derived.BigQuiet
import Derived.Lib.Hide
import Derived.Deep.DeepCutAuto
import Derived.Deep.RegionHeld3
import Derived.Test.YtckgmoobicmbnaaGreatDoorZ0
import Derived.Test.YtckgmoobicmbnaaGreatDoorZ1
import Derived.Test.YtckgmoobicmbnaaGreatDoorZ2
import Derived.Test.YtckgmoobicmbnaaGreatDoorZ4
namespace Go.Proofs.YtckgmoobicmbnaaGreatDoor
set_option maxRecDepth 100000
set_option maxHeartbeats 8000000
set_option linter.all false
open Go.Proofs.Tryz
open _root_.Bool renaming and_eq_true->bK,or_eq_false_iff->dO,true_and->kN,false_and->mH,not_false->vM,not_true->BN
open _root_.Go renaming World->aF,undef->aP,Value->aS,Calls->aW,bodyPost_ret->cI,below_drewN->cK,maxLen->dL,wpAnyIn_done->eM,results->gR,run_string_add_lists->tN,callFunc->uQ,FuncId->FI
open Go.AllReadyIn renaming nil->aT,cons->eF
open Go.ByteArray renaming toList_eq->cJ
open Go.Calls renaming mono->yP
open Go.Ending renaming returned->aQ
open Go.IntKind renaming i64->aE
open Go.IntWalk renaming i64_in->aX
open Go.Lib renaming itoa->cM,compareInt->H7,trimPrefix->JI
open Go.Obj renaming cells->aJ
open Go.Op renaming stringOp->Jh
open Go.Oper renaming semAt_some->dW
open Go.Proofs renaming enters_of->nH
open Go.Proofs.Tryz renaming prog->aC,sizeOf272->gM,isAgg272->gX,results264->oB,results213->rY,ntmps150->vU,func150->xW,func325->Jk,ntmps148->Q5,ntmps319->Q7,ntmps321->Q8,ntmps214->Q9,ntmps325->Rc,ntmps289->Re,ntmps291->Rh,ntmps290->Ri,ntmps304->Rj,func148->UT,func319->UU,func321->UV,func214->UW,func333->UX,func353->UY,func289->UZ,func291->U3,func290->U4,func304->U5
open Go.RowKit renaming Hid->bH
open Go.RowKit.Below renaming refl->aH,setCell->iV,alloc->lA,trans->lJ
open Go.Value renaming string->aA,slice->aB,int->aD,bool->aN,pointer->bA,tuple->cC,agg->cN
open Go.World renaming size_alloc->bB,block_lt_of_cell?->bG
open _root_.Int renaming natAbs_natCast->cA,natCast_mul->lI,mul_ne_zero->xA,fdiv_eq_ediv_of_nonneg->AZ,mul_nonneg->A9
open _root_.List renaming getElem?_cons_zero->aI,getElem?_toArray->aL,getElem?_cons_succ->bM,takeWhile_sublist->Dh
open _root_.MonadStateOf renaming set->Vq
open _root_.Nat renaming le_refl->aG,le_trans->bE,lt_of_lt_of_le->bL,pow_le_pow_right->bO,le_succ_of_le->dM,gcd->dR,lt_of_le_of_lt->fO,le_of_lt->fZ,div_le_self->wZ,mod_le->Pg,sub_le->Ph
open _root_.Prod renaming snd->vZ
open _root_.Rat renaming den_nz->zK
open _root_.Trans renaming trans->cB
section
open Go Go.RowKit Go.Lib
abbrev wS(s t:ByteArray)(M N:Nat)(c1 c2:Bool)(w:aF):Prop:=
 aW aC 150 #[aA s,aA t] w (Rt (cC #[aA (bs (cM ((gV c1 M).fdiv (gV c2 N)))),aA (bs (cM ((gV c1 M).fmod (gV c2 N)))),aD aE 0]) w)
theorem Ao{b:Bool}{N:Nat}(h:N<10^300):nL (gV b N)=(cM (gV b N),0):=by
 rw[nL,ip (by rw[uC];exact h)]
theorem nT{N k:Nat}(h1:N≤k)(h:(cQ PB k).length≤34):(cQ PB N).length≤1000:=bE (iP dB h1) (by omega)
theorem Nr(s t:ByteArray)(w:aF)(M N:Nat)(c1 c2:Bool)(htz:(t.toList==[48])=false)
 (Hb:bH (aW aC 222 #[aA s,aA t] w (Rt (aD aE 0) w)))
 (Hc:bH (∀W,aW aC 223 #[aA s,aA t,aD aE 18] W (Rt (cC #[aD aE 0,aD aE 0,aN false]) W)))
 (r1:bH (∀W,aW aC 224 #[aA s] W fun e w'=>∃v,e=aQ (cN #[aN c1,v])∧tC w' W.heap.size v PB M∧Below W.heap.size W w'))
 (r2:bH (∀W,aW aC 224 #[aA t] W fun e w'=>∃v,e=aQ (cN #[aN c2,v])∧tC w' W.heap.size v PB N∧Below W.heap.size W w'))
 (Hl:bH ((cQ PB M).length≤34∧(cQ PB N).length≤34))(hN:bH (0<N))(HE:bH (iM w))(hM:bH (M<10^300∧N<10^300))(Ns:c2=c1):
 wS s t M N c1 c2 w:=by
 unfold wS;have hbb:(!c1==c2)=false:=by rw[Ns];cases c1<;>rfl
 have S1:bH (gV false (M/N)=(gV c1 M).fdiv (gV c2 N)):=by show _=_;rw[Ns];exact(F4 c1 hN.out).1.symm
 have S2:bH (gV c2 (M%N)=(gV c1 M).fmod (gV c2 N)):=by show _=_;rw[Ns];exact(F4 c1 hN.out).2.symm
 have RQ:bH (nL (gV false (M/N))=(cM (gV false (M/N)),0)):=Ao (fO (wZ _ _) hM.out.1);have RR:bH (nL (gV c2 (M%N))=(cM (gV c2 (M%N)),0)):=Ao (fO (Pg _ _) hM.out.1);clear Ns;go_enter xW,vU;go_wp2_with fail
 refine Hb.out.mono ?_;rintro e w1⟨rfl,hb1⟩;go_wp2_with fail
 refine(Hc.out w1).mono ?_;rintro e Vi⟨rfl,Ly⟩;have mM:=aR hb1 Ly hb1.size;clear hb1 Ly;go_wp2_with fail
 refine(r1.out Vi).mono ?_;rintro e w2⟨v1,rfl,Du,hb2⟩;have gJ:=aR mM hb2 mM.size;clear mM hb2;go_wp2_with fail
 refine(r2.out w2).mono ?_;rintro e w3⟨v2,rfl,Ci,hb3⟩;have CI:=Du.below hb3;have kY:=aR gJ hb3 gJ.size;clear gJ hb3 Du;have i1:=CI.inL;have i2:=Ci.inL;clear CI Ci;have i1':=i1;have i2':=i2;obtain⟨a1,n1,d1,rfl,-⟩:=i1';obtain⟨a2,n2,d2,rfl,-⟩:=i2';go_wp2_with fail
 generalize hg:w3.heap.size=g at *;have Hg:=zq hg;obtain⟨W,hW⟩:∃W,(w3.alloc (aJ #[aN c1,aB a1 n1 d1] 284)).alloc (aJ #[aN c2,aB a2 n2 d2] 284)=W:=⟨_,rfl⟩;rw[hW];have hBW:Below w3.heap.size w3 W:=by rw[←hW];exact((aH _ _).alloc (aG _) _).alloc (by simp) _
 have q1:bT W g #[aN c1,aB a1 n1 d1] 284:=by rw[←hW,←hg];exact(bT.new w3 _ _).alloc _
 have q2:bT W (g+1) #[aN c2,aB a2 n2 d2] 284:=by
  rw[←hW];have:=bT.new (w3.alloc (aJ #[aN c1,aB a1 n1 d1] 284)) #[aN c2,aB a2 n2 d2] 284;rwa[bB,hg]at this
 have qj:Below w.heap.size w W:=aR kY hBW kY.size;have j1:=i1.below hBW;have j2:=i2.below hBW;clear kY hBW i1 i2 hW hg;refine(Br _ _ M N W j1 j2 (by have:=Hl.out.1;omega) (by have:=Hl.out.2;omega) hN.out).mono ?_;rintro e w4⟨v,u,rfl,oq,or,hb4⟩;have p1:=q1.below hb4 q1.lt;have p2:=q2.below hb4 q2.lt;have oI:=aR qj hb4 qj.size;have j2':=j2.below hb4;clear j1 j2 qj hb4 q1 q2;have oq':=oq;have or':=or;obtain⟨aq,nq,dq,rfl,-⟩:=oq';obtain⟨ar,nr,dr,rfl,hnr,-⟩:=or';have Iq:=zq oq;have Ir:=zq or;have IN:=zq j2';clear oq or j2';have k1:=p1.cell 0;have k2:=p2.cell 0;have k3:=p2.cell 1;simp only[aL,aI,bM]at k1 k2 k3;have HP:=zq (And.intro p1 (And.intro p2 oI));clear p1 p2 oI;go_wp2_with fail
 have HV:=HP;refine(gZ false _ (M/N) w4 (HE.out.below HV.out.2.2) Iq.out (nT (wZ _ _) Hl.out.1)).mono ?_;rintro e w6⟨rfl,hb6⟩;have m1:=HV.out.1.below hb6 HV.out.1.lt;have m2:=HV.out.2.1.below hb6 HV.out.2.1.lt;have Kr:=aR HV.out.2.2 hb6 HV.out.2.2.size;have k1:=m1.cell 0;have k2:=m2.cell 0;simp only[aL,aI,bM]at k1 k2;have I6:=zq (Ir.out.below hb6);have H6:=zq Kr;clear hb6 m1 m2 Kr;go_wp2_with fail
 refine(gZ c2 _ (M%N) w6 (HE.out.below H6.out) I6.out (nT (Pg _ _) Hl.out.1)).mono ?_;rintro e w7⟨rfl,hb7⟩;have Yn:=zq (aR H6.out hb7 H6.out.size);clear hb7;have E1:=congrArg vZ RQ.out;have E2:=congrArg vZ RR.out;simp only at E1 E2;rw[E1,E2];clear E1 E2;go_wp2;go_ret3;rw[RQ.out,RR.out];exact⟨(by rw[S1.out,S2.out]<;>rfl),Yn.out⟩
theorem Nt(s t:ByteArray)(w:aF)(M N:Nat)(c1 c2:Bool)(htz:(t.toList==[48])=false)
 (Hb:bH (aW aC 222 #[aA s,aA t] w (Rt (aD aE 0) w)))
 (Hc:bH (∀W,aW aC 223 #[aA s,aA t,aD aE 18] W (Rt (cC #[aD aE 0,aD aE 0,aN false]) W)))
 (r1:bH (∀W,aW aC 224 #[aA s] W fun e w'=>∃v,e=aQ (cN #[aN c1,v])∧tC w' W.heap.size v PB M∧Below W.heap.size W w'))
 (r2:bH (∀W,aW aC 224 #[aA t] W fun e w'=>∃v,e=aQ (cN #[aN c2,v])∧tC w' W.heap.size v PB N∧Below W.heap.size W w'))
 (Hl:bH ((cQ PB M).length≤34∧(cQ PB N).length≤34))(hN:bH (0<N))(HE:bH (iM w))(hM:bH (M<10^300∧N<10^300))(Ns:c2= !c1)(h0:M%N=0):
 wS s t M N c1 c2 w:=by
 unfold wS;obtain⟨nb,IH⟩:∃nb,(!c1)=nb:=⟨_,rfl⟩;rw[IH]at Ns;subst Ns;have hbb:(!c1==c2)=true:=by rw[←IH];cases c1<;>rfl
 have S1:bH (gV true (M/N)=(gV c1 M).fdiv (gV c2 N)):=by show _=_;rw[←IH,(F6 c1 hN.out h0).1];rfl
 have S2:bH (gV c2 (M%N)=(gV c1 M).fmod (gV c2 N)):=by show _=_;rw[←IH,(F6 c1 hN.out h0).2,h0];cases c1<;>rfl
 have RQ:bH (nL (gV true (M/N))=(cM (gV true (M/N)),0)):=Ao (fO (wZ _ _) hM.out.1);have RR:bH (nL (gV c2 (M%N))=(cM (gV c2 (M%N)),0)):=Ao (fO (Pg _ _) hM.out.1);have H0:=zq h0;clear IH h0;go_enter xW,vU;go_wp2_with fail
 refine Hb.out.mono ?_;rintro e w1⟨rfl,hb1⟩;go_wp2_with fail
 refine(Hc.out w1).mono ?_;rintro e Vi⟨rfl,Ly⟩;have mM:=aR hb1 Ly hb1.size;clear hb1 Ly;go_wp2_with fail
 refine(r1.out Vi).mono ?_;rintro e w2⟨v1,rfl,Du,hb2⟩;have gJ:=aR mM hb2 mM.size;clear mM hb2;go_wp2_with fail
 refine(r2.out w2).mono ?_;rintro e w3⟨v2,rfl,Ci,hb3⟩;have CI:=Du.below hb3;have kY:=aR gJ hb3 gJ.size;clear gJ hb3 Du;have i1:=CI.inL;have i2:=Ci.inL;clear CI Ci;have i1':=i1;have i2':=i2;obtain⟨a1,n1,d1,rfl,-⟩:=i1';obtain⟨a2,n2,d2,rfl,-⟩:=i2';go_wp2_with fail
 generalize hg:w3.heap.size=g at *;have Hg:=zq hg;obtain⟨W,hW⟩:∃W,(w3.alloc (aJ #[aN c1,aB a1 n1 d1] 284)).alloc (aJ #[aN c2,aB a2 n2 d2] 284)=W:=⟨_,rfl⟩;rw[hW];have hBW:Below w3.heap.size w3 W:=by rw[←hW];exact((aH _ _).alloc (aG _) _).alloc (by simp) _
 have q1:bT W g #[aN c1,aB a1 n1 d1] 284:=by rw[←hW,←hg];exact(bT.new w3 _ _).alloc _
 have q2:bT W (g+1) #[aN c2,aB a2 n2 d2] 284:=by
  rw[←hW];have:=bT.new (w3.alloc (aJ #[aN c1,aB a1 n1 d1] 284)) #[aN c2,aB a2 n2 d2] 284;rwa[bB,hg]at this
 have qj:Below w.heap.size w W:=aR kY hBW kY.size;have j1:=i1.below hBW;have j2:=i2.below hBW;clear kY hBW i1 i2 hW hg;refine(Br _ _ M N W j1 j2 (by have:=Hl.out.1;omega) (by have:=Hl.out.2;omega) hN.out).mono ?_;rintro e w4⟨v,u,rfl,oq,or,hb4⟩;have p1:=q1.below hb4 q1.lt;have p2:=q2.below hb4 q2.lt;have oI:=aR qj hb4 qj.size;have j2':=j2.below hb4;clear j1 j2 qj hb4 q1 q2;have oq':=oq;have or':=or;obtain⟨aq,nq,dq,rfl,-⟩:=oq';obtain⟨ar,nr,dr,rfl,hnr,-⟩:=or';have Iq:=zq oq;have Ir:=zq or;have IN:=zq j2';clear oq or j2';have k1:=p1.cell 0;have k2:=p2.cell 0;have k3:=p2.cell 1;simp only[aL,aI,bM]at k1 k2 k3;have HP:=zq (And.intro p1 (And.intro p2 oI));clear p1 p2 oI;obtain rfl:nr=0:=by rw[←hnr,H0.out,eY];rfl
 clear hnr;go_wp2_with fail
 have HV:=HP;refine(gZ true _ (M/N) w4 (HE.out.below HV.out.2.2) Iq.out (nT (wZ _ _) Hl.out.1)).mono ?_;rintro e w6⟨rfl,hb6⟩;have m1:=HV.out.1.below hb6 HV.out.1.lt;have m2:=HV.out.2.1.below hb6 HV.out.2.1.lt;have Kr:=aR HV.out.2.2 hb6 HV.out.2.2.size;have k1:=m1.cell 0;have k2:=m2.cell 0;simp only[aL,aI,bM]at k1 k2;have I6:=zq (Ir.out.below hb6);have H6:=zq Kr;clear hb6 m1 m2 Kr;go_wp2_with fail
 refine(gZ c2 _ (M%N) w6 (HE.out.below H6.out) I6.out (nT (Pg _ _) Hl.out.1)).mono ?_;rintro e w7⟨rfl,hb7⟩;have Yn:=zq (aR H6.out hb7 H6.out.size);clear hb7;have E1:=congrArg vZ RQ.out;have E2:=congrArg vZ RR.out;simp only at E1 E2;rw[E1,E2];clear E1 E2;go_wp2;go_ret3;rw[RQ.out,RR.out];exact⟨(by rw[S1.out,S2.out]<;>rfl),Yn.out⟩
theorem Nu(s t:ByteArray)(w:aF)(M N:Nat)(c1 c2:Bool)(htz:(t.toList==[48])=false)
 (Hb:bH (aW aC 222 #[aA s,aA t] w (Rt (aD aE 0) w)))
 (Hc:bH (∀W,aW aC 223 #[aA s,aA t,aD aE 18] W (Rt (cC #[aD aE 0,aD aE 0,aN false]) W)))
 (r1:bH (∀W,aW aC 224 #[aA s] W fun e w'=>∃v,e=aQ (cN #[aN c1,v])∧tC w' W.heap.size v PB M∧Below W.heap.size W w'))
 (r2:bH (∀W,aW aC 224 #[aA t] W fun e w'=>∃v,e=aQ (cN #[aN c2,v])∧tC w' W.heap.size v PB N∧Below W.heap.size W w'))
 (Hl:bH ((cQ PB M).length≤34∧(cQ PB N).length≤34))(hN:bH (0<N))(HE:bH (iM w))(hM:bH (M<10^300∧N<10^300))(Ns:c2= !c1)(h0:M%N≠0):
 wS s t M N c1 c2 w:=by
 unfold wS;obtain⟨nb,IH⟩:∃nb,(!c1)=nb:=⟨_,rfl⟩;rw[IH]at Ns;subst Ns;have hbb:(!c1==c2)=true:=by rw[←IH];cases c1<;>rfl
 have Z8:M%N<N:=Nat.mod_lt _ hN.out;have hq1:M/N+1≤M:=by
  have hN1:N≠1:=by rintro rfl;rw[Nat.mod_one]at h0;exact h0 rfl
  have hM0:M≠0:=by rintro rfl;rw[Nat.zero_mod]at h0;exact h0 rfl
  exact Nat.div_lt_self (by omega) (by have:=hN.out;omega)
 have S1:bH (gV true (M/N+1)=(gV c1 M).fdiv (gV c2 N)):=by
  show _=_;rw[←IH,(F7 c1 hN.out h0).1];show -((M/N+1:Nat):Int)=_;omega
 have S2:bH (gV c2 (N-M%N)=(gV c1 M).fmod (gV c2 N)):=by
  show _=_;rw[←IH,(F7 c1 hN.out h0).2];cases c1<;>simp only[gV,BN,vM,Bool.false_eq_true,if_true,if_false]<;>omega
 have RQ:bH (nL (gV true (M/N+1))=(cM (gV true (M/N+1)),0)):=Ao (fO hq1 hM.out.1);have RR:bH (nL (gV c2 (N-M%N))=(cM (gV c2 (N-M%N)),0)):=Ao (fO (Ph _ _) hM.out.2);have H0:=zq h0;have Hq1:=zq hq1;have Hmod:=zq (fZ Z8);clear IH h0 Z8 hq1;go_enter xW,vU;go_wp2_with fail
 refine Hb.out.mono ?_;rintro e w1⟨rfl,hb1⟩;go_wp2_with fail
 refine(Hc.out w1).mono ?_;rintro e Vi⟨rfl,Ly⟩;have mM:=aR hb1 Ly hb1.size;clear hb1 Ly;go_wp2_with fail
 refine(r1.out Vi).mono ?_;rintro e w2⟨v1,rfl,Du,hb2⟩;have gJ:=aR mM hb2 mM.size;clear mM hb2;go_wp2_with fail
 refine(r2.out w2).mono ?_;rintro e w3⟨v2,rfl,Ci,hb3⟩;have CI:=Du.below hb3;have kY:=aR gJ hb3 gJ.size;clear gJ hb3 Du;have i1:=CI.inL;have i2:=Ci.inL;clear CI Ci;have i1':=i1;have i2':=i2;obtain⟨a1,n1,d1,rfl,-⟩:=i1';obtain⟨a2,n2,d2,rfl,-⟩:=i2';go_wp2_with fail
 generalize hg:w3.heap.size=g at *;have Hg:=zq hg;obtain⟨W,hW⟩:∃W,(w3.alloc (aJ #[aN c1,aB a1 n1 d1] 284)).alloc (aJ #[aN c2,aB a2 n2 d2] 284)=W:=⟨_,rfl⟩;rw[hW];have hBW:Below w3.heap.size w3 W:=by rw[←hW];exact((aH _ _).alloc (aG _) _).alloc (by simp) _
 have q1:bT W g #[aN c1,aB a1 n1 d1] 284:=by rw[←hW,←hg];exact(bT.new w3 _ _).alloc _
 have q2:bT W (g+1) #[aN c2,aB a2 n2 d2] 284:=by
  rw[←hW];have:=bT.new (w3.alloc (aJ #[aN c1,aB a1 n1 d1] 284)) #[aN c2,aB a2 n2 d2] 284;rwa[bB,hg]at this
 have qj:Below w.heap.size w W:=aR kY hBW kY.size;have j1:=i1.below hBW;have j2:=i2.below hBW;clear kY hBW i1 i2 hW hg;refine(Br _ _ M N W j1 j2 (by have:=Hl.out.1;omega) (by have:=Hl.out.2;omega) hN.out).mono ?_;rintro e w4⟨v,u,rfl,oq,or,hb4⟩;have p1:=q1.below hb4 q1.lt;have p2:=q2.below hb4 q2.lt;have oI:=aR qj hb4 qj.size;have j2':=j2.below hb4;clear j1 j2 qj hb4 q1 q2;have oq':=oq;have or':=or;obtain⟨aq,nq,dq,rfl,-⟩:=oq';obtain⟨ar,nr,dr,rfl,hnr,-⟩:=or';have Iq:=zq oq;have Ir:=zq or;have IN:=zq j2';clear oq or j2';have k1:=p1.cell 0;have k2:=p2.cell 0;have k3:=p2.cell 1;simp only[aL,aI,bM]at k1 k2 k3;have HP:=zq (And.intro p1 (And.intro p2 oI));clear p1 p2 oI;have hnr0:0<nr:=by
  rcases Nat.eq_zero_or_pos nr with e|e
  ·exfalso;apply H0.out;exact(iO dB).1 (List.eq_nil_of_length_eq_zero (by rw[hnr,e]))
  ·exact e
 clear hnr;go_upto_region 15 with fail
 have Hp:bH (aW aC 227 #[aB aq nq dq,aB (some ⟨w4.heap.size,0,none⟩) 1 1,.func (.func 228) #[] #[]] (w4.alloc (aJ #[iv 1] 3)).drew fun e w'=>∃v,e=aQ v∧tC w' (w4.heap.size+1) v PB (M/N+1)∧Below (w4.heap.size+1) (w4.alloc (aJ #[iv 1] 3)).drew w'):=by
  have hbx:Below w4.heap.size w4 (w4.alloc (aJ #[iv 1] 3)):=(aH _ _).alloc (aG _) _;have:=An (aB aq nq dq) (aB (some ⟨w4.heap.size,0,none⟩) 1 1) (M/N) 1 (w4.alloc (aJ #[iv 1] 3)).drew (Iq.out.below hbx.drew) (tY.below (Yk w4 (by decide) (by decide)) (aH _ _).drew) (nT (wZ _ _) Hl.out.1) (nT (aG 1) (bE (gH dB (k:=1) (by decide)) (by decide)));rwa[show((w4.alloc (aJ #[iv 1] 3)).drew).heap.size=w4.heap.size+1 from bB _ _]at this
 have Hm:=zq (fun(V:aF)(hV:Below w4.heap.size w4 V)=>sP (aB a2 n2 d2) (aB ar nr dr) N (M%N) V (IN.out.below hV) (Ir.out.below hV) (by have:=Hl.out.2;omega) Hmod.out);have h4:g+1<w4.heap.size:=HP.out.2.1.lt;have K3:bH ((w4.alloc (aJ #[iv 1] 3)).drew.cell? ⟨g+1,1,none⟩=some (aB a2 n2 d2)):=by
  show _=_;exact(((HP.out.2.1).alloc (aJ #[iv 1] 3)).drewN 1).cell 1
 refine Cx (by kernel_rfl) ?_;refine tI 0 rfl ?_;refine tI 3 rfl ?_;refine tI 5 rfl ?_;refine eI 1 [4] rfl (fun K hK=>?_) ?_
 ·go_simp;refine hK _ _ ?_;clear hK K;refine eI 2 [4] rfl (fun K hK=>?_) ?_
  ·go_simp;refine⟨trivial,callsIn_wide.2 (Hp.out.mono ?_)⟩;rintro e w5⟨v5,rfl,⟨g5,m5,d5,rfl,o5'⟩,hb5⟩;have o5:tC w5 (w4.heap.size+1) (aB (some ⟨g5,0,none⟩) m5 d5) PB (M/N+1):=⟨_,_,_,rfl,o5'⟩;have k3:w5.cell? ⟨g+1,1,none⟩=some (aB a2 n2 d2):=(hb5.cell (p:=⟨g+1,1,none⟩) (by show g+1<w4.heap.size+1;omega)).trans K3.out;have h5:Below w4.heap.size w4 w5:=lJ ((aH _ w4).alloc (aG _) _).drew (hb5.mono (by omega));have H5:=zq (And.intro h5 o5);clear hb5 h5 o5 o5';refine hK _ _ ?_;clear hK K;refine eI 4 [] rfl (fun K hK=>?_) ?_
   ·go_simp;refine hK _ _ ?_;clear hK K;refine eI 6 [] rfl (fun K hK=>?_) ?_
    ·go_simp;refine⟨trivial,callsIn_wide.2 ((Hm.out _ H5.out.1).mono ?_)⟩;rintro e w8⟨v8,rfl,⟨g8,m8,d8,rfl,o8'⟩,hb8⟩;have o8:tC w8 w5.heap.size (aB (some ⟨g8,0,none⟩) m8 d8) PB (N-M%N):=⟨_,_,_,rfl,o8'⟩;have HV:bH (bT w8 g #[aN c1,aB a1 n1 d1] 284∧bT w8 (g+1) #[aN c2,aB a2 n2 d2] 284∧Below w.heap.size w w8):=by
      have h8:Below w4.heap.size w4 w8:=H5.out.1.trans (hb8.mono H5.out.1.size);exact⟨HP.out.1.below h8 HP.out.1.lt,HP.out.2.1.below h8 h4,HP.out.2.2.trans (h8.mono HP.out.2.2.size)⟩
     have O5:=zq (H5.out.2.below hb8).inL;have O8:=zq o8.inL;clear hb8 o8 o8' H5;have k1:=HV.out.1.cell 0;have k2:=HV.out.2.1.cell 0;have k3:=HV.out.2.1.cell 1;simp only[aL,aI,bM]at k1 k2 k3;refine hK _ _ ?_;clear hK K;refine eI 7 [] rfl (fun K hK=>?_) ?_;rotate_left;focus exact aT
     go_simp;refine hK _ _ ?_;clear hK K;refine eI 8 [] rfl (fun K hK=>?_) ?_;rotate_left;focus exact aT
     go_simp;refine hK _ _ ?_;clear hK K;refine eM (by kernel_rfl) ?_ _;go_wp2_with fail
     refine(gZ true _ (M/N+1) w8 (HE.out.below HV.out.2.2) O5.out (nT Hq1.out Hl.out.1)).mono ?_;rintro e w6⟨rfl,hb6⟩;have m1:=HV.out.1.below hb6 HV.out.1.lt;have m2:=HV.out.2.1.below hb6 HV.out.2.1.lt;have Kr:=aR HV.out.2.2 hb6 HV.out.2.2.size;have k1:=m1.cell 0;have k2:=m2.cell 0;simp only[aL,aI,bM]at k1 k2;have I6:=zq (O8.out.below hb6);have H6:=zq Kr;clear hb6 m1 m2 Kr;go_wp2_with fail
     refine(gZ c2 _ (N-M%N) w6 (HE.out.below H6.out) I6.out (nT (Ph _ _) Hl.out.2)).mono ?_;rintro e w7⟨rfl,hb7⟩;have Yn:=zq (aR H6.out hb7 H6.out.size);clear hb7;have E1:=congrArg vZ RQ.out;have E2:=congrArg vZ RR.out;simp only at E1 E2;rw[E1,E2];clear E1 E2;go_wp2;go_ret3;rw[RQ.out,RR.out];exact⟨(by rw[S1.out,S2.out]<;>rfl),Yn.out⟩
    exact aT
   exact aT
  refine eF rfl (fun K hK=>?_) ?_
  ·go_simp;refine hK _ _ ?_;clear hK K;refine eI 2 [] rfl (fun K hK=>?_) ?_
   ·go_simp;refine⟨trivial,callsIn_wide.2 (Hp.out.mono ?_)⟩;rintro e w5⟨v5,rfl,⟨g5,m5,d5,rfl,o5'⟩,hb5⟩;have o5:tC w5 (w4.heap.size+1) (aB (some ⟨g5,0,none⟩) m5 d5) PB (M/N+1):=⟨_,_,_,rfl,o5'⟩;have k3:w5.cell? ⟨g+1,1,none⟩=some (aB a2 n2 d2):=(hb5.cell (p:=⟨g+1,1,none⟩) (by show g+1<w4.heap.size+1;omega)).trans K3.out;have h5:Below w4.heap.size w4 w5:=lJ ((aH _ w4).alloc (aG _) _).drew (hb5.mono (by omega));have H5:=zq (And.intro h5 o5);clear hb5 h5 o5 o5';refine hK _ _ ?_;clear hK K;refine eI 6 [] rfl (fun K hK=>?_) ?_
    ·go_simp;refine⟨trivial,callsIn_wide.2 ((Hm.out _ H5.out.1).mono ?_)⟩;rintro e w8⟨v8,rfl,⟨g8,m8,d8,rfl,o8'⟩,hb8⟩;have o8:tC w8 w5.heap.size (aB (some ⟨g8,0,none⟩) m8 d8) PB (N-M%N):=⟨_,_,_,rfl,o8'⟩;have HV:bH (bT w8 g #[aN c1,aB a1 n1 d1] 284∧bT w8 (g+1) #[aN c2,aB a2 n2 d2] 284∧Below w.heap.size w w8):=by
      have h8:Below w4.heap.size w4 w8:=H5.out.1.trans (hb8.mono H5.out.1.size);exact⟨HP.out.1.below h8 HP.out.1.lt,HP.out.2.1.below h8 h4,HP.out.2.2.trans (h8.mono HP.out.2.2.size)⟩
     have O5:=zq (H5.out.2.below hb8).inL;have O8:=zq o8.inL;clear hb8 o8 o8' H5;have k1:=HV.out.1.cell 0;have k2:=HV.out.2.1.cell 0;have k3:=HV.out.2.1.cell 1;simp only[aL,aI,bM]at k1 k2 k3;refine hK _ _ ?_;clear hK K;refine eI 7 [] rfl (fun K hK=>?_) ?_;rotate_left;focus exact aT
     go_simp;refine hK _ _ ?_;clear hK K;refine eI 8 [] rfl (fun K hK=>?_) ?_;rotate_left;focus exact aT
     go_simp;refine hK _ _ ?_;clear hK K;refine eM (by kernel_rfl) ?_ _;go_wp2_with fail
     refine(gZ true _ (M/N+1) w8 (HE.out.below HV.out.2.2) O5.out (nT Hq1.out Hl.out.1)).mono ?_;rintro e w6⟨rfl,hb6⟩;have m1:=HV.out.1.below hb6 HV.out.1.lt;have m2:=HV.out.2.1.below hb6 HV.out.2.1.lt;have Kr:=aR HV.out.2.2 hb6 HV.out.2.2.size;have k1:=m1.cell 0;have k2:=m2.cell 0;simp only[aL,aI,bM]at k1 k2;have I6:=zq (O8.out.below hb6);have H6:=zq Kr;clear hb6 m1 m2 Kr;go_wp2_with fail
     refine(gZ c2 _ (N-M%N) w6 (HE.out.below H6.out) I6.out (nT (Ph _ _) Hl.out.2)).mono ?_;rintro e w7⟨rfl,hb7⟩;have Yn:=zq (aR H6.out hb7 H6.out.size);clear hb7;have E1:=congrArg vZ RQ.out;have E2:=congrArg vZ RR.out;simp only at E1 E2;rw[E1,E2];clear E1 E2;go_wp2;go_ret3;rw[RQ.out,RR.out];exact⟨(by rw[S1.out,S2.out]<;>rfl),Yn.out⟩
    exact aT
   exact aT
  exact aT
 refine eF rfl (fun K hK=>?_) ?_
 ·go_simp;refine hK _ _ ?_;clear hK K;refine eI 1 [] rfl (fun K hK=>?_) ?_
  ·go_simp;refine hK _ _ ?_;clear hK K;refine eI 2 [] rfl (fun K hK=>?_) ?_
   ·go_simp;refine⟨trivial,callsIn_wide.2 (Hp.out.mono ?_)⟩;rintro e w5⟨v5,rfl,⟨g5,m5,d5,rfl,o5'⟩,hb5⟩;have o5:tC w5 (w4.heap.size+1) (aB (some ⟨g5,0,none⟩) m5 d5) PB (M/N+1):=⟨_,_,_,rfl,o5'⟩;have k3:w5.cell? ⟨g+1,1,none⟩=some (aB a2 n2 d2):=(hb5.cell (p:=⟨g+1,1,none⟩) (by show g+1<w4.heap.size+1;omega)).trans K3.out;have h5:Below w4.heap.size w4 w5:=lJ ((aH _ w4).alloc (aG _) _).drew (hb5.mono (by omega));have H5:=zq (And.intro h5 o5);clear hb5 h5 o5 o5';refine hK _ _ ?_;clear hK K;refine eI 6 [] rfl (fun K hK=>?_) ?_
    ·go_simp;refine⟨trivial,callsIn_wide.2 ((Hm.out _ H5.out.1).mono ?_)⟩;rintro e w8⟨v8,rfl,⟨g8,m8,d8,rfl,o8'⟩,hb8⟩;have o8:tC w8 w5.heap.size (aB (some ⟨g8,0,none⟩) m8 d8) PB (N-M%N):=⟨_,_,_,rfl,o8'⟩;have HV:bH (bT w8 g #[aN c1,aB a1 n1 d1] 284∧bT w8 (g+1) #[aN c2,aB a2 n2 d2] 284∧Below w.heap.size w w8):=by
      have h8:Below w4.heap.size w4 w8:=H5.out.1.trans (hb8.mono H5.out.1.size);exact⟨HP.out.1.below h8 HP.out.1.lt,HP.out.2.1.below h8 h4,HP.out.2.2.trans (h8.mono HP.out.2.2.size)⟩
     have O5:=zq (H5.out.2.below hb8).inL;have O8:=zq o8.inL;clear hb8 o8 o8' H5;have k1:=HV.out.1.cell 0;have k2:=HV.out.2.1.cell 0;have k3:=HV.out.2.1.cell 1;simp only[aL,aI,bM]at k1 k2 k3;refine hK _ _ ?_;clear hK K;refine eI 7 [] rfl (fun K hK=>?_) ?_;rotate_left;focus exact aT
     go_simp;refine hK _ _ ?_;clear hK K;refine eI 8 [] rfl (fun K hK=>?_) ?_;rotate_left;focus exact aT
     go_simp;refine hK _ _ ?_;clear hK K;refine eM (by kernel_rfl) ?_ _;go_wp2_with fail
     refine(gZ true _ (M/N+1) w8 (HE.out.below HV.out.2.2) O5.out (nT Hq1.out Hl.out.1)).mono ?_;rintro e w6⟨rfl,hb6⟩;have m1:=HV.out.1.below hb6 HV.out.1.lt;have m2:=HV.out.2.1.below hb6 HV.out.2.1.lt;have Kr:=aR HV.out.2.2 hb6 HV.out.2.2.size;have k1:=m1.cell 0;have k2:=m2.cell 0;simp only[aL,aI,bM]at k1 k2;have I6:=zq (O8.out.below hb6);have H6:=zq Kr;clear hb6 m1 m2 Kr;go_wp2_with fail
     refine(gZ c2 _ (N-M%N) w6 (HE.out.below H6.out) I6.out (nT (Ph _ _) Hl.out.2)).mono ?_;rintro e w7⟨rfl,hb7⟩;have Yn:=zq (aR H6.out hb7 H6.out.size);clear hb7;have E1:=congrArg vZ RQ.out;have E2:=congrArg vZ RR.out;simp only at E1 E2;rw[E1,E2];clear E1 E2;go_wp2;go_ret3;rw[RQ.out,RR.out];exact⟨(by rw[S1.out,S2.out]<;>rfl),Yn.out⟩
    exact aT
   exact aT
  exact aT
 exact aT
abbrev sQ(s t:ByteArray)(w:aF):Prop:=
 aW aC 150 #[aA s,aA t] w (Rt (cC #[aA (bs (JQ s.data.toList t.data.toList).1),aA (bs (JQ s.data.toList t.data.toList).2.1),aD aE (JQ s.data.toList t.data.toList).2.2]) w)
theorem Lz(s t:ByteArray)(w:aF)(hs:s.size≤dL)(ht:t.size≤dL)(h0:fX s.data.toList t.data.toList≠0):sQ s t w:=by
 have hb:=sO s t w hs ht;have Hb:=zq hb;clear hb;have hr:JQ s.data.toList t.data.toList=([],[],fX s.data.toList t.data.toList):=by rw[JQ,iN h0]
 unfold sQ;rw[hr];clear hr;generalize fX s.data.toList t.data.toList=c at *;have h':(c !=0)=true:=by simp[h0]
 clear h0;go_enter xW,vU;go_wp2_with fail
 refine ka Hb.out fun w1 hb1=>?_;go_wp2;go_ret3;exact⟨rfl,hb1⟩
theorem JX(s t:ByteArray)(w:aF)(hs:s.size≤dL)(ht:t.size≤dL)(h0:fX s.data.toList t.data.toList=0)(hz:fQ t.data.toList=0):sQ s t w:=by
 have hb:=sO s t w hs ht;have hr:JQ s.data.toList t.data.toList=([],[],12):=by rw[JQ,ip h0,ip hz]
 unfold sQ;rw[hr];clear hr;obtain rfl:=(nj (rQ h0).2.1).1 hz;rw[h0]at hb;have Hb:=zq hb;clear hb;clear h0 hz;go_enter xW,vU;go_wp2_with fail
 refine ka Hb.out fun w1 hb1=>?_;go_wp2;go_ret3;exact⟨rfl,hb1⟩
theorem IJ(s t:ByteArray)(w:aF)(hE:iM w)(hs:s.size≤18)(ht:t.size≤18)(h0:fX s.data.toList t.data.toList=0)(hz:fQ t.data.toList≠0):sQ s t w:=by
 have hb:=sO s t w (by simp only[dL];omega) (by simp only[dL];omega);have hr:JQ s.data.toList t.data.toList=(cM ((fQ s.data.toList).fdiv (fQ t.data.toList)),cM ((fQ s.data.toList).fmod (fQ t.data.toList)),0):=by rw[JQ,ip h0,iN hz]
 unfold sQ;rw[hr];clear hr;obtain⟨yF,zQ,-⟩:=rQ h0;have htz:(t.toList==[48])=false:=by
  rw[cJ];exact beq_false_of_ne fun e=>hz ((KS zQ).2 e)
 rw[h0]at hb;have Hb:=zq hb;clear hb;have Hc:=zq (fun W=>wR s t W yF zQ hs ht);have hx:=qK yF hs;have hy:=qK zQ ht;clear yF zQ h0;have HE:=zq hE;clear hE;generalize fQ s.data.toList=x at *;generalize fQ t.data.toList=y at *;obtain⟨-,f2,f3⟩:=EG x y hz;have h1:=zq (fun h=>Zu (x:=x) hz h);have h2:=zq (fun h=>Zv (x:=x) hz h);have q1:IntKind.i64.wrap (x.tdiv y)=x.tdiv y:=aX _ (by omega);have q2:IntKind.i64.wrap (x.tmod y)=x.tmod y:=aX _ (by omega);go_enter xW,vU;go_wp2_with fail
 refine ka Hb.out fun w1 hb1=>?_;go_wp2_with fail
 refine kc (Hc.out w1) hb1 fun w2 hb1c=>?_;go_wp2;go_region;have hb2:=cK hb1c 1;change Below w.heap.size w w2.drew at hb2;clear hb1c;have hE2:=HE.out.below hb2;have HE2:=zq hE2;clear hE2 HE hb1;clear q1 q2;generalize x.tdiv y=q at *;generalize x.tmod y=r at *;by_cases hr0:r=0
 ·obtain⟨g1,g2⟩:=h1.out (.inl hr0);have G1:=zq g1;have G2:=zq g2;subst hr0;clear g1 g2 h1 h2 f2;go_wp2_with fail
  refine ka (gW _ _ HE2.out (by omega) (by omega)) fun w3 hb3=>?_;have kY:=aR hb2 hb3 hb2.size;have hE3:=HE2.out.below hb3;go_wp2_with fail
  refine ka (gW _ _ hE3 (by omega) (by omega)) fun w4 hb4=>?_;have oI:=aR kY hb4 kY.size;go_wp2;go_ret3;rw[G1.out,G2.out];exact⟨rfl,oI⟩
 ·rcases Int.lt_or_le r 0 with k1|k1<;>rcases Int.lt_or_le y 0 with k2|k2
  ·obtain⟨g1,g2⟩:=h1.out (.inr (by omega));have G1:=zq g1;have G2:=zq g2;have b1:(r !=0)=true:=by simp[hr0]
   clear g1 g2 h1 h2 hr0;go_wp2_with fail
   refine ka (gW _ _ HE2.out (by omega) (by omega)) fun w3 hb3=>?_;have kY:=aR hb2 hb3 hb2.size;have hE3:=HE2.out.below hb3;go_wp2_with fail
   refine ka (gW _ _ hE3 (by omega) (by omega)) fun w4 hb4=>?_;have oI:=aR kY hb4 kY.size;go_wp2;go_ret3;rw[G1.out,G2.out];exact⟨rfl,oI⟩
  ·obtain⟨g1,g2⟩:=h2.out hr0 (by omega);have G1:=zq g1;have G2:=zq g2;have k2n:¬y<0:=by omega
   have b1:(r !=0)=true:=by simp[hr0]
   clear g1 g2 h1 h2 hr0;go_wp2_with fail
   refine ka (gW _ _ HE2.out (by omega) (by omega)) fun w3 hb3=>?_;have kY:=aR hb2 hb3 hb2.size;have hE3:=HE2.out.below hb3;go_wp2_with fail
   refine ka (gW _ _ hE3 (by omega) (by omega)) fun w4 hb4=>?_;have oI:=aR kY hb4 kY.size;go_wp2;go_ret3;rw[G1.out,G2.out];exact⟨rfl,oI⟩
  ·obtain⟨g1,g2⟩:=h2.out hr0 (by omega);have G1:=zq g1;have G2:=zq g2;have k1n:¬r<0:=by omega
   have b1:(r !=0)=true:=by simp[hr0]
   clear g1 g2 h1 h2 hr0;go_wp2_with fail
   refine ka (gW _ _ HE2.out (by omega) (by omega)) fun w3 hb3=>?_;have kY:=aR hb2 hb3 hb2.size;have hE3:=HE2.out.below hb3;go_wp2_with fail
   refine ka (gW _ _ hE3 (by omega) (by omega)) fun w4 hb4=>?_;have oI:=aR kY hb4 kY.size;go_wp2;go_ret3;rw[G1.out,G2.out];exact⟨rfl,oI⟩
  ·obtain⟨g1,g2⟩:=h1.out (.inr (by omega));have G1:=zq g1;have G2:=zq g2;have k1n:¬r<0:=by omega
   have k2n:¬y<0:=by omega
   have b1:(r !=0)=true:=by simp[hr0]
   clear g1 g2 h1 h2 hr0;go_wp2_with fail
   refine ka (gW _ _ HE2.out (by omega) (by omega)) fun w3 hb3=>?_;have kY:=aR hb2 hb3 hb2.size;have hE3:=HE2.out.below hb3;go_wp2_with fail
   refine ka (gW _ _ hE3 (by omega) (by omega)) fun w4 hb4=>?_;have oI:=aR kY hb4 kY.size;go_wp2;go_ret3;rw[G1.out,G2.out];exact⟨rfl,oI⟩
theorem Wk(s t:ByteArray)(w:aF)(hE:iM w)(hs:s.size≤dL)(ht:t.size≤dL):sQ s t w:=by
 by_cases h0:fX s.data.toList t.data.toList=0
 ·by_cases hz:fQ t.data.toList=0
  ·exact JX s t w hs ht h0 hz
  ·by_cases hl:s.size≤18∧t.size≤18
   ·exact IJ s t w hE hl.1 hl.2 h0 hz
   ·have hb:=sO s t w hs ht;rw[h0]at hb;obtain⟨yF,zQ,vX,oL,l1,l2⟩:=rQ h0;have htz:(t.toList==[48])=false:=by
     rw[cJ];exact beq_false_of_ne fun e=>hz ((KS zQ).2 e)
    have hN:0<num (mag t.data.toList):=by rw[←mC];omega
    have hM:=xG (Bm h0).1;have hM2:=xG (Bm h0).2;have hc:=fun W=>oX s t W hs ht (by omega);have r1:=fun W=>nR s W vX yF;have r2:=fun W=>nR t W oL zQ;unfold sQ;rw[XX h0 hz,qJ s,qJ t];by_cases hsg:fT t=fT s
    ·exact Nr s t w _ _ _ _ htz hb hc r1 r2 ⟨l1,l2⟩ hN hE ⟨hM,hM2⟩ hsg
    ·have e:fT t= !(fT s):=XW hsg;by_cases hR:num (mag s.data.toList)%num (mag t.data.toList)=0
     ·exact Nt s t w _ _ _ _ htz hb hc r1 r2 ⟨l1,l2⟩ hN hE ⟨hM,hM2⟩ e hR
     ·exact Nu s t w _ _ _ _ htz hb hc r1 r2 ⟨l1,l2⟩ hN hE ⟨hM,hM2⟩ e hR
 ·exact Lz s t w hs ht h0
theorem dF{P:Program}{fn:Func}{p u:Tmp}{ty T:TypeId}(h:fn.results= #[.cell p ty,.tmp u])(tmps:Array aS)(w:aF)(g:Nat)(x y:aS)
 (hp:tmps.getD p aP=bA (some ⟨g,0,none⟩))(hb:bT w g #[x,y] T)(ha:∀w,(isAgg ty).run P w=.ok true w)(hs:∀w,(sizeOf ty).run P w=.ok 2 w):
 (gR fn tmps).run P w=.ok (cC #[cN #[x,y],tmps.getD u aP]) w:=by
 have RY:tmps[p]?.getD aP=bA (some ⟨g,0,none⟩):=by simpa using hp
 have c0:=hb.ce 0;have c1:=hb.ce 1;simp[gR,h,go_sem,RY,c0,c1,ha,hs]
theorem Jy:∀l:List UInt8,Lib.index l [47]=if sL l=true then((nS l).length:Int)else -1
 |[]=>by decide
 |c::l=>by
  have ih:=Jy l
  by_cases h:c=47
  ·subst h
   rw[(xI l).2.2,(xI l).1]
   simp[Lib.index,List.isPrefixOf]
  ·obtain⟨h1,_,h3⟩:=yY c l h
   rw[h1,h3]
   have hp:([47]:List UInt8).isPrefixOf (c::l)=false:=by simp[List.isPrefixOf];exact fun e=>h e.symm
   rw[Lib.index,hp,ih]
   by_cases hs:sL l=true
   ·rw[hs];simp
   ·simp[hs]
theorem Z9(l:List UInt8):Lib.cut l [47]=(nS l,dS l,sL l):=by
 unfold Lib.cut;rw[Jy];by_cases hs:sL l=true
 ·have e:=Al l hs;rw[hs,ip rfl,ip (by omega),Int.toNat_natCast];generalize nS l=N at *;generalize dS l=D at *;subst e;simp
 ·have e:=oV l (by simpa using hs);rw[iN hs,iN (by decide),e.1,e.2];simp[hs]
def qk(s:List UInt8):aS:=
 if Sn s=true then cC #[cN #[aA (bs (nS s)),aA (bs (dT s))],aN true]else cC #[cN #[aA (bs []),aA (bs [])],aN false]
theorem rat_cut(a:ByteArray)(w:aF)(hE:iM w)(hs:a.size≤8000000):
 aW aC 264 #[aA a] w (Rt (qk a.data.toList) w):=by
 have HC:=zq (fun(W:aF)(hb:Below w.heap.size w W)=>lib_Cut a {data:= #[47]} W (hE.below hb) (by omega));rw[show({data:= #[47]}:ByteArray).data.toList=[47]from rfl,Z9]at HC;have HP:=zq (fun W=>zM (bs (nS a.data.toList)) {data:= #[45]} W);rw[show(bs (nS a.data.toList)).data.toList=nS a.data.toList from rfl,show({data:= #[45]}:ByteArray).data.toList=[45]from rfl,oW,wI,←Do]at HP;have hn:(nS a.data.toList).length≤a.data.toList.length:=by unfold nS;exact(Dh _).length_le
 have hd:(dS a.data.toList).length≤a.data.toList.length:=by
  unfold dS;rw[List.length_tail];have:=(List.dropWhile_sublist (fun c=>c !=47) (l:=a.data.toList)).length_le;omega
 have Ib:=mL (nS a.data.toList);have hl:a.data.toList.length=a.size:=rfl;obtain⟨N,hN⟩:=nm (bs (mag (nS a.data.toList)));obtain⟨D,hD⟩:=nm (bs (dS a.data.toList));have sN:N.size≤8000000:=by rw[←hN,cZ];omega
 have sD:D.size≤8000000:=by rw[←hD,cZ];omega
 have HdN:=zq (fun W=>Lk N W (by unfold dL;omega));have HdD:=zq (fun W=>Lk D W (by unfold dL;omega));have eN:mag (nS a.data.toList)=N.data.toList:=by rw[←hN,bP]
 have eD:dS a.data.toList=D.data.toList:=by rw[←hD,bP]
 have zN:(N.toList==[48])=(N.data.toList==[48]):=by rw[cJ]
 have zD:(D.toList==[48])=(D.data.toList==[48]):=by rw[cJ]
 have oD:(D.toList==[49])=(D.data.toList==[49]):=by rw[cJ]
 have hok:Sn a.data.toList=(pG N.data.toList&&(!fT a||N.data.toList !=[48])&&(!sL a.data.toList||(pG D.data.toList&&D.data.toList !=[48]&&D.data.toList !=[49]))):=by
  unfold Sn DJ;rw[eN,eD,Do];congr 2;congr 1;by_cases h:(nS a.data.toList).head? =some 45<;>simp[h]
 have R:bH (qk a.data.toList=if Sn a.data.toList=true then cC #[cN #[aA (bs (nS a.data.toList)),aA (if sL a.data.toList=true then D else{data:= #[49]})],aN true]else cC #[cN #[aA (bs []),aA (bs [])],aN false]):=by
  show _=_;unfold qk dT;by_cases h:sL a.data.toList=true
  ·rw[ip h,ip h,hD]
  ·rw[iN h,iN h];rfl
 rw[hok]at R;rw[hD]at HC;rw[hN]at HP;clear hE hs hn hd Ib hl hN hD eN eD hok sN sD;generalize bs (nS a.data.toList)=B at *;generalize sL a.data.toList=s at *;obtain⟨m,hm⟩:=nm (fT a);rw[hm]at HP R;clear hm;have W0:∀W1,Below (w.alloc (aJ #[aA {data:= #[]},aA {data:= #[]}] 272)).heap.size (w.alloc (aJ #[aA {data:= #[]},aA {data:= #[]}] 272)) W1→
  Below w.heap.size w W1∧bT W1 w.heap.size #[aA {data:= #[]},aA {data:= #[]}] 272:=by
  intro W1 h;exact⟨aR ((aH _ w).alloc (aG _) _) h (by simp),(bT.new w _ _).below h (by simp)⟩
 have qg:=zq W0;clear W0;go_enter func264,ntmps264;go_wp2_with fail
 refine ka (HC.out _ ((aH _ w).alloc (aG _) _)) fun W1 hb1=>?_;obtain⟨hB,hb⟩:=qg.out _ hb1;have Ei:=hb.lt;have c0:=hb.ce 0;have c1:=hb.ce 1;have f0:=hb.fz 0;have f1:=hb.fz 1;have Ch:=zq hb;clear hb1 hb qg HC;go_wp2_with fail
 refine kr (HP.out _) ?_;go_wp2_with fail
 refine(HdN.out _).mono ?_;rintro e W3⟨⟨k,rfl,hk,Ac⟩,rfl⟩;by_cases h1:pG N.data.toList=true
 ·obtain⟨Yh,hk2⟩:=Ac.1 h1;have k0:((k:Int)==0)=false:=by rw[beq_eq_false_iff_ne];omega
  have k1:¬k<N.size:=by omega
  rw[h1,kN]at R;clear Ac hk Yh hk2 h1;by_cases hz:(!m||N.data.toList !=[48])=true
  ·rw[hz,kN]at R;have oL:m=false∨(m=true∧(N.toList==[48])=false):=by
    cases m
    ·exact .inl rfl
    ·right;rw[zN];exact⟨rfl,by simpa using hz⟩
   clear hz zN;cases s with
   |false=>
    rw[vM,Bool.true_or,ip rfl,iN (by decide)]at R;rcases oL with rfl|⟨rfl,oL⟩;all_goals
     go_wp2;exact cI (dF (T:=272) oB _ _ w.heap.size _ _ rfl ((Ch.out.set 0 _).set 1 _) gX gM) rfl ⟨by rw[R.out];rfl,(hB.setCell (aG _) _).setCell (aG _) _⟩
   |true=>
    rw[BN,Bool.false_or,ip rfl]at R;rcases oL with rfl|⟨rfl,oL⟩;all_goals
     go_wp2_with fail
     refine(HdD.out _).mono ?_;rintro e W3⟨⟨k2,rfl,hk,Ac⟩,rfl⟩;by_cases h1:pG D.data.toList=true
     ·obtain⟨Yh,hk2⟩:=Ac.1 h1;have q0:((k2:Int)==0)=false:=by rw[beq_eq_false_iff_ne];omega
      have q1:¬k2<D.size:=by omega
      rw[h1,kN]at R;clear Ac hk Yh hk2 h1;by_cases h48:(D.data.toList==[48])=true
      ·rw[h48]at zD;rw[bne,h48,BN,mH,iN (by decide)]at R;clear h48 oD;go_wp2;exact cI (dF (T:=272) oB _ _ w.heap.size _ _ rfl ((Ch.out.set 0 _).set 1 _) gX gM) rfl ⟨by rw[R.out];rfl,(hB.setCell (aG _) _).setCell (aG _) _⟩
      ·have h48:(D.data.toList==[48])=false:=by simpa using h48
       rw[h48]at zD;rw[bne,h48,vM,kN,bne]at R;clear h48;by_cases h49:(D.data.toList==[49])=true
       ·rw[h49]at oD;rw[h49,BN,iN (by decide)]at R;clear h49;go_wp2;exact cI (dF (T:=272) oB _ _ w.heap.size _ _ rfl ((Ch.out.set 0 _).set 1 _) gX gM) rfl ⟨by rw[R.out];rfl,(hB.setCell (aG _) _).setCell (aG _) _⟩
       ·have h49:(D.data.toList==[49])=false:=by simpa using h49
        rw[h49]at oD;rw[h49,vM,ip rfl]at R;clear h49;go_wp2;exact cI (dF (T:=272) oB _ _ w.heap.size _ _ rfl ((Ch.out.set 0 _).set 1 _) gX gM) rfl ⟨by rw[R.out];rfl,(hB.setCell (aG _) _).setCell (aG _) _⟩
     ·have h1:pG D.data.toList=false:=by simpa using h1
      rw[h1,mH,mH,iN (by decide)]at R;have hkd:k2=0∨(((k2:Int)==0)=false∧k2<D.size):=by
       by_cases q0:k2=0
       ·exact .inl q0
       ·right;have:¬k2=D.size:=fun e=>by have:=Ac.2 ⟨e,by omega⟩;rw[h1]at this;cases this
        exact⟨by rw[beq_eq_false_iff_ne];omega,by omega⟩
      clear Ac hk h1 zD oD;rcases hkd with rfl|⟨q0,q1⟩;all_goals
       go_wp2;exact cI (dF (T:=272) oB _ _ w.heap.size _ _ rfl ((Ch.out.set 0 _).set 1 _) gX gM) rfl ⟨by rw[R.out];rfl,(hB.setCell (aG _) _).setCell (aG _) _⟩
  ·have hz:(!m||N.data.toList !=[48])=false:=by simpa using hz
   rw[hz,mH,iN (by decide)]at R;have hm:m=true:=by cases m;(simp at hz);rfl
   subst hm;have e48:(N.toList==[48])=true:=by rw[zN];simpa using hz
   clear hz zN;go_wp2;exact cI (dF (T:=272) oB _ _ w.heap.size _ _ rfl ((Ch.out.set 0 _).set 1 _) gX gM) rfl ⟨by rw[R.out];rfl,(hB.setCell (aG _) _).setCell (aG _) _⟩
 ·have h1:pG N.data.toList=false:=by simpa using h1
  rw[h1,mH,mH,iN (by decide)]at R;have hkd:k=0∨(((k:Int)==0)=false∧k<N.size):=by
   by_cases q0:k=0
   ·exact .inl q0
   ·right;have:¬k=N.size:=fun e=>by have:=Ac.2 ⟨e,by omega⟩;rw[h1]at this;cases this
    exact⟨by rw[beq_eq_false_iff_ne];omega,by omega⟩
  clear Ac hk h1 zN;rcases hkd with rfl|⟨q0,q1⟩;all_goals
   go_wp2;exact cI (dF (T:=272) oB _ _ w.heap.size _ _ rfl ((Ch.out.set 0 _).set 1 _) gX gM) rfl ⟨by rw[R.out];rfl,(hB.setCell (aG _) _).setCell (aG _) _⟩
def Ap(s:List UInt8):aS:=
 if eH s=0 then cC #[cN #[aA (bs (nS s)),aA (bs (dT s))],aD aE 0]else cC #[cN #[aA (bs []),aA (bs [])],aD aE (eH s)]
theorem dT_len(s:List UInt8):(300<(dT s).length)↔(300<(dS s).length):=by
 unfold dT;by_cases h:sL s=true
 ·rw[ip h]
 ·rw[iN h,(oV s (by simpa using h)).2];decide
theorem dT_one{s:List UInt8}(h:Sn s=true):(dT s==[49])= !sL s:=by
 unfold dT;by_cases k:sL s=true
 ·have:=((jV h).2 k).2.2;rw[ip k,k];simpa using this
 ·rw[iN k];simp[k]
theorem aa{s:List UInt8}(h:Sn s=true):eH s=if yZ s=true then 4 else if sL s=true then(if(dR (fQ (nS s)).natAbs (num (dS s))==1)=true then 0 else 11)else 0:=by
 rw[eH,ip h];congr 1;unfold qN qD;by_cases k:sL s=true
 ·rw[ip k,ip k];by_cases g:dR (fQ (nS s)).natAbs (num (dS s))=1
  ·rw[ip g,ip (by simp[g])]
  ·rw[iN g,iN (by simp[g])]
 ·rw[iN k,iN k,ip (Nat.gcd_one_right _)]
theorem sR(a:ByteArray)(w:aF)(hE:iM w)(hs:a.size≤8000000):
 aW aC 213 #[aA a] w (Rt (Ap a.data.toList) w):=by
 have hn:(nS a.data.toList).length≤a.data.toList.length:=by unfold nS;exact(Dh _).length_le
 have hl:a.data.toList.length=a.size:=rfl;have Hc:=zq (rat_cut a _ (hE.below ((aH _ w).alloc (aG _) (aJ #[aA {data:= #[]},aA {data:= #[]}] 272))) hs);have qg:bH (∀W1,Below (w.alloc (aJ #[aA {data:= #[]},aA {data:= #[]}] 272)).heap.size (w.alloc (aJ #[aA {data:= #[]},aA {data:= #[]}] 272)) W1→
  Below w.heap.size w W1∧bT W1 w.heap.size #[aA {data:= #[]},aA {data:= #[]}] 272):=by
  intro W1 h;exact⟨aR ((aH _ w).alloc (aG _) _) h (by simp),(bT.new w _ _).below h (by simp)⟩
 by_cases hok:Sn a.data.toList=true
 ·rw[qk,ip hok]at Hc;have Hn:=zq (fun W=>Bp a W (by unfold dL;omega));rw[VV]at Hn;have hN:DJ (nS a.data.toList)=true:=(jV hok).1;have hf:=aa hok;have h1:((bs (dT a.data.toList)).toList==[49])= !sL a.data.toList:=by rw[CG];exact dT_one hok
  have HT:=zq (fun W=>oU (bs (nS a.data.toList)) {data:= #[45]} W);rw[show(bs (nS a.data.toList)).data.toList=nS a.data.toList from rfl,show({data:= #[45]}:ByteArray).data.toList=[45]from rfl,oW]at HT;have hd1:=dT_len a.data.toList;have hlong:yZ a.data.toList=(decide (300<(mag (nS a.data.toList)).length)||decide (300<(dT a.data.toList).length)):=by unfold yZ;congr 1;exact decide_eq_decide.2 hd1.symm
  have sm:(bs (mag (nS a.data.toList))).size=(mag (nS a.data.toList)).length:=cZ _;have sd:(bs (dT a.data.toList)).size=(dT a.data.toList).length:=cZ _;have HG:bH (yZ a.data.toList=false→sL a.data.toList=true→∀W,Below w.heap.size w W→aW aC 149 #[aA (bs (nS a.data.toList)),aA (bs (dT a.data.toList))] W fun e w'=>
   e=aQ (cC #[aA (bs (cM ((dR (fQ (nS a.data.toList)).natAbs (num (dS a.data.toList)):Nat):Int))),aD aE 0])∧Below W.heap.size W w'):=by
   intro e1 e2 W hW;obtain⟨d1,-,-⟩:=(jV hok).2 e2;obtain⟨i1,i2,i3⟩:=VP d1;rw[hlong,dO,decide_eq_false_iff_not,decide_eq_false_iff_not,hd1]at e1;have hdT:dT a.data.toList=dS a.data.toList:=ip e2;have k1:pW (nS a.data.toList)=0:=by rw[pW,ip hN,iN e1.1]
   have k2:pW (dS a.data.toList)=0:=by rw[pW,ip i1,i2,iN e1.2]
   have hl2:(dS a.data.toList).length≤300:=by omega
   have:=Yq (bs (nS a.data.toList)) (bs (dT a.data.toList)) W (hE.below hW) (by rw[cZ];unfold dL;omega) (by rw[cZ,hdT];unfold dL;omega);rw[bP,bP,hdT,Ps,ip (by rw[fX,ip k1];exact k2),i3,cA]at this;rw[hdT];exact this
  have R0:bH (∀c,eH a.data.toList=c→Ap a.data.toList=if c=0 then cC #[cN #[aA (bs (nS a.data.toList)),aA (bs (dT a.data.toList))],aD aE 0]else cC #[cN #[aA (bs []),aA (bs [])],aD aE c]):=by
   intro c e;subst e;rfl
  clear hd1 hs hE hn hl hN;generalize hm:mag (nS a.data.toList)=M at *;generalize bs (nS a.data.toList)=N at *;obtain⟨DT,hDT⟩:=nm (bs (dT a.data.toList));rw[hDT]at Hc sd HG R0 h1;clear hDT hm;generalize(dT a.data.toList).length=ld at *;generalize sL a.data.toList=s at *;obtain⟨g,hg⟩:=nm (dR (fQ (nS a.data.toList)).natAbs (num (dS a.data.toList)));rw[hg]at hf HG;clear hg;go_enter func213,ntmps213;go_wp2_with fail
  refine ka Hc.out fun W1 hb1=>?_;obtain⟨hB,hb⟩:=qg.out _ hb1;have hlt:=hb.lt;have hq:bT (W1.alloc (aJ #[aA N,aA DT] 272)) W1.heap.size #[aA N,aA DT] 272:=bT.new W1 _ _;have hb:=hb.alloc (aJ #[aA N,aA DT] 272);have hB:=hB.alloc (fZ hlt) (aJ #[aA N,aA DT] 272);clear hb1 qg Hc;by_cases hQ:nB a.data.toList=true
  ·have R:bH (Ap a.data.toList=cC #[cN #[aA N,aA DT],aD aE 0]):=by
    show _=_;have e:eH a.data.toList=0:=by
     unfold nB at hQ;rw[bK,decide_eq_true_eq]at hQ;exact hQ.1
    exact R0.out 0 e
   rw[ip hQ]at Hn;obtain⟨x,y,hx⟩:∃x y:Int,wJ (fT a) (some (num M,qD a.data.toList))=cC #[cN #[aD aE x,aD aE y],aN true]:=⟨_,_,rfl⟩;rw[hx]at Hn;clear hx;clear hQ hf R0 HG hlong h1 sd sm HT hok;go_wp2_with fail
   refine ka (Hn.out _) fun W2 hb2=>?_;have FA:=hb2.size;simp only[bB]at FA;have hq:=hq.below hb2 (by simp);have hb:=hb.below hb2 (by simp;omega);have hB:=aR hB hb2 (by simp;omega);have c0:=hb.ce 0;have c1:=hb.ce 1;have f0:=hb.fz 0;have f1:=hb.fz 1;have d0:=hq.ce 0;have d1:=hq.ce 1;have Ch:=zq hb;have hlt2:W1.heap.size<W2.heap.size:=by omega
   have hlt3:w.heap.size<W2.heap.size:=by omega
   clear hb2 hq hb FA;go_wp2;exact cI (dF (T:=272) rY _ _ w.heap.size _ _ rfl (by first |exact(Ch.out.set 0 _).set 1 _|exact((Ch.out.set 0 _).set 1 _).alloc _) gX gM) rfl ⟨by rw[R.out];rfl,by repeat(first |exact hB|refine iV ?_ (by exact aG _) _|refine lA ?_ (by simp;omega) _)⟩
  ·rw[iN hQ]at Hn;unfold wJ at Hn;clear hQ;go_wp2_with fail
   refine ka (Hn.out _) fun W2 hb2=>?_;have FA:=hb2.size;simp only[bB]at FA;have hq:=hq.below hb2 (by simp);have hb:=hb.below hb2 (by simp;omega);have hB:=aR hB hb2 (by simp;omega);have hlt2:W1.heap.size<W2.heap.size:=by omega
   have hlt3:w.heap.size<W2.heap.size:=by omega
   have c0:=hb.ce 0;have c1:=hb.ce 1;have f0:=hb.fz 0;have f1:=hb.fz 1;have d0:=hq.ce 0;have d1:=hq.ce 1;have Ch:=zq hb;have hq':=zq hq;clear hb2 hq FA Hn hb;by_cases hL:yZ a.data.toList=true
   ·have R:bH (Ap a.data.toList=cC #[cN #[aA (bs []),aA (bs [])],aD aE 4]):=R0.out 4 (by rw[hf,ip hL]);rw[hL]at hlong;have hl2:(300:Int)<((bs M).size:Int)∨(((bs M).size:Int)≤300∧(300:Int)<(DT.size:Int)):=by
     have:=hlong.symm;rw[Bool.or_eq_true,decide_eq_true_eq,decide_eq_true_eq]at this;omega
    clear hL hlong hf R0 HG sm sd h1 hok;rcases hl2 with l1|⟨l1,l2⟩;all_goals
     go_wp2_with fail
     refine kr (HT.out _) ?_;go_wp2;exact cI (dF (T:=272) rY _ _ w.heap.size _ _ rfl (by first |exact(Ch.out.set 0 _).set 1 _|exact((Ch.out.set 0 _).set 1 _).alloc _) gX gM) rfl ⟨by rw[R.out];rfl,by repeat(first |exact hB|refine iV ?_ (by exact aG _) _|refine lA ?_ (by simp;omega) _)⟩
   ·have hL:yZ a.data.toList=false:=by simpa using hL
    have HG1:=zq (HG.out hL);clear HG;rw[hL]at hlong hf;have l1:((bs M).size:Int)≤300∧(DT.size:Int)≤300:=by
     have:=hlong.symm;rw[dO,decide_eq_false_iff_not,decide_eq_false_iff_not]at this;omega
    obtain⟨l1,l2⟩:=l1;rw[iN (by decide)]at hf;clear hL hlong sm sd hok;cases s with
    |false=>
     have R:bH (Ap a.data.toList=cC #[cN #[aA N,aA DT],aD aE 0]):=R0.out 0 (by rw[hf];rfl);clear hf R0 HG1;go_wp2_with fail
     refine kr (HT.out _) ?_;go_wp2;exact cI (dF (T:=272) rY _ _ w.heap.size _ _ rfl (by first |exact(Ch.out.set 0 _).set 1 _|exact((Ch.out.set 0 _).set 1 _).alloc _) gX gM) rfl ⟨by rw[R.out];rfl,by repeat(first |exact hB|refine iV ?_ (by exact aG _) _|refine lA ?_ (by simp;omega) _)⟩
    |true=>
     have HG2:=zq (HG1.out rfl);clear HG1;by_cases hg:g=1
     ·have R:bH (Ap a.data.toList=cC #[cN #[aA N,aA DT],aD aE 0]):=R0.out 0 (by rw[hf,hg];rfl);have e1:(bs (cM ((g:Nat):Int))).toList=[49]:=by rw[cJ,bP,hg];exact(mE 1).trans uW
      clear hf R0 hg;generalize bs (cM ((g:Nat):Int))=G at *;go_wp2_with fail
      refine kr (HT.out _) ?_;go_wp2_with fail
      refine ka (HG2.out _ (hB.alloc (by omega) _)) fun W4 hb4=>?_;have Vg:=hb4.size;simp only[bB]at Vg;have hb:=(Ch.out.alloc _).below hb4 (by simp;omega);have hq:=(hq'.out.alloc _).below hb4 (by simp;omega);have hB:=aR (hB.alloc (by omega) _) hb4 (by simp;omega);have c0:=hb.ce 0;have c1:=hb.ce 1;have f0:=hb.fz 0;have f1:=hb.fz 1;have d0:=hq.ce 0;have d1:=hq.ce 1;have hlt4:w.heap.size<W4.heap.size:=by omega
      replace Ch:=zq hb;clear hb hq hb4 Vg HG2;go_wp2;exact cI (dF (T:=272) rY _ _ w.heap.size _ _ rfl (by first |exact(Ch.out.set 0 _).set 1 _|exact((Ch.out.set 0 _).set 1 _).alloc _) gX gM) rfl ⟨by rw[R.out];rfl,by repeat(first |exact hB|refine iV ?_ (by exact aG _) _|refine lA ?_ (by simp;omega) _)⟩
     ·have R:bH (Ap a.data.toList=cC #[cN #[aA (bs []),aA (bs [])],aD aE 11]):=R0.out 11 (by rw[hf];simp[hg]);have e1:((bs (cM ((g:Nat):Int))).toList==[49])=false:=by rw[CG,Li];exact decide_eq_false hg
      clear hf R0 hg;generalize bs (cM ((g:Nat):Int))=G at *;go_wp2_with fail
      refine kr (HT.out _) ?_;go_wp2_with fail
      refine ka (HG2.out _ (hB.alloc (by omega) _)) fun W4 hb4=>?_;have Vg:=hb4.size;simp only[bB]at Vg;have hb:=(Ch.out.alloc _).below hb4 (by simp;omega);have hq:=(hq'.out.alloc _).below hb4 (by simp;omega);have hB:=aR (hB.alloc (by omega) _) hb4 (by simp;omega);have c0:=hb.ce 0;have c1:=hb.ce 1;have f0:=hb.fz 0;have f1:=hb.fz 1;have d0:=hq.ce 0;have d1:=hq.ce 1;have hlt4:w.heap.size<W4.heap.size:=by omega
      replace Ch:=zq hb;clear hb hq hb4 Vg HG2;go_wp2;exact cI (dF (T:=272) rY _ _ w.heap.size _ _ rfl (by first |exact(Ch.out.set 0 _).set 1 _|exact((Ch.out.set 0 _).set 1 _).alloc _) gX gM) rfl ⟨by rw[R.out];rfl,by repeat(first |exact hB|refine iV ?_ (by exact aG _) _|refine lA ?_ (by simp;omega) _)⟩
 ·have R:bH (Ap a.data.toList=cC #[cN #[aA (bs []),aA (bs [])],aD aE 11]):=by
   show _=_;have e:eH a.data.toList=11:=by rw[eH,iN hok]
   rw[Ap,e];rfl
  rw[qk,iN hok]at Hc;clear hok hn hl hs;go_enter func213,ntmps213;go_wp2_with fail
  refine ka Hc.out fun W1 hb1=>?_;obtain⟨hB,hb⟩:=qg.out _ hb1;have c0:=hb.ce 0;have c1:=hb.ce 1;have f0:=hb.fz 0;have f1:=hb.fz 1;have hlt:=hb.lt;have Ch:=zq hb;clear hb1 hb qg Hc;go_wp2;exact cI (dF (T:=272) rY _ _ w.heap.size _ _ rfl (by first |exact(Ch.out.set 0 _).set 1 _|exact((Ch.out.set 0 _).set 1 _).alloc _) gX gM) rfl ⟨by rw[R.out];rfl,by repeat(first |exact hB|refine iV ?_ (by exact aG _) _|refine lA ?_ (by simp;omega) _)⟩
def rN(s:List UInt8):List UInt8:=if eH s=0 then nS s else[]
def rD(s:List UInt8):List UInt8:=if eH s=0 then dT s else[]
theorem Gr(s:List UInt8):Ap s=cC #[cN #[aA (bs (rN s)),aA (bs (rD s))],aD aE (eH s)]:=by
 unfold Ap rN rD;by_cases h:eH s=0
 ·rw[ip h,ip h,ip h,h]
 ·rw[iN h,iN h,iN h]
theorem Of(a:ByteArray)(w:aF)(hE:iM w)(hs:a.size≤8000000):
 aW aC 167 #[aA a] w (Rt (aD aE (eH a.data.toList)) w):=by
 have Hr:=zq (sR a w hE hs);rw[Gr]at Hr;go_enter func167,ntmps167;go_wp2_with fail
 refine Hr.out.mono ?_;rintro e W1⟨rfl,hb1⟩;go_wp2;go_ret;exact⟨rfl,hb1.alloc hb1.size _⟩
theorem Og(a:ByteArray)(w:aF)(hE:iM w)(hs:a.size≤8000000):
 aW aC 143 #[aA a] w (Rt (cC #[aA (bs (rN a.data.toList)),aA (bs (rD a.data.toList)),aD aE (eH a.data.toList)]) w):=by
 have Hr:=zq (sR a w hE hs);rw[Gr]at Hr;generalize eH a.data.toList=c at *;generalize bs (rN a.data.toList)=N at *;generalize bs (rD a.data.toList)=D at *;go_enter func143,ntmps143;go_wp2_with fail
 refine Hr.out.mono ?_;rintro e W1⟨rfl,hb1⟩;go_wp2;go_region;go_wp2;go_ret3;exact⟨rfl,cK (hb1.alloc hb1.size _) 1⟩
theorem Jz(z:Int):Lib.hasPrefix (cM z) [45]=decide (z<0):=by
 rw[wI];exact decide_eq_decide.2 (wQ z)
theorem ae{z:Int}(h:z<0):JI (cM z) [45]=cM (-z):=by
 rw[oW,nP,nK (by omega),Int.natAbs_neg]
theorem Gs(z:Int)(w:aF)(hz:z.natAbs<10^300):
 aW aC 148 #[aA (bs (cM z))] w fun e w'=>e=aQ (aA (bs (cM (-z))))∧w=w':=by
 have h0:((bs (cM z)).toList==[48])=decide (z=0):=by rw[CG];exact Ef z
 have HP:=zq (fun W=>zM (bs (cM z)) {data:= #[45]} W);rw[show(bs (cM z)).data.toList=cM z from rfl,show({data:= #[45]}:ByteArray).data.toList=[45]from rfl,Jz]at HP;have ls:=iU hz;have Hcat:bH (0<z→∀W,(Jh .add {data:= #[45]} (bs (cM z))).run aC W=.ok (aA (bs (cM (-z)))) W):=by
  intro h W;have:=tN (P:=aC) W [45] (cM z) (by decide) (by rw[cZ]at ls;omega);rw[show[45]++cM z=cM (-z)from VQ h]at this;exact this
 by_cases c0:z=0
 ·subst c0;rw[show(-(0:Int))=0 from rfl];clear HP Hcat hz ls;generalize bs (cM 0)=A at *;rw[decide_eq_true rfl]at h0;go_enter UT,Q5;go_wp2;go_ret;exact⟨rfl,rfl⟩
 ·rw[decide_eq_false c0]at h0;by_cases cn:z<0
  ·rw[decide_eq_true cn,ae cn]at HP;clear Hcat hz ls c0 cn;generalize bs (cM z)=A at *;generalize bs (cM (-z))=B at *;go_enter UT,Q5;go_wp2_with fail
   refine(HP.out _).mono ?_;rintro e W1⟨rfl,rfl⟩;go_wp2;go_ret;exact⟨rfl,rfl⟩
  ·have hc:=Hcat.out (by omega);rw[decide_eq_false cn]at HP;clear Hcat hz ls c0 cn;generalize bs (cM z)=A at *;generalize bs (cM (-z))=B at *;generalize bs (JI (cM z) [45])=C at *;go_enter UT,Q5;go_wp2_with fail
   refine(HP.out _).mono ?_;rintro e W1⟨rfl,rfl⟩;go_wp2;go_ret;exact⟨rfl,rfl⟩
theorem ql(u:Int)(v:Nat)(hv:v≠0):u.fdiv ((dR u.natAbs v:Nat):Int)=(mkRat u v).num∧((v:Nat):Int).fdiv ((dR u.natAbs v:Nat):Int)=(((mkRat u v).den:Nat):Int):=by
 obtain⟨q1,q2⟩:=CA u v hv;rw[AZ _ (by omega),AZ _ (by omega),q1,q2,Int.natCast_ediv];exact⟨rfl,rfl⟩
theorem af(x y:Int)(w:aF)(hE:iM w)(hx:x.natAbs<10^300)(hy:y.natAbs<10^300):
 aW aC 149 #[aA (bs (cM x)),aA (bs (cM y))] w (Rt (cC #[aA (bs (cM ((dR x.natAbs y.natAbs:Nat):Int))),aD aE 0]) w):=by
 have:=Yq (bs (cM x)) (bs (cM y)) w hE (by have:=iU hx;simp only[dL];omega) (by have:=iU hy;simp only[dL];omega);rwa[bP,bP,ZJ hx hy]at this
theorem Gt(x y:Int)(w:aF)(hE:iM w)(hx:x.natAbs<10^300)(hy:y.natAbs<10^300)(h0:y≠0):
 aW aC 150 #[aA (bs (cM x)),aA (bs (cM y))] w (Rt (cC #[aA (bs (cM (x.fdiv y))),aA (bs (cM (x.fmod y))),aD aE 0]) w):=by
 have:=Wk (bs (cM x)) (bs (cM y)) w hE (by have:=iU hx;simp only[dL];omega) (by have:=iU hy;simp only[dL];omega);unfold sQ at this;rwa[bP,bP,ZK hx hy h0]at this
theorem Ar(x y:Int)(w:aF)(hE:iM w)(hx:x.natAbs<10^300)(hy:y.natAbs<10^300):
 aW aC 265 #[aA (bs (cM x)),aA (bs (cM y))] w (Rt (cC #[aA (bs (nL (x*y)).1),aD aE (nL (x*y)).2]) w):=by
 have:=int_Mul (bs (cM x)) (bs (cM y)) w hE (by have:=iU hx;simp only[dL];omega) (by have:=iU hy;simp only[dL];omega);rwa[bP,bP,ZG hx hy]at this
def txt(n:Int)(d:Nat):List UInt8:=if d=1 then cM n else cM n++47::cM (d:Int)
theorem qn(q:Rat):bJ q=txt q.num q.den:=by
 rw[bJ,txt,mE]
theorem Bt(x y:Int)(w:aF)(hE:iM w)(hx:x.natAbs<10^300)(hy:y.natAbs<10^300)(h0:y≠0):
 aW aC 73 #[aA (bs (cM x)),aA (bs (cM y))] w (Rt (cC #[aA (bs (bJ (mkRat (EU x y) y.natAbs))),aD aE 0]) w):=by
 have HP:=zq (fun W=>Eb (bs (cM y)) {data:= #[45]} W);rw[show(bs (cM y)).data.toList=cM y from rfl,show({data:= #[45]}:ByteArray).data.toList=[45]from rfl,Jz]at HP;have Nq:=zq (fun W=>Gs x W hx);have IF:=zq (fun W=>Gs y W hy);obtain⟨X,hX⟩:=nm (bs (cM x));obtain⟨Y,hY⟩:=nm (bs (cM y));rw[hY]at HP;rw[hX]at Nq;rw[hY]at IF;rw[hX,hY];have HX:=zq hX;have HY:=zq hY;clear hX hY;go_enter func73,ntmps73;go_wp2_with fail
 refine kr (HP.out _) ?_;go_upto_if 9 with fail;go_cut[0,1] (fun n d w'=>n=aA (bs (cM (EU x y)))∧d=aA (bs (cM ((y.natAbs:Nat):Int)))∧w=w');case first =>
  by_cases hy0:y<0
  ·have EX:bH (EU x y= -x):=ip hy0;have EY:bH (((y.natAbs:Nat):Int)= -y):=by show _=_;omega
   clear hx hy h0 hE;go_wp2_with fail
   refine kr (Nq.out _) ?_;go_wp2_with fail
   refine kr (IF.out _) ?_;go_wp2;go_meet;case rel=>exact⟨by rw[EX.out],by rw[EY.out],rfl⟩
  ·have EX:bH (EU x y=x):=iN hy0;have EY:bH (((y.natAbs:Nat):Int)=y):=by show _=_;omega
   clear hx hy h0 hE;go_wp2;go_meet;case rel=>exact⟨by rw[EX.out,HX.out],by rw[EY.out,HY.out],rfl⟩
 case rest=>
  obtain⟨rfl,rfl,rfl⟩:=hcut;have hv:y.natAbs≠0:=by omega
  have hu:(EU x y).natAbs<10^300:=by unfold EU;split <;>omega
  clear HX HY hx h0 HP Nq IF;obtain⟨u,hU⟩:=nm (EU x y);obtain⟨v,hV⟩:=nm y.natAbs;have R:bH (bJ (mkRat (EU x y) y.natAbs)=txt (mkRat u v).num (mkRat u v).den):=by show _=_;rw[hU,hV,qn]
  rw[hU]at hu⊢;rw[hV]at hv hy⊢;clear hU hV;have hvz:((v:Nat):Int).natAbs<10^300:=by rw[cA];exact hy
  obtain⟨f1,f2⟩:=ql u v hv;obtain⟨hm1,jj⟩:=Gb u v hv;have hg0:0<dR u.natAbs v:=Nat.gcd_pos_of_pos_right _ (by omega);have hgv:dR u.natAbs v≤v:=Nat.gcd_le_right _ (by omega);have HG:=zq (af u v w hE hu hvz);rw[cA]at HG;generalize dR u.natAbs v=g at *;have hgz:((g:Nat):Int).natAbs<10^300:=by rw[cA];exact fO hgv hy
  have MW:=zq (fun(W:aF)(hb:Below w.heap.size w W)=>Gt u g W (hE.below hb) hu hgz (by omega));have IK:=zq (fun(W:aF)(hb:Below w.heap.size w W)=>Gt v g W (hE.below hb) hvz hgz (by omega));rw[f1]at MW;rw[f2]at IK;have h1g:((bs (cM ((g:Nat):Int))).toList==[49])=decide (g=1):=by rw[CG];exact Li g
  have qp:g=1→(mkRat u v).num=u∧(mkRat u v).den=v:=by
   intro e;rw[e]at f1 f2;simp only[Int.natCast_one,Int.fdiv_one]at f1 f2;exact⟨f1.symm,by omega⟩
  generalize(mkRat u v).num=n at *;generalize(mkRat u v).den=d at *;have hn3:n.natAbs<10^300:=fO hm1 hu;have hd3:((d:Nat):Int).natAbs<10^300:=by rw[cA];exact fO jj hy
  have ln:=iU hn3;have ld:=iU hd3;have h1d:((bs (cM ((d:Nat):Int))).toList==[49])=decide (d=1):=by rw[CG];exact Li d
  have Hc1:bH (∀W,(Jh .add (bs (cM n)) {data:= #[47]}).run aC W=.ok (aA (bs (cM n++[47]))) W):=fun W=>tN W (cM n) [47] (by rw[cZ]at ln;omega) (by decide);have Hc2:bH (∀W,(Jh .add (bs (cM n++[47])) (bs (cM ((d:Nat):Int)))).run aC W=.ok (aA (bs (cM n++[47]++cM ((d:Nat):Int)))) W):=fun W=>tN W (cM n++[47]) (cM ((d:Nat):Int)) (by rw[cZ]at ln;rw[List.length_append];simp only[List.length_cons,List.length_nil];omega) (by rw[cZ]at ld;omega);clear hu hv hvz f1 f2 hm1 jj hg0 hgv hgz hn3 hd3 ln ld hy hE;by_cases hg:g=1
  ·obtain⟨e1,e2⟩:=qp hg;subst e1 e2;rw[decide_eq_true hg]at h1g;clear hg qp MW IK;by_cases hd:d=1
   ·rw[decide_eq_true hd]at h1d;have R2:bH (txt n d=cM n):=ip hd;clear hd Hc1 Hc2;go_wp2_with fail
    refine ka HG.out fun W1 hb1=>?_;go_wp2;go_ret2;exact⟨by rw[R.out,R2.out];rfl,hb1⟩
   ·rw[decide_eq_false hd]at h1d;have R2:bH (txt n d=cM n++47::cM (d:Int)):=iN hd;have c1:=Hc1.out;have c2:=Hc2.out;clear hd Hc1 Hc2;go_wp2_with fail
    refine ka HG.out fun W1 hb1=>?_;go_wp2;go_ret2;exact⟨by rw[R.out,R2.out];rfl,hb1⟩
  ·rw[decide_eq_false hg]at h1g;clear hg qp;by_cases hd:d=1
   ·rw[decide_eq_true hd]at h1d;have R2:bH (txt n d=cM n):=ip hd;clear hd Hc1 Hc2;go_wp2_with fail
    refine ka HG.out fun W1 hb1=>?_;go_wp2_with fail
    refine ka (MW.out _ hb1) fun W2 hb2=>?_;have gJ:=aR hb1 hb2 hb1.size;go_wp2_with fail
    refine ka (IK.out _ gJ) fun W3 hb3=>?_;go_wp2;go_ret2;exact⟨by rw[R.out,R2.out];rfl,aR gJ hb3 gJ.size⟩
   ·rw[decide_eq_false hd]at h1d;have R2:bH (txt n d=cM n++47::cM (d:Int)):=iN hd;have c1:=Hc1.out;have c2:=Hc2.out;clear hd Hc1 Hc2;go_wp2_with fail
    refine ka HG.out fun W1 hb1=>?_;go_wp2_with fail
    refine ka (MW.out _ hb1) fun W2 hb2=>?_;have gJ:=aR hb1 hb2 hb1.size;go_wp2_with fail
    refine ka (IK.out _ gJ) fun W3 hb3=>?_;go_wp2;go_ret2;exact⟨by rw[R.out,R2.out];rfl,aR gJ hb3 gJ.size⟩
theorem Gu(n:Int)(w:aF)(hE:iM w)(hn:n.natAbs<10^18):
 aW aC 30 #[aD aE n,aD aE 1] w (Rt (cC #[aA (bs (bJ (n:Rat))),aD aE 0]) w):=by
 have Hi:=zq (gW n w hE (by omega) (by omega));have R:bH (bJ (n:Rat)=cM n):=by show _=_;rw[bJ,ip (Rat.den_intCast n),Rat.num_intCast]
 clear hE hn;go_enter func30,ntmps30;go_wp2_with fail
 refine ka Hi.out fun W1 hb1=>?_;go_wp2;go_ret2;exact⟨by rw[R.out];rfl,hb1⟩
theorem nD(a:ByteArray)(w:aF)(hs:a.size≤8000000)(h:nB a.data.toList=true):
 aW aC 212 #[aA a] w (Rt (cC #[cN #[aD aE (qN a.data.toList),iv (qD a.data.toList)],aN true]) w):=by
 have:=Bp a w (by unfold dL;omega);rw[VV,ip h]at this;unfold wJ at this;simp only[←Yc]at this;exact this
theorem uX(a:ByteArray)(w:aF)(hs:a.size≤8000000)(h:nB a.data.toList=false):
 aW aC 212 #[aA a] w (Rt (cC #[cN #[aD aE 0,aD aE 0],aN false]) w):=by
 have:=Bp a w (by unfold dL;omega);rwa[VV,iN (by rw[h];decide)]at this
theorem wK(a b:ByteArray)(f:aS)(w:aF)(ha:a.size≤8000000)(hb:b.size≤8000000)(h:nB a.data.toList=false∨nB b.data.toList=false):
 aW aC 319 #[aA a,aA b,f] w (Rt (cC #[aA (bs []),aN false]) w):=by
 by_cases qa:nB a.data.toList=true
 ·have qb:nB b.data.toList=false:=by rcases h with h|h;(rw[qa]at h;cases h);exact h
  have HA:=zq (fun W=>nD a W ha qa);have HB:=zq (fun W=>uX b W hb qb);unfold iv at HA;clear h qa qb;go_enter UU,Q7;go_wp2_with fail
  refine(HA.out _).mono ?_;rintro e W1⟨rfl,hb1⟩;go_wp2_with fail
  refine(HB.out _).mono ?_;rintro e W2⟨rfl,hb2⟩;have hB:=aR (hb1.alloc hb1.size _) hb2 (by simp;exact dM hb1.size);go_wp2;go_ret2;exact⟨rfl,hB.alloc hB.size _⟩
 ·have qa:nB a.data.toList=false:=by simpa using qa
  have HA:=zq (fun W=>uX a W ha qa);clear h qa;go_enter UU,Q7;go_wp2_with fail
  refine(HA.out _).mono ?_;rintro e W1⟨rfl,hb1⟩;go_wp2;go_ret2;exact⟨rfl,hb1.alloc hb1.size _⟩
theorem uY(a b:ByteArray)(g:FI)(N D:Int)(w:aF)(hE:iM w)(ha:a.size≤8000000)(hb:b.size≤8000000)(qa:nB a.data.toList=true)(qb:nB b.data.toList=true)
 (eg:∀args w,(uQ g args).run aC w=.ok (.enter g args) w)(hN:N.natAbs<10^18)(hD:D.natAbs<10^18)(h0:D≠0)
 (HM:∀W,aW aC g #[cN #[aD aE (qN a.data.toList),iv (qD a.data.toList)],cN #[aD aE (qN b.data.toList),iv (qD b.data.toList)]] W (Rt (cN #[aD aE N,aD aE D]) W)):
 aW aC 319 #[aA a,aA b,.func (.func g) #[] #[]] w (Rt (cC #[aA (bs (bJ (mkRat (EU N D) D.natAbs))),aN true]) w):=by
 have HA:=zq (fun W=>nD a W ha qa);have HB:=zq (fun W=>nD b W hb qb);have HN:=zq (fun(W:aF)(hb:Below w.heap.size w W)=>Gl N D W (hE.below hb) hN hD h0);have HM:=zq HM;unfold iv at HA HB HM;clear hE qa qb hN hD h0;generalize qN a.data.toList=n1 at *;generalize qD a.data.toList=d1 at *;generalize qN b.data.toList=n2 at *;generalize qD b.data.toList=d2 at *;go_enter UU,Q7;go_wp2_with fail
 refine(HA.out _).mono ?_;rintro e W1⟨rfl,hb1⟩;have hq1:bT (W1.alloc (aJ #[aD aE n1,aD aE d1] 268)) W1.heap.size #[aD aE n1,aD aE d1] 268:=bT.new W1 _ _;go_wp2_with fail
 refine(HB.out _).mono ?_;rintro e W2⟨rfl,hb2⟩;have FA:=hb2.size;simp only[bB]at FA;have gJ:=aR (hb1.alloc hb1.size _) hb2 (by simp;exact dM hb1.size);have hq1:=(hq1.below hb2 (by simp));have c0:=hq1.cell 0;have c1:=hq1.cell 1;have hlt:=hq1.lt;simp only[aL,aI,bM]at c0 c1;go_wp2_with fail
 refine(HM.out _).mono ?_;rintro e W3⟨rfl,hb3⟩;have kY:=aR (gJ.alloc gJ.size _) hb3 (by simp;exact dM gJ.size);go_wp2_with fail
 refine(HN.out _ kY).mono ?_;rintro e W4⟨rfl,hb4⟩;go_wp2;go_ret2;exact⟨rfl,aR kY hb4 kY.size⟩
theorem yG{a b:Int}(ha:a.natAbs<10^8)(hb:b.natAbs<10^8):(a*b).natAbs<10^16:=nA ha hb
theorem qq(n1 d1 n2 d2:Int)(w:aF)(h1:n1.natAbs<10^8)(h2:d1.natAbs<10^8)(h3:n2.natAbs<10^8)(h4:d2.natAbs<10^8):
 aW aC 320 #[cN #[aD aE n1,aD aE d1],cN #[aD aE n2,aD aE d2]] w (Rt (cN #[aD aE (n1*d2+n2*d1),aD aE (d1*d2)]) w):=by
 have p0:=yG h1 h4;have w0:IntKind.i64.wrap (n1*d2)=n1*d2:=aX _ (by omega);have p1:=yG h3 h2;have w1:IntKind.i64.wrap (n2*d1)=n2*d1:=aX _ (by omega);have p2:=yG h2 h4;have w2:IntKind.i64.wrap (d1*d2)=d1*d2:=aX _ (by omega);have ws:IntKind.i64.wrap (n1*d2+n2*d1)=n1*d2+n2*d1:=aX _ (by omega);clear h1 h2 h3 h4 p0 p1 p2;go_enter func320,ntmps320;go_wp2;exact cI (v:=cN #[aD aE (n1*d2+n2*d1),aD aE (d1*d2)]) (by simp[gR,Tryz.results320,go_sem]) rfl ⟨rfl,(((aH _ w).alloc (aG _) _).alloc (by simp) _).alloc (by simp;omega) _⟩
theorem qr(n1 d1 n2 d2:Int)(w:aF)(h1:n1.natAbs<10^8)(h2:d1.natAbs<10^8)(h3:n2.natAbs<10^8)(h4:d2.natAbs<10^8):
 aW aC 326 #[cN #[aD aE n1,aD aE d1],cN #[aD aE n2,aD aE d2]] w (Rt (cN #[aD aE (n1*d2-n2*d1),aD aE (d1*d2)]) w):=by
 have p0:=yG h1 h4;have w0:IntKind.i64.wrap (n1*d2)=n1*d2:=aX _ (by omega);have p1:=yG h3 h2;have w1:IntKind.i64.wrap (n2*d1)=n2*d1:=aX _ (by omega);have p2:=yG h2 h4;have w2:IntKind.i64.wrap (d1*d2)=d1*d2:=aX _ (by omega);have ws:IntKind.i64.wrap (n1*d2-n2*d1)=n1*d2-n2*d1:=aX _ (by omega);clear h1 h2 h3 h4 p0 p1 p2;go_enter func326,ntmps326;go_wp2;exact cI (v:=cN #[aD aE (n1*d2-n2*d1),aD aE (d1*d2)]) (by simp[gR,Tryz.results326,go_sem]) rfl ⟨rfl,(((aH _ w).alloc (aG _) _).alloc (by simp) _).alloc (by simp;omega) _⟩
theorem qu(n1 d1 n2 d2:Int)(w:aF)(h1:n1.natAbs<10^8)(h2:d1.natAbs<10^8)(h3:n2.natAbs<10^8)(h4:d2.natAbs<10^8):
 aW aC 324 #[cN #[aD aE n1,aD aE d1],cN #[aD aE n2,aD aE d2]] w (Rt (cN #[aD aE (n1*n2),aD aE (d1*d2)]) w):=by
 have p0:=yG h1 h3;have w0:IntKind.i64.wrap (n1*n2)=n1*n2:=aX _ (by omega);have p1:=yG h2 h4;have w1:IntKind.i64.wrap (d1*d2)=d1*d2:=aX _ (by omega);clear h1 h2 h3 h4 p0 p1;go_enter func324,ntmps324;go_wp2;exact cI (v:=cN #[aD aE (n1*n2),aD aE (d1*d2)]) (by simp[gR,Tryz.results324,go_sem]) rfl ⟨rfl,(((aH _ w).alloc (aG _) _).alloc (by simp) _).alloc (by simp;omega) _⟩
theorem qw(n1 d1 n2 d2:Int)(w:aF)(h1:n1.natAbs<10^8)(h2:d1.natAbs<10^8)(h3:n2.natAbs<10^8)(h4:d2.natAbs<10^8):
 aW aC 332 #[cN #[aD aE n1,aD aE d1],cN #[aD aE n2,aD aE d2]] w (Rt (cN #[aD aE (n1*d2),aD aE (d1*n2)]) w):=by
 have p0:=yG h1 h4;have w0:IntKind.i64.wrap (n1*d2)=n1*d2:=aX _ (by omega);have p1:=yG h2 h3;have w1:IntKind.i64.wrap (d1*n2)=d1*n2:=aX _ (by omega);clear h1 h2 h3 h4 p0 p1;go_enter func332,ntmps332;go_wp2;exact cI (v:=cN #[aD aE (n1*d2),aD aE (d1*n2)]) (by simp[gR,Tryz.results332,go_sem]) rfl ⟨rfl,(((aH _ w).alloc (aG _) _).alloc (by simp) _).alloc (by simp;omega) _⟩
theorem wL(a b:ByteArray)(f:aS)(w:aF)(hE:iM w)(ha:a.size≤8000000)(hb:b.size≤8000000)(h:gC a.data.toList b.data.toList≠0):
 aW aC 321 #[aA a,aA b,f] w (Rt (cC #[aA (bs []),aD aE (gC a.data.toList b.data.toList)]) w):=by
 have HA:=zq (sR a w hE ha);have HB:=zq (fun(W:aF)(h:Below w.heap.size w W)=>sR b W (hE.below h) hb);rw[Gr]at HA HB;generalize bs (rN a.data.toList)=N1 at *;generalize bs (rD a.data.toList)=D1 at *;generalize bs (rN b.data.toList)=N2 at *;generalize bs (rD b.data.toList)=D2 at *;by_cases h0:eH a.data.toList=0
 ·have e:gC a.data.toList b.data.toList=eH b.data.toList:=by rw[gC,ip h0]
  rw[e]at h⊢;rw[h0]at HA;generalize eH b.data.toList=c at *;have h':(c !=0)=true:=by rw[bne_iff_ne];exact h
  clear h h0 e;go_enter UV,Q8;go_wp2_with fail
  refine ka HA.out fun W1 hb1=>?_;go_wp2_with fail
  refine ka (HB.out _ (hb1.alloc hb1.size _)) fun W2 hb2=>?_;have hB:=aR (hb1.alloc hb1.size _) hb2 (by simp;exact dM hb1.size);go_wp2;go_ret2;exact⟨rfl,hB.alloc hB.size _⟩
 ·have e:gC a.data.toList b.data.toList=eH a.data.toList:=by rw[gC,iN h0]
  rw[e]at h⊢;generalize eH a.data.toList=c at *;have h':(c !=0)=true:=by rw[bne_iff_ne];exact h
  clear h h0 e;go_enter UV,Q8;go_wp2_with fail
  refine ka HA.out fun W1 hb1=>?_;go_wp2;go_ret2;exact⟨rfl,hb1.alloc hb1.size _⟩
abbrev Vj(x:Rat):aS:=cN #[aA (bs (cM x.num)),aA (bs (cM (x.den:Int)))]
theorem zC(a b:ByteArray)(g:FI)(lb:Array aS)(S:ByteArray)(c:Int)(w:aF)(hE:iM w)(ha:a.size≤8000000)(hb:b.size≤8000000)(h:gC a.data.toList b.data.toList=0)
 (eg:∀args w,(uQ g args).run aC w=.ok (.enter g args) w)
 (HM:∀W,Below w.heap.size w W→aW aC g (#[Vj (dD a.data.toList),Vj (dD b.data.toList)]++lb) W (Rt (cC #[aA S,aD aE c]) W)):
 aW aC 321 #[aA a,aA b,.func (.func g) #[] lb] w (Rt (cC #[aA S,aD aE c]) w):=by
 obtain⟨ga,gb⟩:=uG h;have HA:=zq (sR a w hE ha);have HB:=zq (fun(W:aF)(h:Below w.heap.size w W)=>sR b W (hE.below h) hb);rw[Ap,ip ga,EO ga,EQ ga]at HA;rw[Ap,ip gb,EO gb,EQ gb]at HB;have HM:=zq HM;unfold Vj at HM;clear hE h ga gb ha hb;generalize bs (cM (dD a.data.toList).num)=N1 at *;generalize bs (cM ((dD a.data.toList).den:Int))=D1 at *;generalize bs (cM (dD b.data.toList).num)=N2 at *;generalize bs (cM ((dD b.data.toList).den:Int))=D2 at *;go_enter UV,Q8;go_wp2_with fail
 refine ka HA.out fun W1 hb1=>?_;have hq1:bT (W1.alloc (aJ #[aA N1,aA D1] 272)) W1.heap.size #[aA N1,aA D1] 272:=bT.new W1 _ _;go_wp2_with fail
 refine ka (HB.out _ (hb1.alloc hb1.size _)) fun W2 hb2=>?_;have FA:=hb2.size;simp only[bB]at FA;have gJ:=aR (hb1.alloc hb1.size _) hb2 (by simp;exact dM hb1.size);have hq1:=(hq1.below hb2 (by simp));have c0:=hq1.ce 0;have c1:=hq1.ce 1;have hlt:=hq1.lt;clear hq1 hb1 hb2 FA;go_wp2_with fail
 refine ka (HM.out _ (gJ.alloc gJ.size _)) fun W3 hb3=>?_;go_wp2;go_ret2;exact⟨rfl,aR (gJ.alloc gJ.size _) hb3 (by simp;exact dM gJ.size)⟩
theorem CJ(x y:Rat)(w:aF)(hE:iM w)(hx:HQ 300 x)(hy:HQ 300 y):
 aW aC 214 #[Vj x,Vj y] w fun e w'=>
  (∃A B c,e=aQ (cC #[aA A,aA B,aD aE c])∧((tS (x.num*y.den)=true∧tS (y.num*x.den)=true∧A=bs (cM (x.num*y.den))∧B=bs (cM (y.num*x.den))∧c=0)∨((tS (x.num*y.den)=false∨tS (y.num*x.den)=false)∧c=4)))∧Below w.heap.size w w':=by
 have H1:=zq (fun(W:aF)(hb:Below w.heap.size w W)=>Ar x.num y.den W (hE.below hb) hx.1 hy.d);have H2:=zq (fun(W:aF)(hb:Below w.heap.size w W)=>Ar y.num x.den W (hE.below hb) hy.1 hx.d);unfold Vj;generalize x.num*(y.den:Int)=u at *;generalize y.num*(x.den:Int)=v at *;generalize bs (cM x.num)=N1 at *;generalize bs (cM (x.den:Int))=D1 at *;generalize bs (cM y.num)=N2 at *;generalize bs (cM (y.den:Int))=D2 at *;clear hx hy hE;have bx:Below w.heap.size w ((w.alloc (aJ #[aA N1,aA D1] 272)).alloc (aJ #[aA N2,aA D2] 272)):=((aH _ w).alloc (aG _) _).alloc (by simp) _;have q1:bT ((w.alloc (aJ #[aA N1,aA D1] 272)).alloc (aJ #[aA N2,aA D2] 272)) w.heap.size #[aA N1,aA D1] 272:=(bT.new w _ _).alloc _;have q2:bT ((w.alloc (aJ #[aA N1,aA D1] 272)).alloc (aJ #[aA N2,aA D2] 272)) (w.heap.size+1) #[aA N2,aA D2] 272:=by
  have:=bT.new (w.alloc (aJ #[aA N1,aA D1] 272)) #[aA N2,aA D2] 272;rwa[bB]at this
 have Bx:=zq bx;clear bx;by_cases ok1:tS u=true
 ·rw[Dq ok1]at H1;by_cases ok2:tS v=true
  ·rw[Dq ok2]at H2;refine yP (R:=fun e W'=>e=aQ (cC #[aA (bs (cM u)),aA (bs (cM v)),aD aE 0])∧Below w.heap.size w W') ?_ (by rintro e W' ⟨rfl,hb⟩;exact⟨⟨_,_,0,rfl,.inl ⟨ok1,ok2,rfl,rfl,rfl⟩⟩,hb⟩);clear ok1 ok2;generalize cM u=S at *;generalize cM v=T at *;go_enter UW,Q9;go_wp2_with fail
   refine ka (H1.out _ Bx.out) fun W1 hb1=>?_;have hB:=aR Bx.out hb1 (by simp;omega);have p1:=q1.below hb1 (by simp;omega);have p2:=q2.below hb1 (by simp);have c1:=p1.ce 1;have c0:=p2.ce 0;have l1:=p1.lt;have l2:=p2.lt;clear p1 p2 q1 q2 hb1;go_wp2_with fail
   refine ka (H2.out _ hB) fun W2 hb2=>?_;go_wp2;go_ret3;exact⟨rfl,aR hB hb2 hB.size⟩
  ·have Wl:tS v=false:=by simpa using ok2
   rw[Dt Wl]at H2;refine yP (R:=fun e W'=>e=aQ (cC #[aA (bs (cM u)),aA (bs []),aD aE 4])∧Below w.heap.size w W') ?_ (by rintro e W' ⟨rfl,hb⟩;exact⟨⟨_,_,4,rfl,.inr ⟨.inr Wl,rfl⟩⟩,hb⟩);clear ok1 ok2 Wl;generalize cM u=S at *;go_enter UW,Q9;go_wp2_with fail
   refine ka (H1.out _ Bx.out) fun W1 hb1=>?_;have hB:=aR Bx.out hb1 (by simp;omega);have p1:=q1.below hb1 (by simp;omega);have p2:=q2.below hb1 (by simp);have c1:=p1.ce 1;have c0:=p2.ce 0;have l1:=p1.lt;have l2:=p2.lt;clear p1 p2 q1 q2 hb1;go_wp2_with fail
   refine ka (H2.out _ hB) fun W2 hb2=>?_;go_wp2;go_ret3;exact⟨rfl,aR hB hb2 hB.size⟩
 ·have Wm:tS u=false:=by simpa using ok1
  rw[Dt Wm]at H1;refine yP (R:=fun e W'=>e=aQ (cC #[aA {data:= #[]},aA {data:= #[]},aD aE 4])∧Below w.heap.size w W') ?_ (by rintro e W' ⟨rfl,hb⟩;exact⟨⟨_,_,4,rfl,.inr ⟨.inl Wm,rfl⟩⟩,hb⟩);clear ok1 Wm;go_enter UW,Q9;go_wp2_with fail
  refine ka (H1.out _ Bx.out) fun W1 hb1=>?_;have hB:=aR Bx.out hb1 (by simp;omega);go_wp2;go_ret3;exact⟨rfl,hB⟩
section
variable{w W1:aF}{N1 D1 N2 D2:ByteArray}
theorem Oh(h:Below ((w.alloc (aJ #[aA N1,aA D1] 272)).alloc (aJ #[aA N2,aA D2] 272)).heap.size ((w.alloc (aJ #[aA N1,aA D1] 272)).alloc (aJ #[aA N2,aA D2] 272)) W1):
 Below w.heap.size w W1∧bT W1 w.heap.size #[aA N1,aA D1] 272∧bT W1 (w.heap.size+1) #[aA N2,aA D2] 272:=by
 refine⟨aR (((aH _ w).alloc (aG _) _).alloc (by simp) _) h (by simp;omega),((bT.new w _ _).alloc _).below h (by simp;omega),?_⟩;have:=(bT.new (w.alloc (aJ #[aA N1,aA D1] 272)) #[aA N2,aA D2] 272).below h (by simp);rwa[bB]at this
end
theorem qz(x y:Rat)(w:aF)(hE:iM w)(hx:HQ 300 x)(hy:HQ 300 y):
 aW aC 325 #[Vj x,Vj y] w (Rt (cC #[aA (bs (Nf x y).1),aD aE (Nf x y).2]) w):=by
 have hz:(x.den:Int)*y.den≠0:=by rw[←lI];have:=Gc x y;omega
 have H1:=zq (fun(W:aF)(hb:Below w.heap.size w W)=>Ar x.num y.num W (hE.below hb) hx.1 hy.1);have H2:=zq (fun(W:aF)(hb:Below w.heap.size w W)=>Ar x.den y.den W (hE.below hb) hx.d hy.d);have HN:=zq (fun(a1:tS (x.num*y.num)=true)(a2:tS ((x.den:Int)*y.den)=true)(W:aF)(hb:Below w.heap.size w W)=>Bt (x.num*y.num) ((x.den:Int)*y.den) W (hE.below hb) (of_decide_eq_true a1) (of_decide_eq_true a2) hz);rw[VR]at HN;have Yes:bH (tS (x.num*y.num)=true→tS ((x.den:Int)*y.den)=true→Nf x y=(bJ (x*y),0)):=by
  intro a b;rw[Nf,NZ,a,b];rfl
 have No:bH ((tS (x.num*y.num)&&tS ((x.den:Int)*y.den))=false→Nf x y=([],4)):=by
  intro a;rw[Nf,NZ,a];rfl
 have tb:= @Oh w;have Tb:=zq (fun(W1:aF)=>tb (W1:=W1) (N1:=bs (cM x.num)) (D1:=bs (cM (x.den:Int))) (N2:=bs (cM y.num)) (D2:=bs (cM (y.den:Int))));have Bx:bH (Below w.heap.size w ((w.alloc (aJ #[aA (bs (cM x.num)),aA (bs (cM (x.den:Int)))] 272)).alloc (aJ #[aA (bs (cM y.num)),aA (bs (cM (y.den:Int)))] 272))):=((aH _ w).alloc (aG _) _).alloc (by simp) _;unfold Vj;generalize x.num*y.num=u at *;generalize(x.den:Int)*(y.den:Int)=v at *;generalize bs (cM x.num)=N1 at *;generalize bs (cM (x.den:Int))=D1 at *;generalize bs (cM y.num)=N2 at *;generalize bs (cM (y.den:Int))=D2 at *;clear hz tb hE hx hy;by_cases ok1:tS u=true
 ·rw[Dq ok1]at H1;by_cases ok2:tS v=true
  ·rw[Dq ok2]at H2;have HN2:=zq (HN.out ok1 ok2);have R:=zq (Yes.out ok1 ok2);clear HN Yes No ok1 ok2;go_enter Jk,Rc;go_wp2_with fail
   refine ka (H1.out _ Bx.out) fun W1 hb1=>?_;obtain⟨hB,p1,p2⟩:=Tb.out _ hb1;have c1:=p1.ce 1;have c2:=p2.ce 1;have l1:=p1.lt;have l2:=p2.lt;clear p1 p2 hb1 Tb;go_wp2_with fail
   refine ka (H2.out _ hB) fun W2 hb2=>?_;have gJ:=aR hB hb2 hB.size;go_wp2_with fail
   refine ka (HN2.out _ gJ) fun W3 hb3=>?_;go_wp2;go_ret2;exact⟨by rw[R.out];rfl,aR gJ hb3 gJ.size⟩
  ·have Wl:tS v=false:=by simpa using ok2
   rw[Dt Wl]at H2;have R:=zq (No.out (by rw[Wl,Bool.and_false]));clear HN Yes No ok1 ok2 Wl;go_enter Jk,Rc;go_wp2_with fail
   refine ka (H1.out _ Bx.out) fun W1 hb1=>?_;obtain⟨hB,p1,p2⟩:=Tb.out _ hb1;have c1:=p1.ce 1;have c2:=p2.ce 1;have l1:=p1.lt;have l2:=p2.lt;clear p1 p2 hb1 Tb;go_wp2_with fail
   refine ka (H2.out _ hB) fun W2 hb2=>?_;go_wp2;go_ret2;exact⟨by rw[R.out];rfl,aR hB hb2 hB.size⟩
 ·have Wm:tS u=false:=by simpa using ok1
  rw[Dt Wm]at H1;have R:=zq (No.out (by rw[Wm,mH]));clear HN Yes No ok1 Wm;go_enter Jk,Rc;go_wp2_with fail
  refine ka (H1.out _ Bx.out) fun W1 hb1=>?_;have hB:=(Tb.out _ hb1).1;go_wp2;go_ret2;exact⟨by rw[R.out];rfl,hB⟩
def LA(x y:Rat):List UInt8×Int:=if y=0 then([],12)else divT x y
theorem re(x y:Rat)(w:aF)(hE:iM w)(hx:HQ 300 x)(hy:HQ 300 y):
 aW aC 333 #[Vj x,Vj y] w (Rt (cC #[aA (bs (LA x y).1),aD aE (LA x y).2]) w):=by
 have hz:((bs (cM y.num)).toList==[48])=decide (y.num=0):=by rw[CG];exact Ef y.num
 have Bx:bH (Below w.heap.size w ((w.alloc (aJ #[aA (bs (cM x.num)),aA (bs (cM (x.den:Int)))] 272)).alloc (aJ #[aA (bs (cM y.num)),aA (bs (cM (y.den:Int)))] 272))):=((aH _ w).alloc (aG _) _).alloc (by simp) _;have HC:=zq (fun(W:aF)(hb:Below w.heap.size w W)=>CJ x y W (hE.below hb) hx hy);have HN:=zq (fun(h0:y.num≠0)(a1:tS (x.num*y.den)=true)(a2:tS (y.num*x.den)=true)(W:aF)(hb:Below w.heap.size w W)=>Bt (x.num*y.den) (y.num*x.den) W (hE.below hb) (of_decide_eq_true a1) (of_decide_eq_true a2) (xA h0 (by have:=x.den_nz;omega)));rw[SG,Lb]at HN;clear hE hx hy;by_cases h0:y.num=0
 ·have R:bH (LA x y=([],12)):=ip (Rat.num_eq_zero.1 h0);rw[decide_eq_true h0]at hz;clear h0 HC HN;unfold Vj;generalize bs (cM x.num)=N1 at *;generalize bs (cM (x.den:Int))=D1 at *;generalize bs (cM y.num)=N2 at *;generalize bs (cM (y.den:Int))=D2 at *;go_enter UX,ntmps333;go_wp2;go_ret2;exact⟨by rw[R.out];rfl,Bx.out⟩
 ·have R:LA x y=divT x y:=iN (mt Rat.num_eq_zero.2 h0);have Yes:bH (tS (x.num*y.den)=true→tS (y.num*x.den)=true→LA x y=(bJ (x/y),0)):=by
   intro p q;rw[R,divT,kQ,p,q];rfl
  have No:bH ((tS (x.num*y.den)&&tS (y.num*x.den))=false→LA x y=([],4)):=by
   intro p;rw[R,divT,kQ,p];rfl
  rw[decide_eq_false h0]at hz;have HN2:=zq (HN.out h0);clear h0 R HN;unfold Vj at *;generalize bs (cM x.num)=N1 at *;generalize bs (cM (x.den:Int))=D1 at *;generalize bs (cM y.num)=N2 at *;generalize bs (cM (y.den:Int))=D2 at *;go_enter UX,ntmps333;go_wp2_with fail
  refine(HC.out _ Bx.out).mono ?_;rintro e W1⟨⟨A,B,k,rfl,(⟨a1,a2,rfl,rfl,rfl⟩|⟨a1,rfl⟩)⟩,hb1⟩
  ·have hB:=aR Bx.out hb1 (by simp;omega);go_wp2_with fail
   refine ka (HN2.out a1 a2 _ hB) fun W2 hb2=>?_;go_wp2;go_ret2;exact⟨by rw[Yes.out a1 a2];rfl,aR hB hb2 hB.size⟩
  ·have hB:=aR Bx.out hb1 (by simp;omega);go_wp2;go_ret2;exact⟨by rw[No.out (by rcases a1 with a1|a1<;>simp[a1])];rfl,hB⟩
def DN(op:Int→Int→Int)(x y:Rat):List UInt8×Int:=
 if(kQ x y&&tS (op (x.num*y.den) (y.num*x.den))&&tS ((x.den:Int)*y.den))=true then(bJ (mkRat (op (x.num*y.den) (y.num*x.den)) (x.den*y.den)),0)else([],4)
theorem rh(x y:Rat):DN (·+·) x y=ZM x y:=by
 unfold DN ZM NY;simp only[Iw]
theorem ri(x y:Rat):DN (·-·) x y=if K7 x y=true then(bJ (x-y),0)else([],4):=by
 unfold DN K7;simp only[Iy]
theorem Gv(h:FI)(w:aF):
 aW aC 322 #[.func (.func h) #[] #[]] w fun e w'=>e=aQ (.func (.func 353) #[] #[bA (some ⟨w.heap.size,0,none⟩)])∧w'=w.alloc (aJ #[.func (.func h) #[] #[]] 108):=by
 go_enter func322,ntmps322;go_wp2;go_ret;exact⟨rfl,rfl⟩
theorem ag(n:Int)(x y:Rat):mkRat (EU n ((x.den:Int)*y.den)) ((x.den:Int)*y.den).natAbs=mkRat n (x.den*y.den):=by
 have h1:(0:Int)≤(x.den:Int)*y.den:=A9 (by omega) (by omega);rw[EU,iN (by omega)];congr 1
theorem SZ(op:Int→Int→Int)(h:FI)(B:Nat)(x y:Rat)(w:aF)(hE:iM w)(hx:HQ 300 x)(hy:HQ 300 y)
 (eg:∀args w,(uQ h args).run aC w=.ok (.enter h args) w)(hc:w.cell? ⟨B,0,none⟩=some (.func (.func h) #[] #[]))
 (HM:∀(u v:Int)(W:aF),iM W→u.natAbs<10^300→v.natAbs<10^300→aW aC h #[aA (bs (cM u)),aA (bs (cM v))] W (Rt (cC #[aA (bs (nL (op u v)).1),aD aE (nL (op u v)).2]) W)):
 aW aC 353 #[Vj x,Vj y,bA (some ⟨B,0,none⟩)] w (Rt (cC #[aA (bs (DN op x y).1),aD aE (DN op x y).2]) w):=by
 have hBl:=bG w _ hc;have hcW:=zq (fun(W:aF)(hb:Below w.heap.size w W)=>(hb.cell (p:=⟨B,0,none⟩) hBl).trans hc);have Bx:bH (Below w.heap.size w ((w.alloc (aJ #[aA (bs (cM x.num)),aA (bs (cM (x.den:Int)))] 272)).alloc (aJ #[aA (bs (cM y.num)),aA (bs (cM (y.den:Int)))] 272))):=((aH _ w).alloc (aG _) _).alloc (by simp) _;have HC:=zq (fun(W:aF)(hb:Below w.heap.size w W)=>CJ x y W (hE.below hb) hx hy);have HU:=zq (fun(a1:tS (x.num*y.den)=true)(a2:tS (y.num*x.den)=true)(W:aF)(hb:Below w.heap.size w W)=>HM (x.num*y.den) (y.num*x.den) W (hE.below hb) (of_decide_eq_true a1) (of_decide_eq_true a2));have H2:=zq (fun(W:aF)(hb:Below w.heap.size w W)=>Ar x.den y.den W (hE.below hb) hx.d hy.d);have hz:(x.den:Int)*y.den≠0:=by rw[←lI];have:=Gc x y;omega
 have HN:=zq (fun(a1:tS (op (x.num*y.den) (y.num*x.den))=true)(a2:tS ((x.den:Int)*y.den)=true)(W:aF)(hb:Below w.heap.size w W)=>Bt (op (x.num*y.den) (y.num*x.den)) ((x.den:Int)*y.den) W (hE.below hb) (of_decide_eq_true a1) (of_decide_eq_true a2) hz);rw[ag]at HN;have Yes:bH (tS (x.num*y.den)=true→tS (y.num*x.den)=true→tS (op (x.num*y.den) (y.num*x.den))=true→tS ((x.den:Int)*y.den)=true→DN op x y=(bJ (mkRat (op (x.num*y.den) (y.num*x.den)) (x.den*y.den)),0)):=by
  intro a b c d;rw[DN,kQ,a,b,c,d];rfl
 have No:bH ((tS (x.num*y.den)&&tS (y.num*x.den)&&tS (op (x.num*y.den) (y.num*x.den))&&tS ((x.den:Int)*y.den))=false→DN op x y=([],4)):=by
  intro a;rw[DN,kQ,a];rfl
 have tb:= @Oh w;have Tb:=zq (fun(W1:aF)=>tb (W1:=W1) (N1:=bs (cM x.num)) (D1:=bs (cM (x.den:Int))) (N2:=bs (cM y.num)) (D2:=bs (cM (y.den:Int))));clear hE hx hy hc HM hz tb hBl;unfold Vj at *;generalize bs (cM x.num)=N1 at *;generalize bs (cM (x.den:Int))=D1 at *;generalize bs (cM y.num)=N2 at *;generalize bs (cM (y.den:Int))=D2 at *;go_enter UY,ntmps353;go_wp2_with fail
 refine(HC.out _ Bx.out).mono ?_;rintro e W1⟨⟨A,C,k,rfl,(⟨a1,a2,rfl,rfl,rfl⟩|⟨a1,rfl⟩)⟩,hb1⟩
 ·obtain⟨hB,p1,p2⟩:=Tb.out _ hb1;have rP:=hcW.out _ hB;clear hb1 Tb HC Bx;go_wp2_with fail
  refine(HU.out a1 a2 _ hB).mono ?_;by_cases a3:tS (op (x.num*y.den) (y.num*x.den))=true
  ·rw[Dq a3];rintro e W2⟨rfl,hb2⟩;have p1:=p1.below hb2 p1.lt;have p2:=p2.below hb2 p2.lt;have gJ:=aR hB hb2 hB.size;have c1:=p1.cell 1;have c2:=p2.cell 1;have l1:=p1.lt;have l2:=p2.lt;simp only[aL,aI,bM]at c1 c2;clear p1 p2 hb2 HU rP;go_wp2_with fail
   refine(H2.out _ gJ).mono ?_;by_cases a4:tS ((x.den:Int)*y.den)=true
   ·rw[Dq a4];rintro e W3⟨rfl,hb3⟩;have kY:=aR gJ hb3 gJ.size;go_wp2_with fail
    refine(HN.out a3 a4 _ kY).mono ?_;rintro e W4⟨rfl,hb4⟩;go_wp2;go_ret2;exact⟨by rw[Yes.out a1 a2 a3 a4];rfl,aR kY hb4 kY.size⟩
   ·rw[Dt (by simpa using a4)];rintro e W3⟨rfl,hb3⟩;go_wp2;go_ret2;exact⟨by rw[No.out (by simp[a4])];rfl,aR gJ hb3 gJ.size⟩
  ·rw[Dt (by simpa using a3)];rintro e W2⟨rfl,hb2⟩;go_wp2;go_ret2;exact⟨by rw[No.out (by simp[a3])];rfl,aR hB hb2 hB.size⟩
 ·have hB:=(Tb.out _ hb1).1;go_wp2;go_ret2;exact⟨by rw[No.out (by rcases a1 with a1|a1<;>simp[a1])];rfl,hB⟩
theorem kA{s:List UInt8}(h:nB s=true):eH s=0∧HQ 8 (dD s)∧(dD s).num=qN s∧(dD s).den=qD s:=by
 unfold nB sh8 at h;rw[bK,bK,decide_eq_true_eq,decide_eq_true_eq,decide_eq_true_eq]at h;obtain⟨h0,h1,h2⟩:=h;obtain⟨e1,e2⟩:=rF h0;obtain⟨k1,k2⟩:=jV (pL h0).1;refine⟨h0,⟨?_,?_⟩,e1,e2⟩
 ·rw[e1,qN,mC];exact bL (nZ _ (nM k1)) (bO (by decide) h1)
 ·rw[e2];unfold qD;split
  ·exact bL (nZ _ (jY (k2 ‹_›).1)) (bO (by decide) h2)
  ·exact bL (by decide:1<10^1) (bO (by decide) (by decide))
theorem Au{s t:List UInt8}(h1:nB s=true)(h2:nB t=true):gC s t=0:=by
 rw[gC,ip (kA h1).1];exact(kA h2).1
theorem Gw{s t:List UInt8}(h:¬(nB s=true∧nB t=true)):nB s=false∨nB t=false:=by
 revert h;cases nB s<;>cases nB t<;>simp
theorem rj{a:ByteArray}(h:a.size≤8000000):a.size≤dL:=by unfold dL;omega
theorem ah(x y:Int)(w:aF)(hE:iM w)(hx:x.natAbs<10^300)(hy:y.natAbs<10^300):
 aW aC 323 #[aA (bs (cM x)),aA (bs (cM y))] w (Rt (cC #[aA (bs (nL (x+y)).1),aD aE (nL (x+y)).2]) w):=by
 have:=int_Add (bs (cM x)) (bs (cM y)) w hE (by have:=iU hx;simp only[dL];omega) (by have:=iU hy;simp only[dL];omega);rwa[bP,bP,ZH hx hy]at this
theorem ai(x y:Int)(w:aF)(hE:iM w)(hx:x.natAbs<10^300)(hy:y.natAbs<10^300):
 aW aC 327 #[aA (bs (cM x)),aA (bs (cM y))] w (Rt (cC #[aA (bs (nL (x-y)).1),aD aE (nL (x-y)).2]) w):=by
 have:=int_Sub (bs (cM x)) (bs (cM y)) w hE (by have:=iU hx;simp only[dL];omega) (by have:=iU hy;simp only[dL];omega);rw[bP,bP,VJ,ip (by rw[fX,ip (uJ hx)];exact uJ hy),iT,iT]at this;exact this
theorem rat_Add(a b:ByteArray)(w:aF)(hE:iM w)(ha:a.size≤8000000)(hb:b.size≤8000000):
 aW aC 289 #[aA a,aA b] w (Rt (cC #[aA (bs (K8 a.data.toList b.data.toList).1),aD aE (K8 a.data.toList b.data.toList).2]) w):=by
 by_cases hq:nB a.data.toList=true∧nB b.data.toList=true
 ·obtain⟨-,k1,n1,d1⟩:=kA hq.1;obtain⟨-,k2,n2,d2⟩:=kA hq.2;have R:bH (K8 a.data.toList b.data.toList=(bJ (dD a.data.toList+dD b.data.toList),0)):=by
   show _=_;rw[K8,ip (Au hq.1 hq.2),ip (Sq k1 k2 (by decide))]
  rw[←Iw,n1,d1,n2,d2]at R;have m1:=k1.1;have m2:=k1.2;have m3:=k2.1;have m4:=k2.2;rw[n1]at m1;rw[d1]at m2;rw[n2]at m3;rw[d2]at m4;have z1:qD a.data.toList≠0:=by rw[←d1];exact zK _
  have z2:qD b.data.toList≠0:=by rw[←d2];exact zK _
  clear k1 k2 n1 d1 n2 d2;have HM:=fun W=>qq (qN a.data.toList) (qD a.data.toList) (qN b.data.toList) (qD b.data.toList) W m1 (by rw[cA];exact m2) m3 (by rw[cA];exact m4);have p0:=yG (b:=(qD b.data.toList:Int)) m1 (by rw[cA];exact m4);have p1:=yG (b:=(qD a.data.toList:Int)) m3 (by rw[cA];exact m2);have p2:=yG (a:=(qD a.data.toList:Int)) (b:=(qD b.data.toList:Int)) (by rw[cA];exact m2) (by rw[cA];exact m4);have z3:(qD a.data.toList:Int)*(qD b.data.toList:Int)≠0:=xA (by omega) (by omega);have hp:(0:Int)≤(qD a.data.toList:Int)*(qD b.data.toList:Int):=A9 (by omega) (by omega);have HQ:=zq (uY a b 320 _ _ w hE ha hb hq.1 hq.2 (nH func320 (by kernel_rfl) rfl) (by omega) (by omega) z3 HM);rw[EU,iN (by omega),show((qD a.data.toList:Int)*(qD b.data.toList:Int)).natAbs=qD a.data.toList*qD b.data.toList from rfl]at HQ;clear HM p0 p1 p2 z3 hp z1 z2 m1 m2 m3 m4 hq hE;generalize bJ (mkRat (qN a.data.toList*(qD b.data.toList:Int)+qN b.data.toList*(qD a.data.toList:Int)) (qD a.data.toList*qD b.data.toList))=T at *;go_enter UZ,Re;go_wp2_with fail
  refine HQ.out.mono ?_;rintro e W1⟨rfl,hb1⟩;go_wp2;go_ret2;exact⟨by rw[R.out];rfl,hb1⟩
 ·have HQ:=zq (wK a b (.func (.func 320) #[] #[]) w ha hb (Gw hq));have HC:=zq (fun W=>Gv 323 W);by_cases h:gC a.data.toList b.data.toList=0
  ·have e:=ZN h;rw[←rh]at e;obtain⟨ga,gb⟩:=uG h;have hx:=(nX ga).2;have hy:=(nX gb).2;have HB:=zq (fun(W:aF)(hW:Below w.heap.size w W)=>zC a b 353 #[bA (some ⟨W.heap.size,0,none⟩)] (bs (DN (·+·) (dD a.data.toList) (dD b.data.toList)).1) (DN (·+·) (dD a.data.toList) (dD b.data.toList)).2 (W.alloc (aJ #[.func (.func 323) #[] #[]] 108)) ((hE.below hW).below ((aH _ W).alloc (aG _) _)) ha hb h (nH UY (by kernel_rfl) rfl)
    (fun V hV=>SZ (·+·) 323 W.heap.size (dD a.data.toList) (dD b.data.toList) V (((hE.below hW).below ((aH _ W).alloc (aG _) _)).below hV) hx hy (nH func323 (by kernel_rfl) rfl)
     ((hV.cell (p:=⟨W.heap.size,0,none⟩) (by simp)).trans ((bT.new W _ _).cell 0)) (fun u v U hU h1 h2=>ah u v U hU h1 h2)))
   have R:=zq e;clear e ga gb hx hy h hq hE ha hb;generalize DN (·+·) (dD a.data.toList) (dD b.data.toList)=T at *;go_enter UZ,Re;go_wp2_with fail
   refine HQ.out.mono ?_;rintro e W1⟨rfl,hb1⟩;go_wp2_with fail
   refine(HC.out _).mono ?_;rintro e W2⟨rfl,rfl⟩;go_wp2_with fail
   refine(HB.out _ hb1).mono ?_;rintro e W3⟨rfl,hb3⟩;go_wp2;go_ret2;exact⟨by rw[R.out];rfl,aR (hb1.alloc hb1.size _) hb3 (by simp;exact dM hb1.size)⟩
  ·have R:bH (K8 a.data.toList b.data.toList=([],gC a.data.toList b.data.toList)):=iN h;have HB:=zq (fun(f:aS)(W:aF)(hW:Below w.heap.size w W)=>wL a b f W (hE.below hW) ha hb h);clear h hq hE ha hb;generalize gC a.data.toList b.data.toList=c at *;go_enter UZ,Re;go_wp2_with fail
   refine HQ.out.mono ?_;rintro e W1⟨rfl,hb1⟩;go_wp2_with fail
   refine(HC.out _).mono ?_;rintro e W2⟨rfl,rfl⟩;go_wp2_with fail
   refine(HB.out _ _ (hb1.alloc hb1.size _)).mono ?_;rintro e W3⟨rfl,hb3⟩;go_wp2;go_ret2;exact⟨by rw[R.out];rfl,aR (hb1.alloc hb1.size _) hb3 (by simp;exact dM hb1.size)⟩
theorem rat_Sub(a b:ByteArray)(w:aF)(hE:iM w)(ha:a.size≤8000000)(hb:b.size≤8000000):
 aW aC 291 #[aA a,aA b] w (Rt (cC #[aA (bs (K9 a.data.toList b.data.toList).1),aD aE (K9 a.data.toList b.data.toList).2]) w):=by
 by_cases hq:nB a.data.toList=true∧nB b.data.toList=true
 ·obtain⟨-,k1,n1,d1⟩:=kA hq.1;obtain⟨-,k2,n2,d2⟩:=kA hq.2;have R:bH (K9 a.data.toList b.data.toList=(bJ (dD a.data.toList-dD b.data.toList),0)):=by
   show _=_;rw[K9,ip (Au hq.1 hq.2),ip (Sr k1 k2 (by decide))]
  rw[←Iy,n1,d1,n2,d2]at R;have m1:=k1.1;have m2:=k1.2;have m3:=k2.1;have m4:=k2.2;rw[n1]at m1;rw[d1]at m2;rw[n2]at m3;rw[d2]at m4;have z1:qD a.data.toList≠0:=by rw[←d1];exact zK _
  have z2:qD b.data.toList≠0:=by rw[←d2];exact zK _
  clear k1 k2 n1 d1 n2 d2;have HM:=fun W=>qr (qN a.data.toList) (qD a.data.toList) (qN b.data.toList) (qD b.data.toList) W m1 (by rw[cA];exact m2) m3 (by rw[cA];exact m4);have p0:=yG (b:=(qD b.data.toList:Int)) m1 (by rw[cA];exact m4);have p1:=yG (b:=(qD a.data.toList:Int)) m3 (by rw[cA];exact m2);have p2:=yG (a:=(qD a.data.toList:Int)) (b:=(qD b.data.toList:Int)) (by rw[cA];exact m2) (by rw[cA];exact m4);have z3:(qD a.data.toList:Int)*(qD b.data.toList:Int)≠0:=xA (by omega) (by omega);have hp:(0:Int)≤(qD a.data.toList:Int)*(qD b.data.toList:Int):=A9 (by omega) (by omega);have HQ:=zq (uY a b 326 _ _ w hE ha hb hq.1 hq.2 (nH func326 (by kernel_rfl) rfl) (by omega) (by omega) z3 HM);rw[EU,iN (by omega),show((qD a.data.toList:Int)*(qD b.data.toList:Int)).natAbs=qD a.data.toList*qD b.data.toList from rfl]at HQ;clear HM p0 p1 p2 z3 hp z1 z2 m1 m2 m3 m4 hq hE;generalize bJ (mkRat (qN a.data.toList*(qD b.data.toList:Int)-qN b.data.toList*(qD a.data.toList:Int)) (qD a.data.toList*qD b.data.toList))=T at *;go_enter U3,Rh;go_wp2_with fail
  refine HQ.out.mono ?_;rintro e W1⟨rfl,hb1⟩;go_wp2;go_ret2;exact⟨by rw[R.out];rfl,hb1⟩
 ·have HQ:=zq (wK a b (.func (.func 326) #[] #[]) w ha hb (Gw hq));have HC:=zq (fun W=>Gv 327 W);by_cases h:gC a.data.toList b.data.toList=0
  ·have e:=ZO h;rw[SD,←ri]at e;obtain⟨ga,gb⟩:=uG h;have hx:=(nX ga).2;have hy:=(nX gb).2;have HB:=zq (fun(W:aF)(hW:Below w.heap.size w W)=>zC a b 353 #[bA (some ⟨W.heap.size,0,none⟩)] (bs (DN (·-·) (dD a.data.toList) (dD b.data.toList)).1) (DN (·-·) (dD a.data.toList) (dD b.data.toList)).2 (W.alloc (aJ #[.func (.func 327) #[] #[]] 108)) ((hE.below hW).below ((aH _ W).alloc (aG _) _)) ha hb h (nH UY (by kernel_rfl) rfl)
    (fun V hV=>SZ (·-·) 327 W.heap.size (dD a.data.toList) (dD b.data.toList) V (((hE.below hW).below ((aH _ W).alloc (aG _) _)).below hV) hx hy (nH func327 (by kernel_rfl) rfl)
     ((hV.cell (p:=⟨W.heap.size,0,none⟩) (by simp)).trans ((bT.new W _ _).cell 0)) (fun u v U hU h1 h2=>ai u v U hU h1 h2)))
   have R:=zq e;clear e ga gb hx hy h hq hE ha hb;generalize DN (·-·) (dD a.data.toList) (dD b.data.toList)=T at *;go_enter U3,Rh;go_wp2_with fail
   refine HQ.out.mono ?_;rintro e W1⟨rfl,hb1⟩;go_wp2_with fail
   refine(HC.out _).mono ?_;rintro e W2⟨rfl,rfl⟩;go_wp2_with fail
   refine(HB.out _ hb1).mono ?_;rintro e W3⟨rfl,hb3⟩;go_wp2;go_ret2;exact⟨by rw[R.out];rfl,aR (hb1.alloc hb1.size _) hb3 (by simp;exact dM hb1.size)⟩
  ·have R:bH (K9 a.data.toList b.data.toList=([],gC a.data.toList b.data.toList)):=iN h;have HB:=zq (fun(f:aS)(W:aF)(hW:Below w.heap.size w W)=>wL a b f W (hE.below hW) ha hb h);clear h hq hE ha hb;generalize gC a.data.toList b.data.toList=c at *;go_enter U3,Rh;go_wp2_with fail
   refine HQ.out.mono ?_;rintro e W1⟨rfl,hb1⟩;go_wp2_with fail
   refine(HC.out _).mono ?_;rintro e W2⟨rfl,rfl⟩;go_wp2_with fail
   refine(HB.out _ _ (hb1.alloc hb1.size _)).mono ?_;rintro e W3⟨rfl,hb3⟩;go_wp2;go_ret2;exact⟨by rw[R.out];rfl,aR (hb1.alloc hb1.size _) hb3 (by simp;exact dM hb1.size)⟩
theorem rat_Mul(a b:ByteArray)(w:aF)(hE:iM w)(ha:a.size≤8000000)(hb:b.size≤8000000):
 aW aC 290 #[aA a,aA b] w (Rt (cC #[aA (bs (La a.data.toList b.data.toList).1),aD aE (La a.data.toList b.data.toList).2]) w):=by
 by_cases hq:nB a.data.toList=true∧nB b.data.toList=true
 ·obtain⟨-,k1,n1,d1⟩:=kA hq.1;obtain⟨-,k2,n2,d2⟩:=kA hq.2;have R:bH (La a.data.toList b.data.toList=(bJ (dD a.data.toList*dD b.data.toList),0)):=by
   show _=_;rw[La,ip (Au hq.1 hq.2),ip (Ss k1 k2 (by decide))]
  rw[←Iz,n1,d1,n2,d2]at R;have m1:=k1.1;have m2:=k1.2;have m3:=k2.1;have m4:=k2.2;rw[n1]at m1;rw[d1]at m2;rw[n2]at m3;rw[d2]at m4;have z1:qD a.data.toList≠0:=by rw[←d1];exact zK _
  have z2:qD b.data.toList≠0:=by rw[←d2];exact zK _
  clear k1 k2 n1 d1 n2 d2;have HM:=fun W=>qu (qN a.data.toList) (qD a.data.toList) (qN b.data.toList) (qD b.data.toList) W m1 (by rw[cA];exact m2) m3 (by rw[cA];exact m4);have p0:=yG m1 m3;have p2:=yG (a:=(qD a.data.toList:Int)) (b:=(qD b.data.toList:Int)) (by rw[cA];exact m2) (by rw[cA];exact m4);have z3:(qD a.data.toList:Int)*(qD b.data.toList:Int)≠0:=xA (by omega) (by omega);have hp:(0:Int)≤(qD a.data.toList:Int)*(qD b.data.toList:Int):=A9 (by omega) (by omega);have HQ:=zq (uY a b 324 _ _ w hE ha hb hq.1 hq.2 (nH func324 (by kernel_rfl) rfl) (by omega) (by omega) z3 HM);rw[EU,iN (by omega),show((qD a.data.toList:Int)*(qD b.data.toList:Int)).natAbs=qD a.data.toList*qD b.data.toList from rfl]at HQ;clear HM p0 p2 z3 hp z1 z2 m1 m2 m3 m4 hq hE;generalize bJ (mkRat (qN a.data.toList*qN b.data.toList) (qD a.data.toList*qD b.data.toList))=T at *;go_enter U4,Ri;go_wp2_with fail
  refine HQ.out.mono ?_;rintro e W1⟨rfl,hb1⟩;go_wp2;go_ret2;exact⟨by rw[R.out];rfl,hb1⟩
 ·have HQ:=zq (wK a b (.func (.func 324) #[] #[]) w ha hb (Gw hq));by_cases h:gC a.data.toList b.data.toList=0
  ·have e:=ZP h;obtain⟨ga,gb⟩:=uG h;have hx:=(nX ga).2;have hy:=(nX gb).2;have HB:=zq (fun(W:aF)(hW:Below w.heap.size w W)=>zC a b 325 #[] (bs (Nf (dD a.data.toList) (dD b.data.toList)).1) (Nf (dD a.data.toList) (dD b.data.toList)).2 W (hE.below hW) ha hb h (nH Jk (by kernel_rfl) rfl)
    (fun V hV=>qz (dD a.data.toList) (dD b.data.toList) V ((hE.below hW).below hV) hx hy))
   have R:=zq e;clear e ga gb hx hy h hq hE ha hb;generalize Nf (dD a.data.toList) (dD b.data.toList)=T at *;go_enter U4,Ri;go_wp2_with fail
   refine HQ.out.mono ?_;rintro e W1⟨rfl,hb1⟩;go_wp2_with fail
   refine(HB.out _ hb1).mono ?_;rintro e W3⟨rfl,hb3⟩;go_wp2;go_ret2;exact⟨by rw[R.out];rfl,aR hb1 hb3 hb1.size⟩
  ·have R:bH (La a.data.toList b.data.toList=([],gC a.data.toList b.data.toList)):=iN h;have HB:=zq (fun(f:aS)(W:aF)(hW:Below w.heap.size w W)=>wL a b f W (hE.below hW) ha hb h);clear h hq hE ha hb;generalize gC a.data.toList b.data.toList=c at *;go_enter U4,Ri;go_wp2_with fail
   refine HQ.out.mono ?_;rintro e W1⟨rfl,hb1⟩;go_wp2_with fail
   refine(HB.out _ _ hb1).mono ?_;rintro e W3⟨rfl,hb3⟩;go_wp2;go_ret2;exact⟨by rw[R.out];rfl,aR hb1 hb3 hb1.size⟩
theorem Nv{s:List UInt8}(h:eH s=0):(s==[48])=decide (dD s=0):=by
 have e:=Nd (dD s);rw[Iv h]at e;rw[e];exact decide_eq_decide.2 Rat.num_eq_zero
theorem divQ_T0{s t:List UInt8}(h:gC s t=0):Cz s t=LA (dD s) (dD t):=by
 rw[Cz,ip h];rfl
theorem rat_Div(a b:ByteArray)(w:aF)(hE:iM w)(ha:a.size≤8000000)(hb:b.size≤8000000):
 aW aC 304 #[aA a,aA b] w (Rt (cC #[aA (bs (Cz a.data.toList b.data.toList).1),aD aE (Cz a.data.toList b.data.toList).2]) w):=by
 have hs:(b.toList==[48])=(b.data.toList==[48]):=by rw[cJ]
 have hBok:gC a.data.toList b.data.toList=0→bH (∀(W:aF)(hW:Below w.heap.size w W),aW aC 321 #[aA a,aA b,.func (.func 333) #[] #[]] W (Rt (cC #[aA (bs (Cz a.data.toList b.data.toList).1),aD aE (Cz a.data.toList b.data.toList).2]) W)):=by
  intro h W hW;obtain⟨ga,gb⟩:=uG h;have hx:=(nX ga).2;have hy:=(nX gb).2;rw[divQ_T0 h];exact zC a b 333 #[] _ _ W (hE.below hW) ha hb h (nH UX (by kernel_rfl) rfl) (fun V hV=>re (dD a.data.toList) (dD b.data.toList) V ((hE.below hW).below hV) hx hy)
 have HB:bH (∀(W:aF)(hW:Below w.heap.size w W),aW aC 321 #[aA a,aA b,.func (.func 333) #[] #[]] W (Rt (cC #[aA (bs (Cz a.data.toList b.data.toList).1),aD aE (Cz a.data.toList b.data.toList).2]) W)):=by
  by_cases h:gC a.data.toList b.data.toList=0
  ·exact hBok h
  ·intro W hW;rw[show Cz a.data.toList b.data.toList=([],gC a.data.toList b.data.toList)from iN h];exact wL a b _ W (hE.below hW) ha hb h
 clear hBok;by_cases h48:(b.data.toList==[48])=true
 ·rw[h48]at hs;clear h48 hE ha hb;generalize Cz a.data.toList b.data.toList=T at *;go_enter U5,Rj;go_wp2_with fail
  refine(HB.out _ (aH _ w)).mono ?_;rintro e W3⟨rfl,hb3⟩;go_wp2;go_ret2;exact⟨rfl,hb3⟩
 ·have h48:(b.data.toList==[48])=false:=by simpa using h48
  rw[h48]at hs;by_cases hq:nB a.data.toList=true∧nB b.data.toList=true
  ·obtain⟨-,k1,n1,d1⟩:=kA hq.1;obtain⟨gb,k2,n2,d2⟩:=kA hq.2;have hy0:dD b.data.toList≠0:=by
    intro e;have:=Nv gb;rw[h48,e]at this;simp at this
   have PQ:(dD b.data.toList).num≠0:=mt Rat.num_eq_zero.1 hy0;have R:bH (Cz a.data.toList b.data.toList=(bJ (dD a.data.toList/dD b.data.toList),0)):=by
    show _=_;rw[Cz,ip (Au hq.1 hq.2),iN hy0,ip (uH k1 k2 (by decide))]
   rw[←Lb,←SG,n1,d1,n2,d2,Int.mul_comm (qN b.data.toList)]at R;have m1:=k1.1;have m2:=k1.2;have m3:=k2.1;have m4:=k2.2;rw[n1]at m1;rw[d1]at m2;rw[n2]at m3 PQ;rw[d2]at m4;have z1:qD a.data.toList≠0:=by rw[←d1];exact zK _
   clear k1 k2 n1 d1 n2 d2 hy0 gb h48;have HM:=fun W=>qw (qN a.data.toList) (qD a.data.toList) (qN b.data.toList) (qD b.data.toList) W m1 (by rw[cA];exact m2) m3 (by rw[cA];exact m4);have p0:=yG (b:=(qD b.data.toList:Int)) m1 (by rw[cA];exact m4);have p2:=yG (a:=(qD a.data.toList:Int)) (by rw[cA];exact m2) m3;have z3:(qD a.data.toList:Int)*qN b.data.toList≠0:=xA (by omega) PQ;have HQ:=zq (uY a b 332 _ _ w hE ha hb hq.1 hq.2 (nH func332 (by kernel_rfl) rfl) (by omega) (by omega) z3 HM);clear HM p0 p2 z3 PQ z1 m1 m2 m3 m4 hq hE HB;generalize bJ (mkRat (EU (qN a.data.toList*(qD b.data.toList:Int)) ((qD a.data.toList:Int)*qN b.data.toList)) ((qD a.data.toList:Int)*qN b.data.toList).natAbs)=T at *;go_enter U5,Rj;go_wp2_with fail
   refine HQ.out.mono ?_;rintro e W1⟨rfl,hb1⟩;go_wp2;go_ret2;exact⟨by rw[R.out];rfl,hb1⟩
  ·have HQ:=zq (wK a b (.func (.func 332) #[] #[]) w ha hb (Gw hq));clear hE ha hb hq h48;generalize Cz a.data.toList b.data.toList=T at *;go_enter U5,Rj;go_wp2_with fail
   refine HQ.out.mono ?_;rintro e W1⟨rfl,hb1⟩;go_wp2_with fail
   refine(HB.out _ hb1).mono ?_;rintro e W3⟨rfl,hb3⟩;go_wp2;go_ret2;exact⟨rfl,aR hb1 hb3 hb1.size⟩
theorem LB(x y:Int):H7 x y=EF (x-y):=by
 unfold H7 EF;by_cases h:x<y
 ·rw[ip h,ip (by omega)]
 ·by_cases k:x>y
  ·rw[iN h,ip k,iN (by omega),ip (by omega)]
  ·rw[iN h,iN k,iN (by omega),iN (by omega)]
theorem Nw(x y:Int)(w:aF)(hx:x.natAbs<10^300)(hy:y.natAbs<10^300):
 aW aC 215 #[aA (bs (cM x)),aA (bs (cM y))] w (Rt (cC #[aD aE (EF (x-y)),aD aE 0]) w):=by
 have:=SY (bs (cM x)) (bs (cM y)) w (by have:=iU hx;simp only[dL];omega) (by have:=iU hy;simp only[dL];omega);rwa[bP,bP,ZI hx hy]at this
theorem JA(a b:ByteArray)(w:aF)(hE:iM w)(ha:a.size≤8000000)(hb:b.size≤8000000):
 aW aC 138 #[aA a,aA b] w (Rt (cC #[aD aE (iE a.data.toList b.data.toList).1,aD aE (iE a.data.toList b.data.toList).2]) w):=by
 by_cases hq:nB a.data.toList=true∧nB b.data.toList=true
 ·obtain⟨-,k1,n1,d1⟩:=kA hq.1;obtain⟨-,k2,n2,d2⟩:=kA hq.2;have R:bH (iE a.data.toList b.data.toList=(H7 (qN a.data.toList*qD b.data.toList) (qN b.data.toList*qD a.data.toList),0)):=by
   show _=_;rw[iE,ip (Au hq.1 hq.2),ip (uH k1 k2 (by decide)),Sp,LB,n1,d1,n2,d2]
  have m1:=k1.1;have m2:=k1.2;have m3:=k2.1;have m4:=k2.2;rw[n1]at m1;rw[d1]at m2;rw[n2]at m3;rw[d2]at m4;have HA:=zq (fun W=>nD a W ha hq.1);have HB:=zq (fun W=>nD b W hb hq.2);have HC:=zq (fun W=>Jr (qN a.data.toList*qD b.data.toList) (qN b.data.toList*qD a.data.toList) W);have p0:=yG (b:=(qD b.data.toList:Int)) m1 (by rw[cA];exact m4);have p1:=yG (b:=(qD a.data.toList:Int)) m3 (by rw[cA];exact m2);have w1:IntKind.i64.wrap (qN a.data.toList*(qD b.data.toList:Int))=qN a.data.toList*(qD b.data.toList:Int):=aX _ (by omega);have w2:IntKind.i64.wrap (qN b.data.toList*(qD a.data.toList:Int))=qN b.data.toList*(qD a.data.toList:Int):=aX _ (by omega);unfold iv at HA HB;clear k1 k2 n1 d1 n2 d2 m1 m2 m3 m4 p0 p1 hq hE ha hb;generalize qN a.data.toList=n1 at *;generalize qD a.data.toList=d1 at *;generalize qN b.data.toList=n2 at *;generalize qD b.data.toList=d2 at *;go_enter func138,ntmps138;go_wp2_with fail
  refine ka (HA.out _) fun W1 hb1=>?_;have hq1:bT (W1.alloc (aJ #[aD aE n1,aD aE d1] 268)) W1.heap.size #[aD aE n1,aD aE d1] 268:=bT.new W1 _ _;go_wp2_with fail
  refine ka (HB.out _) fun W2 hb2=>?_;have FA:=hb2.size;simp only[bB]at FA;have gJ:=aR (hb1.alloc hb1.size _) hb2 (by simp;exact dM hb1.size);have hq1:=(hq1.below hb2 (by simp));have c0:=hq1.ce 0;have c1:=hq1.ce 1;have hlt:=hq1.lt;go_wp2_with fail
  refine kr (HC.out _) ?_;go_wp2;go_ret2;exact⟨by rw[R.out];rfl,gJ.alloc gJ.size _⟩
 ·have HA:=zq (sR a);have HRA:=zq (fun(W:aF)(hW:Below w.heap.size w W)=>sR a W (hE.below hW) ha);have S6:=zq (fun(W:aF)(hW:Below w.heap.size w W)=>sR b W (hE.below hW) hb);clear HA;rw[Gr]at HRA S6;have HX:bH (gC a.data.toList b.data.toList=0→(∀(W:aF),Below w.heap.size w W→aW aC 214 #[cN #[aA (bs (rN a.data.toList)),aA (bs (rD a.data.toList))],cN #[aA (bs (rN b.data.toList)),aA (bs (rD b.data.toList))]] W fun e w'=>
   (∃A B c,e=aQ (cC #[aA A,aA B,aD aE c])∧((kQ (dD a.data.toList) (dD b.data.toList)=true∧(∀V,aW aC 215 #[aA A,aA B] V (Rt (cC #[aD aE (tG (dD a.data.toList) (dD b.data.toList)),aD aE 0]) V))∧c=0)∨(kQ (dD a.data.toList) (dD b.data.toList)=false∧c=4)))∧Below W.heap.size W w')):=by
   intro h W hW;obtain⟨ga,gb⟩:=uG h;rw[rN,ip ga,rD,ip ga,rN,ip gb,rD,ip gb,EO ga,EQ ga,EO gb,EQ gb];refine(CJ (dD a.data.toList) (dD b.data.toList) W (hE.below hW) (nX ga).2 (nX gb).2).mono ?_;rintro e w'⟨⟨A,B,c,rfl,(⟨h1,h2,rfl,rfl,rfl⟩|⟨h1,rfl⟩)⟩,hb⟩
   ·refine⟨⟨_,_,_,rfl,.inl ⟨by rw[kQ,h1,h2];rfl,fun V=>?_,rfl⟩⟩,hb⟩;rw[Sp];exact Nw _ _ V (of_decide_eq_true h1) (of_decide_eq_true h2)
   ·exact⟨⟨_,_,_,rfl,.inr ⟨by rw[kQ];rcases h1 with h1|h1<;>simp[h1],rfl⟩⟩,hb⟩
  have HN:bH ((nB a.data.toList=true∧nB b.data.toList=false)∨nB a.data.toList=false):=by
   show _∨_;revert hq;cases nB a.data.toList<;>cases nB b.data.toList<;>simp
  have NA:=zq (fun(h:nB a.data.toList=true)(W:aF)=>nD a W ha h);have NA2:=zq (fun(h:nB a.data.toList=false)(W:aF)=>uX a W ha h);have NB2:=zq (fun(h:nB b.data.toList=false)(W:aF)=>uX b W hb h);unfold iv at NA;clear hq hE ha hb;have R0:bH (∀c,c≠0→gC a.data.toList b.data.toList=c→iE a.data.toList b.data.toList=(0,c)):=by
   intro c h0 h;subst h;exact iN h0
  have R1:bH (gC a.data.toList b.data.toList=0→iE a.data.toList b.data.toList=Ng (dD a.data.toList) (dD b.data.toList)):=fun h=>ZQ h;generalize qN a.data.toList=n1 at *;generalize qD a.data.toList=d1 at *;have hc0:eH a.data.toList=0∨eH a.data.toList≠0:=by omega
  go_enter func138,ntmps138;rcases HN.out with⟨q1,q2⟩|q1
  ·have NA':=zq (NA.out q1);have NB':=zq (NB2.out q2);go_wp2_with fail
   refine ka (NA'.out _) fun W1 hb1=>?_;go_wp2_with fail
   refine ka (NB'.out _) fun W2 hb2=>?_;have gJ:=aR (hb1.alloc hb1.size _) hb2 (by simp;exact dM hb1.size);have fA:=gJ.alloc gJ.size (aJ #[aD aE 0,aD aE 0] 268);clear q1 q2 NA NA2 NB2 HN NA' NB' hb1 hb2 gJ;rcases hc0 with hc0|hc0
   ·have eb:gC a.data.toList b.data.toList=eH b.data.toList:=by rw[gC,ip hc0]
    rw[eb]at R0 R1 HX;rw[hc0]at HRA;by_cases hcb:eH b.data.toList=0
    ·have R:=zq (R1.out hcb);have HX2:=zq (HX.out hcb);rw[hcb]at S6;clear R0 R1 HX hcb eb hc0;generalize bs (rN a.data.toList)=N1 at *;generalize bs (rD a.data.toList)=D1 at *;generalize bs (rN b.data.toList)=N2 at *;generalize bs (rD b.data.toList)=D2 at *;go_wp2_with fail
     refine ka (HRA.out _ fA) fun W3 hb3=>?_;have kY:=aR fA hb3 fA.size;have q1:bT (W3.alloc (aJ #[aA N1,aA D1] 272)) W3.heap.size #[aA N1,aA D1] 272:=bT.new W3 _ _;go_wp2_with fail
     refine ka (S6.out _ (kY.alloc kY.size _)) fun W4 hb4=>?_;have oI:=aR (kY.alloc kY.size _) hb4 (by simp;exact dM kY.size);have q1:=q1.below hb4 (by simp);have c0:=q1.ce 0;have c1:=q1.ce 1;have l1:=q1.lt;clear q1 hb3 hb4;go_wp2_with fail
     refine(HX2.out _ (oI.alloc oI.size _)).mono ?_;rintro e W5⟨⟨A,B,k,rfl,(⟨a1,a2,rfl⟩|⟨a1,rfl⟩)⟩,hb5⟩
     ·have Ie:=aR (oI.alloc oI.size _) hb5 (by simp;exact dM oI.size);have HCC:=zq a2;have RR:bH (Ng (dD a.data.toList) (dD b.data.toList)=(tG (dD a.data.toList) (dD b.data.toList),0)):=by show _=_;rw[Ng,ip a1]
      clear a1 a2 hb5;go_wp2_with fail
      refine ka (HCC.out _) fun W6 hb6=>?_;go_wp2;go_ret2;exact⟨by rw[R.out,RR.out];rfl,aR Ie hb6 Ie.size⟩
     ·have Ie:=aR (oI.alloc oI.size _) hb5 (by simp;exact dM oI.size);have RR:bH (Ng (dD a.data.toList) (dD b.data.toList)=(0,4)):=by show _=_;rw[Ng,iN (by rw[a1];decide)]
      clear a1 hb5;go_wp2;go_ret2;exact⟨by rw[R.out,RR.out];rfl,Ie⟩
    ·have R:=zq (R0.out _ hcb rfl);have h':(eH b.data.toList !=0)=true:=by rw[bne_iff_ne];exact hcb
     clear R0 R1 HX hcb eb hc0;generalize eH b.data.toList=c at *;go_wp2_with fail
     refine ka (HRA.out _ fA) fun W3 hb3=>?_;have kY:=aR fA hb3 fA.size;go_wp2_with fail
     refine ka (S6.out _ (kY.alloc kY.size _)) fun W4 hb4=>?_;have oI:=aR (kY.alloc kY.size _) hb4 (by simp;exact dM kY.size);go_wp2;go_ret2;exact⟨by rw[R.out];rfl,oI.alloc oI.size _⟩
   ·have R:=zq (R0.out (eH a.data.toList) hc0 (by rw[gC,iN hc0]));have h':(eH a.data.toList !=0)=true:=by rw[bne_iff_ne];exact hc0
    clear R0 R1 HX hc0;generalize eH a.data.toList=c at *;go_wp2_with fail
    refine ka (HRA.out _ fA) fun W3 hb3=>?_;have kY:=aR fA hb3 fA.size;go_wp2;go_ret2;exact⟨by rw[R.out];rfl,kY.alloc kY.size _⟩
  ·have NA':=zq (NA2.out q1);go_wp2_with fail
   refine ka (NA'.out _) fun W1 hb1=>?_;have fA:=hb1.alloc hb1.size (aJ #[aD aE 0,aD aE 0] 268);clear q1 NA NA2 NB2 HN NA' hb1;rcases hc0 with hc0|hc0
   ·have eb:gC a.data.toList b.data.toList=eH b.data.toList:=by rw[gC,ip hc0]
    rw[eb]at R0 R1 HX;rw[hc0]at HRA;by_cases hcb:eH b.data.toList=0
    ·have R:=zq (R1.out hcb);have HX2:=zq (HX.out hcb);rw[hcb]at S6;clear R0 R1 HX hcb eb hc0;generalize bs (rN a.data.toList)=N1 at *;generalize bs (rD a.data.toList)=D1 at *;generalize bs (rN b.data.toList)=N2 at *;generalize bs (rD b.data.toList)=D2 at *;go_wp2_with fail
     refine ka (HRA.out _ fA) fun W3 hb3=>?_;have kY:=aR fA hb3 fA.size;have q1:bT (W3.alloc (aJ #[aA N1,aA D1] 272)) W3.heap.size #[aA N1,aA D1] 272:=bT.new W3 _ _;go_wp2_with fail
     refine ka (S6.out _ (kY.alloc kY.size _)) fun W4 hb4=>?_;have oI:=aR (kY.alloc kY.size _) hb4 (by simp;exact dM kY.size);have q1:=q1.below hb4 (by simp);have c0:=q1.ce 0;have c1:=q1.ce 1;have l1:=q1.lt;clear q1 hb3 hb4;go_wp2_with fail
     refine(HX2.out _ (oI.alloc oI.size _)).mono ?_;rintro e W5⟨⟨A,B,k,rfl,(⟨a1,a2,rfl⟩|⟨a1,rfl⟩)⟩,hb5⟩
     ·have Ie:=aR (oI.alloc oI.size _) hb5 (by simp;exact dM oI.size);have HCC:=zq a2;have RR:bH (Ng (dD a.data.toList) (dD b.data.toList)=(tG (dD a.data.toList) (dD b.data.toList),0)):=by show _=_;rw[Ng,ip a1]
      clear a1 a2 hb5;go_wp2_with fail
      refine ka (HCC.out _) fun W6 hb6=>?_;go_wp2;go_ret2;exact⟨by rw[R.out,RR.out];rfl,aR Ie hb6 Ie.size⟩
     ·have Ie:=aR (oI.alloc oI.size _) hb5 (by simp;exact dM oI.size);have RR:bH (Ng (dD a.data.toList) (dD b.data.toList)=(0,4)):=by show _=_;rw[Ng,iN (by rw[a1];decide)]
      clear a1 hb5;go_wp2;go_ret2;exact⟨by rw[R.out,RR.out];rfl,Ie⟩
    ·have R:=zq (R0.out _ hcb rfl);have h':(eH b.data.toList !=0)=true:=by rw[bne_iff_ne];exact hcb
     clear R0 R1 HX hcb eb hc0;generalize eH b.data.toList=c at *;go_wp2_with fail
     refine ka (HRA.out _ fA) fun W3 hb3=>?_;have kY:=aR fA hb3 fA.size;go_wp2_with fail
     refine ka (S6.out _ (kY.alloc kY.size _)) fun W4 hb4=>?_;have oI:=aR (kY.alloc kY.size _) hb4 (by simp;exact dM kY.size);go_wp2;go_ret2;exact⟨by rw[R.out];rfl,oI.alloc oI.size _⟩
   ·have R:=zq (R0.out (eH a.data.toList) hc0 (by rw[gC,iN hc0]));have h':(eH a.data.toList !=0)=true:=by rw[bne_iff_ne];exact hc0
    clear R0 R1 HX hc0;generalize eH a.data.toList=c at *;go_wp2_with fail
    refine ka (HRA.out _ fA) fun W3 hb3=>?_;have kY:=aR fA hb3 fA.size;go_wp2;go_ret2;exact⟨by rw[R.out];rfl,kY.alloc kY.size _⟩
def LC(w:aF)(a:Option Addr)(vs:List aS):Prop:=
 ∀i,i<vs.length→∃b off,a=some ⟨b,off,none⟩∧w.cell? ⟨b,off+i,none⟩=some (vs.getD i aP)
theorem LC.below{w w':aF}{a:Option Addr}{vs:List aS}(h:LC w a vs)(hb:Below w.heap.size w w'):LC w' a vs:=by
 intro i hi;obtain⟨b,off,rfl,hc⟩:=h i hi;have hlt:=bG w ⟨b,off+i,none⟩ hc;exact⟨b,off,rfl,(hb.cell (p:=⟨b,off+i,none⟩) hlt).trans hc⟩
def jS(ls:List (List UInt8)):List aS:=ls.map fun l=>aA (bs l)
theorem Gx(ls:List (List UInt8)):(jS ls).length=ls.length:=List.length_map ..
theorem Av(ls:List (List UInt8)){k:Nat}(h:k<ls.length):(jS ls).getD k aP=aA (bs (ls.getD k [])):=by
 simp[jS,List.getD_eq_getElem?_getD,List.getElem?_eq_getElem h]
def sS(f:Nat→Int):Nat→Int
 |0=>0
 |n+1=>if sS f n=0 then f n else sS f n
theorem Gy{f:Nat→Int}{k:Nat}(h:sS f k=0)(h0:f k≠0):∀n,k<n→sS f n=f k
 |0,hn=>by omega
 |n+1,hn=>by
  by_cases e:k=n
  ·subst e;rw[sS,ip h]
  ·have ih:=Gy h h0 n (by omega)
   rw[sS,ih,iN h0]
theorem IL{f:Nat→Int}{k:Nat}(h:sS f k=0)(h0:f k=0):sS f (k+1)=0:=by rw[sS,ip h,h0]
theorem IM{f:Nat→Int}:∀{n:Nat},sS f n=0→∀k,k<n→f k=0
 |0,_,k,hk=>by omega
 |n+1,h,k,hk=>by
  rw[sS]at h
  by_cases e:sS f n=0
  ·rw[ip e]at h
   by_cases ek:k=n
   ·rw[ek];exact h
   ·exact IM e k (by omega)
  ·rw[iN e]at h;exact absurd h e
end
section
open Go Go.RowKit Go.Shelf Go.Lib
section
attribute[local go_sem] dW
end
section
attribute[local go_sem] dW
theorem iR{P:Program}{fn:Func}{p q:Tmp}{ty tz:TypeId}(h:fn.results= #[.cell p ty,.cell q tz])(tmps:Array aS)(w:aF)(g1 g2:Nat)(v1 v2:aS)
 (hp:tmps.getD p aP=bA (some ⟨g1,0,none⟩))(hq:tmps.getD q aP=bA (some ⟨g2,0,none⟩))(h1:w.cell? ⟨g1,0,none⟩=some v1)(h2:w.cell? ⟨g2,0,none⟩=some v2)
 (ha:∀w,(isAgg ty).run P w=.ok false w)(hb:∀w,(isAgg tz).run P w=.ok false w):
 (gR fn tmps).run P w=.ok (cC #[v1,v2]) w:=by
 have RY:tmps[p]?.getD aP=bA (some ⟨g1,0,none⟩):=by simpa using hp
 have hq':tmps[q]?.getD aP=bA (some ⟨g2,0,none⟩):=by simpa using hq
 simp[gR,h,go_sem,RY,hq',h1,h2,ha,hb]
end
section
attribute[local go_sem] dW
theorem kR{B:Nat}{W:aF}{l:Nat}{o o':Obj}(hB:B≤l)(hl:W.heap[l]? =some o):Below B W (W.putObj l o'):=
 (aH B W).grown (grownBy_putObj' W l o') (bE hB (fZ (Array.getElem?_eq_some_iff.1 hl).1)) (fun k e=>by cases e;exact hB)
end
end
section
open Go Go.RowKit Go.Lib
theorem fr_add(a b:ByteArray)(w:aF)(hE:iM w)(ha:a.size≤8000000)(hb:b.size≤8000000):
 aW aC 240 #[aA a,aA b] w (Rt (aA (bs (K8 a.data.toList b.data.toList).1)) w):=by
 have H:=zq (rat_Add a b w hE ha hb);clear hE ha hb;generalize K8 a.data.toList b.data.toList=T at *;go_enter func240,ntmps240;go_wp2_with fail
 refine H.out.mono ?_;rintro e W1⟨rfl,hb1⟩;go_wp2;go_ret;exact⟨rfl,hb1⟩
theorem fr_sub(a b:ByteArray)(w:aF)(hE:iM w)(ha:a.size≤8000000)(hb:b.size≤8000000):
 aW aC 243 #[aA a,aA b] w (Rt (aA (bs (K9 a.data.toList b.data.toList).1)) w):=by
 have H:=zq (rat_Sub a b w hE ha hb);clear hE ha hb;generalize K9 a.data.toList b.data.toList=T at *;go_enter func243,ntmps243;go_wp2_with fail
 refine H.out.mono ?_;rintro e W1⟨rfl,hb1⟩;go_wp2;go_ret;exact⟨rfl,hb1⟩
theorem fr_mul(a b:ByteArray)(w:aF)(hE:iM w)(ha:a.size≤8000000)(hb:b.size≤8000000):
 aW aC 241 #[aA a,aA b] w (Rt (aA (bs (La a.data.toList b.data.toList).1)) w):=by
 have H:=zq (rat_Mul a b w hE ha hb);clear hE ha hb;generalize La a.data.toList b.data.toList=T at *;go_enter func241,ntmps241;go_wp2_with fail
 refine H.out.mono ?_;rintro e W1⟨rfl,hb1⟩;go_wp2;go_ret;exact⟨rfl,hb1⟩
theorem fr_div(a b:ByteArray)(w:aF)(hE:iM w)(ha:a.size≤8000000)(hb:b.size≤8000000):
 aW aC 268 #[aA a,aA b] w (Rt (aA (bs (Cz a.data.toList b.data.toList).1)) w):=by
 have H:=zq (rat_Div a b w hE ha hb);clear hE ha hb;generalize Cz a.data.toList b.data.toList=T at *;go_enter func268,ntmps268;go_wp2_with fail
 refine H.out.mono ?_;rintro e W1⟨rfl,hb1⟩;go_wp2;go_ret;exact⟨rfl,hb1⟩
theorem LD(a b:ByteArray)(w:aF)(hE:iM w)(ha:a.size≤8000000)(hb:b.size≤8000000):
 aW aC 105 #[aA a,aA b] w (Rt (aD aE (iE a.data.toList b.data.toList).1) w):=by
 have H:=zq (JA a b w hE ha hb);clear hE ha hb;generalize iE a.data.toList b.data.toList=T at *;go_enter func105,ntmps105;go_wp2_with fail
 refine H.out.mono ?_;rintro e W1⟨rfl,hb1⟩;go_wp2;go_ret;exact⟨rfl,hb1⟩
theorem mN(a b:ByteArray)(w:aF)(hE:iM w)(ha:a.size≤8000000)(hb:b.size≤8000000):
 aW aC 61 #[aA a,aA b] w (Rt (aD aE (iE a.data.toList b.data.toList).1) w):=by
 have H:=zq (JA a b w hE ha hb);clear hE ha hb;generalize iE a.data.toList b.data.toList=T at *;go_enter func61,ntmps61;go_wp2_with fail
 refine H.out.mono ?_;rintro e W1⟨rfl,hb1⟩;go_wp2;go_ret;exact⟨rfl,hb1⟩
theorem Gz(n:Int)(w:aF)(hE:iM w)(hn:n.natAbs<10^18):
 aW aC 239 #[aD aE n] w (Rt (aA (bs (bJ (n:Rat)))) w):=by
 have H:=zq (Gu n w hE hn);clear hE hn;generalize bJ (n:Rat)=T at *;go_enter func239,ntmps239;go_wp2_with fail
 refine H.out.mono ?_;rintro e W1⟨rfl,hb1⟩;go_wp2;go_ret;exact⟨rfl,hb1⟩
def long36(s:List UInt8):Bool:=decide (36<(mag (nS s)).length)||decide (36<(dT s).length)
def gT(s:List UInt8):Int:=if eH s=0 then(if long36 s=true then 4 else 0)else eH s
theorem rk{s:List UInt8}(h:eH s=0):0<(bs (nS s)).size∧(fT (bs (nS s))=true→(bs (nS s)).extract 1 (bs (nS s)).size=bs (mag (nS s)))∧(fT (bs (nS s))=false→bs (nS s)=bs (mag (nS s))):=by
 have h1:=(jV (pL h).1).1;have h2:=Ey h1;obtain⟨c1,c2⟩:=Yf (bs (nS s));rw[bP]at c1 c2;exact⟨by rw[cZ];omega,fun e=>(c1 e).1,c2⟩
end
end Go.Proofs.YtckgmoobicmbnaaGreatDoor
