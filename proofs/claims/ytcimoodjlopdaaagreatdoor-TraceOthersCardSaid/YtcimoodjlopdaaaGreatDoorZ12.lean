import Derived.Test.YtcimoodjlopdaaaGreatDoorProg
import Derived.WalkKit
import Derived.WalkSpells
import Derived.WalkLawsBesides
import Derived.RegionTactic
import Derived.ChangeAlike
import Derived.Deep.QuietTactic
import Derived.BigQuiet
import Derived.Lib.Hide
import Derived.Deep.DeepCutAuto
import Derived.Deep.RegionHeld3
import Derived.Test.YtcimoodjlopdaaaGreatDoorZ0
import Derived.Test.YtcimoodjlopdaaaGreatDoorZ6
import Derived.Test.YtcimoodjlopdaaaGreatDoorZ11
namespace Go.Proofs.YtcimoodjlopdaaaGreatDoor
set_option maxRecDepth 100000
set_option maxHeartbeats 8000000
set_option linter.all false
open Go.Proofs.Tryz
open Bool renaming false_eq_true->mN
open Go renaming World->aE,Calls->aQ,below_drewN->bH,maxLen->cA,wpAnyIn_done->eK
open Go.AllReadyIn renaming nil->aR,cons->dV
open Go.ByteArray renaming toList_eq->cI
open Go.Ending renaming returned->aO
open Go.IntKind renaming i64->aG
open Go.IntWalk renaming i64_in->aP
open Go.Lib renaming itoa->bL,compareInt->Ia
open Go.Obj renaming cells->aL
open Go.Proofs.Tryz renaming prog->aC,ntmps147->wR,func147->zI,ntmps211->Qx,ntmps157->Qy,ntmps146->Qz,func211->T8,ntmps81->T9,ntmps77->Ua,func157->Ub,func146->Uc,func81->Wq,func77->Wr
open Go.RowKit renaming Below->aJ,intOf->aK,Hid->aY
open Go.RowKit.Below renaming refl->aI,trans->iD
open Go.Value renaming string->aA,slice->aB,int->aF,bool->aM,tuple->bO,agg->dM
open Go.World renaming size_alloc->aS
open Int renaming lt_or_le->OI
open List renaming getElem?_cons_zero->bD,getElem?_toArray->bJ,getElem?_cons_succ->cW,eq_nil_of_length_eq_zero->dD
open Nat renaming le_refl->aD,le_trans->cC,gcd->cM,lt_of_le_of_lt->dF,mod_lt->fW,eq_zero_or_pos->jL,div_le_self->lZ,gcd_comm->qZ,le_of_lt->I4,mod_le->OM,sub_le->ON
open Prod renaming snd->wX
open Trans renaming trans->cL
section
open Go Go.RowKit
theorem sO{s t:ByteArray}(h:dK s.data.toList t.data.toList=0):
 wS s.data.toList=true∧wS t.data.toList=true∧s.size≤3000∧t.size≤3000∧(bM PB (num (mag s.data.toList))).length≤34∧(bM PB (num (mag t.data.toList))).length≤34:=by
 obtain⟨k1,k2⟩:=pY h;have q1:=yK k1;have q2:=yK k2;exact⟨(vL k1).1,(vL k2).1,by show s.data.toList.length≤3000;omega,by show t.data.toList.length≤3000;omega,xQ cR (k:=9) (j:=34) rfl (by decide) k1,xQ cR (k:=9) (j:=34) rfl (by decide) k2⟩
theorem yg(s t:ByteArray)(w:aE)(hE:eZ w)(hs:s.size≤cA)(ht:t.size≤cA):
 aQ aC 211 #[aA s,aA t] w (Rt (bO #[aA (bs (F8 s.data.toList t.data.toList).1),aF aG (F8 s.data.toList t.data.toList).2]) w):=by
 have hb:=tV s t w hs ht;have Hb:=zq hb;clear hb;by_cases h0:dK s.data.toList t.data.toList=0
 ·have hr:F8 s.data.toList t.data.toList=iY (dI s.data.toList+dI t.data.toList):=by rw[F8,ip h0]
  rw[hr];rw[h0]at Hb;obtain⟨pJ,pO,uY,hz2,l1,l2⟩:=sO h0;have HE:=zq hE;clear hE hr h0;by_cases hl:s.size≤18∧t.size≤18
  ·have hn1:=kO pJ hl.1;have hn2:=kO pO hl.2;have U4:=zq (Gb (n:=dI s.data.toList+dI t.data.toList) (k:=19) (by omega) (by decide));have Hc:=zq (fun W=>xS s t W pJ pO hl.1 hl.2);clear pJ pO l1 l2;generalize dI s.data.toList=x at *;generalize dI t.data.toList=y at *;have hx: -1000000000000000000<x∧x<1000000000000000000:=by omega
   have hy: -1000000000000000000<y∧y<1000000000000000000:=by omega
   clear hn1 hn2;go_enter T8,Qx;go_wp2_with fail
   refine ka Hb.out fun w1 hb1=>?_;go_wp2_with fail
   refine kc (Hc.out w1) hb1 fun w2 eQ=>?_;clear hb1;go_wp2_with fail
   refine ka (eM _ _ (HE.out.below eQ) (by omega) (by omega)) fun w3 hb3=>?_;have hB:=aH eQ hb3 eQ.size;go_wp2;go_ret2;rw[U4.out];exact⟨rfl,hB⟩
  ·have Hc:=zq (fun W=>qC s t W hs ht (by omega));have r1:=zq (fun W=>oO s W uY pJ);have r2:=zq (fun W=>oO t W hz2 pO);rw[jG s,jG t];clear pJ pO hl;generalize num (mag s.data.toList)=M at *;generalize num (mag t.data.toList)=N at *;have Hl:=zq (And.intro l1 l2);clear l1 l2;go_enter T8,Qx;go_wp2_with fail
   refine ka Hb.out fun w1 hb1=>?_;go_wp2_with fail
   refine kc (Hc.out w1) hb1 fun Ux gG=>?_;clear hb1;go_wp2_with fail
   refine(r1.out Ux).mono ?_;rintro e w2⟨v1,rfl,uU,hb2⟩;have eQ:=aH gG hb2 gG.size;clear gG hb2;go_wp2_with fail
   refine(r2.out w2).mono ?_;rintro e w3⟨v2,rfl,vX,hb3⟩;have rJ:=uU.below hb3;have fN:=aH eQ hb3 eQ.size;clear eQ hb3 uU;go_wp2_with fail
   refine(KE _ _ v1 v2 M N w3 rJ.inL vX.inL (by have:=Hl.out.1;omega) (by have:=Hl.out.2;omega)).mono ?_;rintro e w4⟨c,v,K,rfl,hsg,ow,hb4⟩;have hB4:=aH fN hb4 fN.size;have hK:(bM PB K).length≤1000:=by
    have:=nT cR Hl.out.1 Hl.out.2 (yM hsg);omega
   have HK:=zq hK;have HS:=zq hsg;clear hK hsg fN hb4;go_wp2_with fail
   refine ka (iK c v K w4 (HE.out.below hB4) ow.inL HK.out) fun w5 hb5=>?_;have yH:=aH hB4 hb5 hB4.size;go_wp2;go_ret2;rw[←HS.out];exact⟨rfl,yH⟩
 ·have hr:F8 s.data.toList t.data.toList=([],dK s.data.toList t.data.toList):=by rw[F8,iN h0]
  rw[hr];clear hr;generalize dK s.data.toList t.data.toList=c at *;have h':(c !=0)=true:=by simp[h0]
  clear h0;go_enter T8,Qx;go_wp2_with fail
  refine ka Hb.out fun w1 hb1=>?_;go_wp2;go_ret2;exact⟨rfl,hb1⟩
theorem yh(s t:ByteArray)(w:aE)(hE:eZ w)(hs:s.size≤cA)(ht:t.size≤cA):
 aQ aC 81 #[aA s,aA t] w (Rt (bO #[aA (bs (U3 s.data.toList t.data.toList).1),aF aG (U3 s.data.toList t.data.toList).2]) w):=by
 have hb:=tV s t w hs ht;have Hb:=zq hb;clear hb;by_cases h0:dK s.data.toList t.data.toList=0
 ·have hr:U3 s.data.toList t.data.toList=iY (dI s.data.toList-dI t.data.toList):=by rw[U3,ip h0]
  rw[hr];rw[h0]at Hb;obtain⟨pJ,pO,uY,hz2,l1,l2⟩:=sO h0;have HE:=zq hE;clear hE hr h0;by_cases hl:s.size≤18∧t.size≤18
  ·have hn1:=kO pJ hl.1;have hn2:=kO pO hl.2;have U4:=zq (Gb (n:=dI s.data.toList-dI t.data.toList) (k:=19) (by omega) (by decide));have Hc:=zq (fun W=>xS s t W pJ pO hl.1 hl.2);clear pJ pO l1 l2;generalize dI s.data.toList=x at *;generalize dI t.data.toList=y at *;have hx: -1000000000000000000<x∧x<1000000000000000000:=by omega
   have hy: -1000000000000000000<y∧y<1000000000000000000:=by omega
   clear hn1 hn2;go_enter Wq,T9;go_wp2_with fail
   refine ka Hb.out fun w1 hb1=>?_;go_wp2_with fail
   refine kc (Hc.out w1) hb1 fun w2 eQ=>?_;clear hb1;go_wp2_with fail
   refine ka (eM _ _ (HE.out.below eQ) (by omega) (by omega)) fun w3 hb3=>?_;have hB:=aH eQ hb3 eQ.size;go_wp2;go_ret2;rw[U4.out];exact⟨rfl,hB⟩
  ·have Hc:=zq (fun W=>qC s t W hs ht (by omega));have r1:=zq (fun W=>oO s W uY pJ);have r2:=zq (fun W=>oO t W hz2 pO);rw[jG s,jG t];clear pJ pO hl;generalize num (mag s.data.toList)=M at *;generalize num (mag t.data.toList)=N at *;generalize dY t=nt at *;have Hl:=zq (And.intro l1 l2);clear l1 l2;go_enter Wq,T9;go_wp2_with fail
   refine ka Hb.out fun w1 hb1=>?_;go_wp2_with fail
   refine kc (Hc.out w1) hb1 fun Ux gG=>?_;clear hb1;go_wp2_with fail
   refine(r2.out Ux).mono ?_;rintro e w2⟨v2,rfl,vX,hb2⟩;have eQ:=aH gG hb2 gG.size;clear gG hb2;obtain⟨g2,n2,c2,rfl,vX⟩:=vX;have Bq:=zq vX;clear vX;go_wp2_with fail
   obtain⟨W3,Y6⟩:=nm (w2.alloc (aL #[aM (!nt),aB (some ⟨g2,0,none⟩) n2 c2] 181));have y0:bZ W3 w2.heap.size #[aM (!nt),aB (some ⟨g2,0,none⟩) n2 c2] 181:=by rw[←Y6];exact bZ.new _ _ _
   have y1:mI W3 Ux.heap.size (aB (some ⟨g2,0,none⟩) n2 c2) PB N:=by rw[←Y6];exact⟨_,_,_,rfl,Bq.out.alloc _⟩
   have y2:aJ w.heap.size w W3:=by rw[←Y6];exact eQ.alloc eQ.size _
   have y3:w2.heap.size<W3.heap.size:=y0.lt;rw[Y6];have k0:=y0.ce 0;have k1:=y0.ce 1;have HY:=zq (And.intro y0 (And.intro y1 y2));clear Y6 y0 y1 y2 eQ Bq;refine CW (by kernel_rfl) ?_;refine tI 0 rfl ?_;refine eI 1 [2] rfl (fun K hK=>?_) ?_
   ·go_simp;refine⟨trivial,callsIn_wide.2 ((r1.out _).mono ?_)⟩;rintro e W4⟨v1,rfl,uU,hb4⟩;have Pv:aJ W3.heap.size W3 W4:=iD (bH (aI _ W3) 1) hb4;have vX:=HY.out.2.1.below Pv;have hB4:=aH HY.out.2.2 Pv HY.out.2.2.size;have z0:=HY.out.1.below Pv HY.out.1.lt;have k0:=z0.ce 0;have k1:=z0.ce 1;clear hb4 Pv z0;refine hK _ _ ?_;clear hK K;refine eI 2 [] rfl (fun K hK=>?_) ?_
    ·go_simp;refine hK _ _ ?_;clear hK K;refine eI 3 [] rfl (fun K hK=>?_) ?_
     ·go_simp;refine⟨trivial,callsIn_wide.2 ((KE _ _ v1 _ M N W4 uU.inL vX.inL (by have:=Hl.out.1;omega) (by have:=Hl.out.2;omega)).mono ?_)⟩;rintro e w5⟨c,v,K',rfl,hsg,ow,hb5⟩;have yH:=aH hB4 hb5 hB4.size;have hKl:(bM PB K').length≤1000:=by
       have:=nT cR Hl.out.1 Hl.out.2 (yM hsg);omega
      have HKl:=zq hKl;have HS:aY (eE c K'=eE (dY s) M-eE nt N):=by
       show _=_;rw[hsg,KC];omega
      clear hKl hsg hB4 hb5 uU vX;refine hK _ _ ?_;clear hK K;refine eI 4 [] rfl (fun K hK=>?_) ?_
      ·go_simp;refine⟨trivial,callsIn_wide.2 ((iK c v K' w5 (HE.out.below yH) ow.inL HKl.out).mono ?_)⟩;rintro e w6⟨rfl,hb6⟩;have Cu:=aH yH hb6 yH.size;clear ow hb6;refine hK _ _ ?_;clear hK K;refine tI 5 rfl ?_;refine tI 6 rfl ?_;refine eI 7 [] rfl (fun K hK=>?_) ?_;rotate_left;focus exact aR
       go_simp;refine hK _ _ ?_;clear hK K;refine eI 8 [] rfl (fun K hK=>?_) ?_;rotate_left;focus exact aR
       go_simp;refine hK _ _ ?_;clear hK K;refine eK (by kernel_rfl) ?_ _;go_wp2;go_ret2;rw[←HS.out];exact⟨rfl,Cu⟩
      exact aR
     exact aR
    exact aR
   refine dV rfl (fun K hK=>?_) ?_
   ·go_simp;refine hK _ _ ?_;clear hK K;refine eI 1 [] rfl (fun K hK=>?_) ?_
    ·go_simp;refine⟨trivial,callsIn_wide.2 ((r1.out _).mono ?_)⟩;rintro e W4⟨v1,rfl,uU,hb4⟩;have Pv:aJ W3.heap.size W3 W4:=iD (bH (aI _ W3) 1) hb4;have vX:=HY.out.2.1.below Pv;have hB4:=aH HY.out.2.2 Pv HY.out.2.2.size;have z0:=HY.out.1.below Pv HY.out.1.lt;have k0:=z0.ce 0;have k1:=z0.ce 1;clear hb4 Pv z0;refine hK _ _ ?_;clear hK K;refine eI 3 [] rfl (fun K hK=>?_) ?_
     ·go_simp;refine⟨trivial,callsIn_wide.2 ((KE _ _ v1 _ M N W4 uU.inL vX.inL (by have:=Hl.out.1;omega) (by have:=Hl.out.2;omega)).mono ?_)⟩;rintro e w5⟨c,v,K',rfl,hsg,ow,hb5⟩;have yH:=aH hB4 hb5 hB4.size;have hKl:(bM PB K').length≤1000:=by
       have:=nT cR Hl.out.1 Hl.out.2 (yM hsg);omega
      have HKl:=zq hKl;have HS:aY (eE c K'=eE (dY s) M-eE nt N):=by
       show _=_;rw[hsg,KC];omega
      clear hKl hsg hB4 hb5 uU vX;refine hK _ _ ?_;clear hK K;refine eI 4 [] rfl (fun K hK=>?_) ?_
      ·go_simp;refine⟨trivial,callsIn_wide.2 ((iK c v K' w5 (HE.out.below yH) ow.inL HKl.out).mono ?_)⟩;rintro e w6⟨rfl,hb6⟩;have Cu:=aH yH hb6 yH.size;clear ow hb6;refine hK _ _ ?_;clear hK K;refine tI 5 rfl ?_;refine tI 6 rfl ?_;refine eI 7 [] rfl (fun K hK=>?_) ?_;rotate_left;focus exact aR
       go_simp;refine hK _ _ ?_;clear hK K;refine eI 8 [] rfl (fun K hK=>?_) ?_;rotate_left;focus exact aR
       go_simp;refine hK _ _ ?_;clear hK K;refine eK (by kernel_rfl) ?_ _;go_wp2;go_ret2;rw[←HS.out];exact⟨rfl,Cu⟩
      exact aR
     exact aR
    exact aR
   exact aR
 ·have hr:U3 s.data.toList t.data.toList=([],dK s.data.toList t.data.toList):=by rw[U3,iN h0]
  rw[hr];clear hr;generalize dK s.data.toList t.data.toList=c at *;have h':(c !=0)=true:=by simp[h0]
  clear h0;go_enter Wq,T9;go_wp2_with fail
  refine ka Hb.out fun w1 hb1=>?_;go_wp2;go_ret2;exact⟨rfl,hb1⟩
theorem yi(s t:ByteArray)(w:aE)(hE:eZ w)(hs:s.size≤cA)(ht:t.size≤cA):
 aQ aC 77 #[aA s,aA t] w (Rt (bO #[aA (bs (F9 s.data.toList t.data.toList).1),aF aG (F9 s.data.toList t.data.toList).2]) w):=by
 have hb:=tV s t w hs ht;have Hb:=zq hb;clear hb;by_cases h0:dK s.data.toList t.data.toList=0
 ·have hr:F9 s.data.toList t.data.toList=iY (dI s.data.toList*dI t.data.toList):=by rw[F9,ip h0]
  rw[hr];rw[h0]at Hb;obtain⟨pJ,pO,uY,hz2,l1,l2⟩:=sO h0;have HE:=zq hE;clear hE hr h0;have e1:IntKind.i64.wrap ((s.size:Int)+(t.size:Int))=(s.size:Int)+(t.size:Int):=aP _ (by omega);by_cases hl:s.size+t.size≤18
  ·have hbd:=NJ (kO pJ (aD _)) (kO pO (aD _)) hl;have U4:=zq (Gb hbd (by decide));have Hc:=zq (fun W=>xS s t W pJ pO (by omega) (by omega));have hli:(s.size:Int)+(t.size:Int)≤18:=by omega
   clear pJ pO l1 l2;generalize dI s.data.toList=x at *;generalize dI t.data.toList=y at *;obtain⟨p,hp⟩:=nm (x*y);have q1:IntKind.i64.wrap (x*y)=p:=by rw[hp];exact aP _ (by omega)
   rw[hp]at U4 hbd;rw[hp];clear hp;go_enter Wr,Ua;go_wp2_with fail
   refine ka Hb.out fun w1 hb1=>?_;go_wp2_with fail
   refine kc (Hc.out w1) hb1 fun w2 eQ=>?_;clear hb1;go_wp2_with fail
   refine ka (eM _ _ (HE.out.below eQ) (by omega) (by omega)) fun w3 hb3=>?_;have hB:=aH eQ hb3 eQ.size;go_wp2;go_ret2;rw[U4.out];exact⟨rfl,hB⟩
  ·have r1:=zq (fun W=>oO s W uY pJ);have r2:=zq (fun W=>oO t W hz2 pO);rw[jG s,jG t,←OR];have hli:¬(s.size:Int)+(t.size:Int)≤18:=by omega
   clear pJ pO hl;generalize num (mag s.data.toList)=M at *;generalize num (mag t.data.toList)=N at *;generalize dY s=b1 at *;generalize dY t=b2 at *;have Hl:=zq (And.intro l1 l2);have Hk:=zq (vA cR l1 l2);clear l1 l2;go_enter Wr,Ua;go_wp2_with fail
   refine ka Hb.out fun w1 hb1=>?_;go_wp2_with fail
   refine(r1.out w1).mono ?_;rintro e w2⟨v1,rfl,uU,hb2⟩;have eQ:=aH hb1 hb2 hb1.size;clear hb1 hb2;go_wp2_with fail
   refine(r2.out w2).mono ?_;rintro e w3⟨v2,rfl,vX,hb3⟩;have rJ:=uU.below hb3;have fN:=aH eQ hb3 eQ.size;clear eQ hb3 uU;obtain⟨g1,n1,c1,rfl,uU⟩:=rJ;obtain⟨g2,n2,c2,rfl,vX⟩:=vX;have HO:=zq (And.intro uU (And.intro vX fN));clear uU vX fN;go_wp2_with fail
   obtain⟨W,hW⟩:=nm ((w3.alloc (aL #[aM b1,aB (some ⟨g1,0,none⟩) n1 c1] 181)).alloc (aL #[aM b2,aB (some ⟨g2,0,none⟩) n2 c2] 181));have q0:bZ W w3.heap.size #[aM b1,aB (some ⟨g1,0,none⟩) n1 c1] 181:=by rw[←hW];exact(bZ.new w3 _ _).alloc _
   have q1:bZ W (w3.heap.size+1) #[aM b2,aB (some ⟨g2,0,none⟩) n2 c2] 181:=by
    rw[←hW];have:=bZ.new (w3.alloc (aL #[aM b1,aB (some ⟨g1,0,none⟩) n1 c1] 181)) #[aM b2,aB (some ⟨g2,0,none⟩) n2 c2] 181;rwa[aS]at this
   have hBW:aJ w.heap.size w W:=by have:=HO.out.2.2.size;rw[←hW];exact(HO.out.2.2.alloc this _).alloc (by rw[aS];omega) _
   have hb3:aJ w3.heap.size w3 W:=by rw[←hW];exact((aI _ _).alloc (aD _) _).alloc (by simp) _
   have o1:nR W (aB (some ⟨g1,0,none⟩) n1 c1) PB M:=mI.inL (base:=w1.heap.size) (mI.below ⟨_,_,_,rfl,HO.out.1⟩ hb3);have o2:nR W (aB (some ⟨g2,0,none⟩) n2 c2) PB N:=mI.inL (base:=w2.heap.size) (mI.below ⟨_,_,_,rfl,HO.out.2.1⟩ hb3);rw[hW];clear hW;generalize hg:w3.heap.size=g at *;have c0:W.cell? ⟨g,0,none⟩=some (aM b1):=by rw[q0.cell];rfl
   have c1':W.cell? ⟨g,1,none⟩=some (aB (some ⟨g1,0,none⟩) n1 c1):=by rw[q0.cell];rfl
   have c2':W.cell? ⟨g+1,0,none⟩=some (aM b2):=by rw[q1.cell];rfl
   have c3:W.cell? ⟨g+1,1,none⟩=some (aB (some ⟨g2,0,none⟩) n2 c2):=by rw[q1.cell];rfl
   have Htm:=zq (fun(V:aE)(hV:aJ W.heap.size W V)=>IE _ _ M N V (o1.below hV) (o2.below hV) (by have:=Hl.out.1;omega) (by have:=Hl.out.2;omega));have Hrs:=zq (fun(V:aE)(hV:aJ w.heap.size w V)(v:Value)(h:nR V v PB (M*N))=>iK (!b1==b2) v (M*N) V (HE.out.below hV) h (by have:=Hk.out;omega));have HB:=zq hBW;clear q0 q1 o1 o2 hb3 hBW hg;go_region_held3 (fun w'=>w'.cell? ⟨g,0,none⟩=some (aM b1)∧w'.cell? ⟨g,1,none⟩=some (aB (some ⟨g1,0,none⟩) n1 c1)∧w'.cell? ⟨g+1,0,none⟩=some (aM b2)∧w'.cell? ⟨g+1,1,none⟩=some (aB (some ⟨g2,0,none⟩) n2 c2)) (go_keep)
    (first
     |(go_at_call 144;refine(Htm.out _ (aI _ W).drew).mono ?_;rintro e w' ⟨v,rfl,⟨gv,nv,cv,rfl,Ld⟩,hb⟩;have:=ck hb g 0 (aM b1);have:=ck hb g 1 (aB (some ⟨g1,0,none⟩) n1 c1);have:=ck hb (g+1) 0 (aM b2);have:=ck hb (g+1) 1 (aB (some ⟨g2,0,none⟩) n2 c2))
     |(go_at_call 143;refine(Hrs.out _ (HB.out.trans ((iD (aI _ W).drew hb).mono HB.out.size)) _ (mI.inL ⟨_,_,_,rfl,Ld⟩)).mono ?_;rintro e w'' ⟨rfl,Pw⟩;have k0:=bV Pw (p:=⟨g,0,none⟩) (v:=aM b1) (by simp[*]);have k1:=bV Pw (p:=⟨g,1,none⟩) (v:=aB (some ⟨g1,0,none⟩) n1 c1) (by simp[*]);have k2:=bV Pw (p:=⟨g+1,0,none⟩) (v:=aM b2) (by simp[*]);have k3:=bV Pw (p:=⟨g+1,1,none⟩) (v:=aB (some ⟨g2,0,none⟩) n2 c2) (by simp[*])))
   go_wp2;have LQ:aJ W.heap.size W w':=iD (aI _ W).drew hb;have hbB:aJ w.heap.size w w':=HB.out.trans (LQ.mono HB.out.size);go_ret2;exact⟨rfl,hbB.trans (Pw.mono hbB.size)⟩
 ·have hr:F9 s.data.toList t.data.toList=([],dK s.data.toList t.data.toList):=by rw[F9,iN h0]
  rw[hr];clear hr;generalize dK s.data.toList t.data.toList=c at *;have h':(c !=0)=true:=by simp[h0]
  clear h0;go_enter Wr,Ua;go_wp2_with fail
  refine ka Hb.out fun w1 hb1=>?_;go_wp2;go_ret2;exact⟨rfl,hb1⟩
theorem Sv(s t:ByteArray)(w:aE)(hs:s.size≤cA)(ht:t.size≤cA):
 aQ aC 157 #[aA s,aA t] w (Rt (bO #[aF aG (Ga s.data.toList t.data.toList).1,aF aG (Ga s.data.toList t.data.toList).2]) w):=by
 have hb:=tV s t w hs ht;have Hb:=zq hb;clear hb;by_cases h0:dK s.data.toList t.data.toList=0
 ·have hr:Ga s.data.toList t.data.toList=(uO (dI s.data.toList-dI t.data.toList),0):=by rw[Ga,ip h0]
  rw[hr];rw[h0]at Hb;obtain⟨pJ,pO,uY,hz2,l1,l2⟩:=sO h0;clear hr h0;by_cases hl:s.size≤18∧t.size≤18
  ·have Hc:=zq (fun W=>xS s t W pJ pO hl.1 hl.2);clear pJ pO l1 l2;generalize dI s.data.toList=x at *;generalize dI t.data.toList=y at *;have hcm:Ia x y=uO (x-y):=by
    unfold Ia;rcases Int.lt_trichotomy x y with h|h|h
    ·rw[ip h,Gd (by omega)]
    ·have a1:¬x<y:=by omega
     have a2:¬x>y:=by omega
     rw[iN a1,iN a2,DA (by omega)]
    ·have a1:¬x<y:=by omega
     rw[iN a1,ip h,Ge (by omega)]
   have Hcm:=zq hcm;clear hcm;go_enter Ub,Qy;go_wp2_with fail
   refine ka Hb.out fun w1 hb1=>?_;go_wp2_with fail
   refine kc (Hc.out w1) hb1 fun w2 eQ=>?_;clear hb1;go_wp2_with fail
   refine kr (Jt _ _ _) ?_;go_wp2;go_ret2;rw[←Hcm.out];exact⟨rfl,eQ⟩
  ·have Hc:=zq (fun W=>qC s t W hs ht (by omega));have r1:=zq (fun W=>oO s W uY pJ);have r2:=zq (fun W=>oO t W hz2 pO);rw[jG s,jG t];clear pJ pO hl;generalize num (mag s.data.toList)=M at *;generalize num (mag t.data.toList)=N at *;generalize dY s=b1 at *;generalize dY t=b2 at *;have Hl:=zq (And.intro l1 l2);clear l1 l2;go_enter Ub,Qy;go_wp2_with fail
   refine ka Hb.out fun w1 hb1=>?_;go_wp2_with fail
   refine kc (Hc.out w1) hb1 fun Ux gG=>?_;clear hb1;go_wp2_with fail
   refine(r1.out Ux).mono ?_;rintro e w2⟨v1,rfl,uU,hb2⟩;have eQ:=aH gG hb2 gG.size;clear gG hb2;go_wp2_with fail
   refine(r2.out w2).mono ?_;rintro e w3⟨v2,rfl,vX,hb3⟩;have rJ:=uU.below hb3;have fN:=aH eQ hb3 eQ.size;clear eQ hb3 uU;obtain⟨g1,n1,c1,rfl,uU⟩:=rJ;obtain⟨g2,n2,c2,rfl,vX⟩:=vX;have HO:=zq (And.intro uU (And.intro vX fN));clear uU vX fN;go_wp2_with fail
   have LQ:aJ w3.heap.size w3 ((w3.alloc (aL #[aM b1,aB (some ⟨g1,0,none⟩) n1 c1] 181)).alloc (aL #[aM (!b2),aB (some ⟨g2,0,none⟩) n2 c2] 181)):=((aI _ _).alloc (aD _) _).alloc (by simp) _;have o1:nR _ (aB (some ⟨g1,0,none⟩) n1 c1) PB M:=mI.inL (base:=Ux.heap.size) (mI.below ⟨_,_,_,rfl,HO.out.1⟩ LQ);have o2:nR _ (aB (some ⟨g2,0,none⟩) n2 c2) PB N:=mI.inL (base:=w2.heap.size) (mI.below ⟨_,_,_,rfl,HO.out.2.1⟩ LQ);have Y7:aJ w.heap.size w _:=aH HO.out.2.2 LQ HO.out.2.2.size;refine(KE b1 (!b2) _ _ M N _ o1 o2 (by have:=Hl.out.1;omega) (by have:=Hl.out.2;omega)).mono ?_;rintro e w5⟨c,v,K,rfl,hsg,ow,hb5⟩;have yH:=aH Y7 hb5 Y7.size;rw[KC]at hsg;have HS:aY (eE c K=eE b1 M-eE b2 N):=by show _=_;omega
   obtain⟨g,n,cap,rfl,ow⟩:=ow;have kN:(bM PB K).length=n:=by have:=ow.1;simpa using this
   have Gf:n=0↔K=0:=by rw[←kN,List.length_eq_zero_iff,eB cR]
   have Hn0:=zq Gf;have pF:aY (∀T,aJ w.heap.size w (w5.alloc (aL #[aM c,aB (some ⟨g,0,none⟩) n cap] T))):=fun T=>yH.alloc yH.size _;clear LQ o1 o2 Y7 hsg hb5 yH ow kN Gf;by_cases hz:n=0
   ·have hK:=Hn0.out.1 hz;subst hz;have HQ:=zq (DA (n:=eE b1 M-eE b2 N) (by rw[←HS.out,hK];cases c<;>rfl));clear hK HS;go_wp2;go_ret2;rw[HQ.out];exact⟨rfl,pF.out _⟩
   ·have hK:K≠0:=fun e=>hz (Hn0.out.2 e);have Ut:((n:Int)==0)=false:=by simp;omega
    cases c with
    |true=>
     have HQ:=zq (Gd (n:=eE b1 M-eE b2 N) (by rw[←HS.out];simp only[eE,if_true];omega));clear hK hz HS;go_wp2;go_ret2;rw[HQ.out];exact⟨rfl,pF.out _⟩
    |false=>
     have HQ:=zq (Ge (n:=eE b1 M-eE b2 N) (by rw[←HS.out];simp only[eE,mN,if_false];omega));clear hK hz HS;go_wp2;go_ret2;rw[HQ.out];exact⟨rfl,pF.out _⟩
 ·have hr:Ga s.data.toList t.data.toList=(0,dK s.data.toList t.data.toList):=by rw[Ga,iN h0]
  rw[hr];clear hr;generalize dK s.data.toList t.data.toList=c at *;have h':(c !=0)=true:=by simp[h0]
  clear h0;go_enter Ub,Qy;go_wp2_with fail
  refine ka Hb.out fun w1 hb1=>?_;go_wp2;go_ret2;exact⟨rfl,hb1⟩
theorem Vu(b:Bool)(a:Option Addr)(n c:Nat)(w:aE):(Instr.field 181 (dM #[aM b,aB a n c]) 1).run aC w=.ok (aB a n c) w:=by kernel_rfl
theorem Y8{M N k:Nat}(h1:M<k)(h2:N<k):cM M N<k:=by
 rcases jL M with h|h
 ·subst h;rw[Nat.gcd_zero_left];exact h2
 ·exact dF (Nat.gcd_le_left N h) h1
theorem ja{N:Nat}(h:N<10^300):iY (eE false N)=(bL ((N:Nat):Int),0):=by
 rw[iY,ip (by rw[kG];exact h)];rfl
theorem Xq(s t:ByteArray)(w:aE)(hE:eZ w)(hs:s.size≤cA)(ht:t.size≤cA):
 aQ aC 146 #[aA s,aA t] w (Rt (bO #[aA (bs (CI s.data.toList t.data.toList).1),aF aG (CI s.data.toList t.data.toList).2]) w):=by
 have hb:=tV s t w hs ht;have Hb:=zq hb;clear hb;have HE:=zq hE;clear hE;by_cases h0:dK s.data.toList t.data.toList=0
 ·have hr:CI s.data.toList t.data.toList=(bL (cM (dI s.data.toList).natAbs (dI t.data.toList).natAbs),0):=by rw[CI,ip h0]
  rw[hr];rw[h0]at Hb;obtain⟨pJ,pO,uY,hz2,l1,l2⟩:=sO h0;obtain⟨kk1,YZ⟩:=pY h0;clear hr h0;by_cases hl:s.size≤18∧t.size≤18
  ·have hx:=kO pJ hl.1;have hy:=kO pO hl.2;have Hc:=zq (fun W=>xS s t W pJ pO hl.1 hl.2);clear pJ pO l1 l2 kk1 YZ;generalize dI s.data.toList=x at *;generalize dI t.data.toList=y at *;go_enter Uc,Qz;go_wp2_with fail
   refine Hb.out.mono ?_;rintro e w1⟨rfl,hb1⟩;go_wp2_with fail
   refine(Hc.out w1).mono ?_;rintro e w2⟨rfl,hb2⟩;have eQ:=aH hb1 hb2 hb1.size;clear hb1 hb2;go_wp2;go_loopw[7,8] (fun a b wr=>∃X Y:Int,a=aF aG X∧b=aF aG Y∧X.natAbs<10^18∧Y.natAbs<10^18∧aY (cM X.natAbs Y.natAbs=cM x.natAbs y.natAbs)∧aJ w.heap.size w wr)
    (fun _ b _=>(aK b).natAbs)
   case atStart=>exact⟨x,y,rfl,rfl,hx,hy,rfl,eQ⟩
   case round=>
    obtain⟨X,Y,rfl,rfl,hX,hY,hg,F4⟩:=hrel;clear eQ;by_cases hy0:Y=0
    ·subst hy0;have hm:aY (max X (-X)=((cM x.natAbs y.natAbs:Nat):Int)):=by
      show _=_;rw[←hg.out,gcd_zero_right];omega
     have q1:IntKind.i64.wrap (-X)= -X:=aP _ (by omega);clear hg;go_wp2_with fail
     refine(eM _ _ (HE.out.below F4) (by omega) (by omega)).mono ?_;rintro e w3⟨rfl,hb3⟩;have hB:=aH F4 hb3 F4.size;go_wp2;go_ret2;rw[hm.out];exact⟨rfl,hB⟩
    ·have hlt:(X.tmod Y).natAbs<Y.natAbs:=by rw[Int.natAbs_tmod];exact fW _ (by omega)
     have US:=zq ((RJ X Y).trans hg.out);have q1:IntKind.i64.wrap (X.tmod Y)=X.tmod Y:=aP _ (by omega);go_wp2;go_region;go_wp2;go_roundw;case rel=>exact⟨Y,X.tmod Y,rfl,rfl,hY,by omega,US.out,bH F4 1⟩
     case measure=>simp only[aK];omega
  ·have Hc:=zq (fun W=>qC s t W hs ht (by omega));have r1:=zq (fun W=>oO s W uY pJ);have r2:=zq (fun W=>oO t W hz2 pO);have hG:=zq (Y8 (uZ kk1) (uZ YZ));rw[gR,gR];clear pJ pO hl kk1 YZ;generalize num (mag s.data.toList)=M at *;generalize num (mag t.data.toList)=N at *;generalize dY s=b1 at *;generalize dY t=b2 at *;have Hl:=zq (And.intro l1 l2);clear l1 l2;have fI:=Vu;go_enter Uc,Qz;go_wp2_with fail
   refine Hb.out.mono ?_;rintro e w1⟨rfl,hb1⟩;go_wp2_with fail
   refine(Hc.out w1).mono ?_;rintro e Ux⟨rfl,LV⟩;have gG:=aH hb1 LV hb1.size;clear hb1 LV;go_wp2_with fail
   refine(r1.out Ux).mono ?_;rintro e w2⟨v1,rfl,uU,hb2⟩;have eQ:=aH gG hb2 gG.size;clear gG hb2;obtain⟨g1,n1,c1,rfl,uU⟩:=uU;have yj:aY (mI w2 Ux.heap.size (aB (some ⟨g1,0,none⟩) n1 c1) PB M):=⟨_,_,_,rfl,uU⟩;clear uU;go_wp2_with fail
   refine(r2.out w2).mono ?_;rintro e w3⟨v2,rfl,vX,hb3⟩;have rJ:=zq (yj.out.below hb3).inL;have fN:=aH eQ hb3 eQ.size;clear eQ hb3 yj;obtain⟨g2,n2,c2,rfl,vX⟩:=vX;have Bq:aY (nR w3 (aB (some ⟨g2,0,none⟩) n2 c2) PB N):=mI.inL ⟨_,_,_,rfl,vX⟩;clear vX;go_wp2;go_loopw[10,11] (fun a b wr=>∃X Y:Nat,nR wr a PB X∧nR wr b PB Y∧(bM PB X).length≤34∧(bM PB Y).length≤34∧aY (cM X Y=cM M N)∧aJ w.heap.size w wr)
    (fun _ b wr=>RK PB wr b)
   case atStart=>exact⟨M,N,rJ.out,Bq.out,Hl.out.1,Hl.out.2,rfl,fN⟩
   case round=>
    obtain⟨X,Y,hX,hY,lX,lY,hg,F4⟩:=hrel;clear fN rJ Bq;have hX':=hX;have hY':=hY;obtain⟨a1,n1,c1,rfl,-⟩:=hX';obtain⟨a2,n2,c2,rfl,hn2,-⟩:=hY';have HX:=zq hX;clear hX;have HY:=zq hY;clear hY;by_cases hz:n2=0
    ·have bj:Y=0:=(eB cR).1 (dD (by omega));have hgX:aY (cM M N=X):=by
      show _=_;rw[←hg.out,bj];simp
     subst hz;clear hn2 bj hg lY HY;go_wp2_with fail
     refine(iK false _ X wr (HE.out.below F4) HX.out (by omega)).mono ?_;rintro e w4⟨rfl,hb4⟩;have hB4:=aH F4 hb4 F4.size;go_wp2;go_ret2;have Gi:aY (iY (eE false X)=(bL ((cM M N:Nat):Int),0)):=by
      show _=_;rw[hgX.out];exact ja (by rw[←hgX.out];exact hG.out)
     rw[Gi.out];exact⟨rfl,hB4⟩
    ·have bj:0<Y:=by
      rcases jL Y with e|e
      ·rw[e,dO]at hn2;simp at hn2;omega
      ·exact e
     have US:aY (cM Y (X%Y)=cM M N):=by
      show _=_;rw[←hg.out,qZ X,Nat.gcd_rec Y X,qZ]
     have hlt:X%Y<Y:=fW _ bj;have hle:(bM PB (X%Y)).length≤(bM PB Y).length:=eP cR (I4 hlt);have Ut:0<n2:=by omega
     go_wp2_with fail
     refine(BM _ _ X Y wr HX.out HY.out (by omega) (by omega) bj).mono ?_;rintro e w4⟨v,u,rfl,-,ow,hb4⟩;have hB4:=aH F4 hb4 F4.size;have hY4:=HY.out.below hb4;go_wp2;go_roundw;case rel=>exact⟨Y,X%Y,hY4,ow,lY,by omega,US,hB4⟩
     case measure=>rw[Gg cR HY.out,Gg cR ow];exact hlt
 ·have hr:CI s.data.toList t.data.toList=([],dK s.data.toList t.data.toList):=by rw[CI,iN h0]
  rw[hr];clear hr;generalize dK s.data.toList t.data.toList=c at *;have h':(c !=0)=true:=by simp[h0]
  clear h0;go_enter Uc,Qz;go_wp2_with fail
  refine Hb.out.mono ?_;rintro e w1⟨rfl,hb1⟩;go_wp2;go_ret2;exact⟨rfl,hb1⟩
end
section
open Go Go.RowKit Go.Lib
abbrev xT(s t:ByteArray)(M N:Nat)(c1 c2:Bool)(w:aE):Prop:=
 aQ aC 147 #[aA s,aA t] w (Rt (bO #[aA (bs (bL ((eE c1 M).fdiv (eE c2 N)))),aA (bs (bL ((eE c1 M).fmod (eE c2 N)))),aF aG 0]) w)
theorem AW{b:Bool}{N:Nat}(h:N<10^300):iY (eE b N)=(bL (eE b N),0):=by
 rw[iY,ip (by rw[kG];exact h)]
theorem oP{N k:Nat}(h1:N≤k)(h:(bM PB k).length≤34):(bM PB N).length≤1000:=cC (eP cR h1) (by omega)
theorem Nb(s t:ByteArray)(w:aE)(M N:Nat)(c1 c2:Bool)(fp:(t.toList==[48])=false)
 (Hb:aY (aQ aC 139 #[aA s,aA t] w (Rt (aF aG 0) w)))
 (Hc:aY (∀W,aQ aC 140 #[aA s,aA t,aF aG 18] W (Rt (bO #[aF aG 0,aF aG 0,aM false]) W)))
 (r1:aY (∀W,aQ aC 142 #[aA s] W fun e w'=>∃v,e=aO (dM #[aM c1,v])∧mI w' W.heap.size v PB M∧aJ W.heap.size W w'))
 (r2:aY (∀W,aQ aC 142 #[aA t] W fun e w'=>∃v,e=aO (dM #[aM c2,v])∧mI w' W.heap.size v PB N∧aJ W.heap.size W w'))
 (Hl:aY ((bM PB M).length≤34∧(bM PB N).length≤34))(hN:aY (0<N))(HE:aY (eZ w))(hM:aY (M<10^300∧N<10^300))(Nc:c2=c1):
 xT s t M N c1 c2 w:=by
 unfold xT;have hbb:(!c1==c2)=false:=by rw[Nc];cases c1<;>rfl
 have S1:aY (eE false (M/N)=(eE c1 M).fdiv (eE c2 N)):=by show _=_;rw[Nc];exact(By c1 hN.out).1.symm
 have S2:aY (eE c2 (M%N)=(eE c1 M).fmod (eE c2 N)):=by show _=_;rw[Nc];exact(By c1 hN.out).2.symm
 have RQ:aY (iY (eE false (M/N))=(bL (eE false (M/N)),0)):=AW (dF (lZ _ _) hM.out.1);have RR:aY (iY (eE c2 (M%N))=(bL (eE c2 (M%N)),0)):=AW (dF (OM _ _) hM.out.1);clear Nc;go_enter zI,wR;go_wp2_with fail
 refine Hb.out.mono ?_;rintro e w1⟨rfl,hb1⟩;go_wp2_with fail
 refine(Hc.out w1).mono ?_;rintro e Ux⟨rfl,LV⟩;have gG:=aH hb1 LV hb1.size;clear hb1 LV;go_wp2_with fail
 refine(r1.out Ux).mono ?_;rintro e w2⟨v1,rfl,uU,hb2⟩;have eQ:=aH gG hb2 gG.size;clear gG hb2;go_wp2_with fail
 refine(r2.out w2).mono ?_;rintro e w3⟨v2,rfl,vX,hb3⟩;have rJ:=uU.below hb3;have fN:=aH eQ hb3 eQ.size;clear eQ hb3 uU;have i1:=rJ.inL;have i2:=vX.inL;clear rJ vX;have i1':=i1;have i2':=i2;obtain⟨a1,n1,d1,rfl,-⟩:=i1';obtain⟨a2,n2,d2,rfl,-⟩:=i2';go_wp2_with fail
 generalize hg:w3.heap.size=g at *;have Hg:=zq hg;obtain⟨W,hW⟩:∃W,(w3.alloc (aL #[aM c1,aB a1 n1 d1] 181)).alloc (aL #[aM c2,aB a2 n2 d2] 181)=W:=⟨_,rfl⟩;rw[hW];have hBW:aJ w3.heap.size w3 W:=by rw[←hW];exact((aI _ _).alloc (aD _) _).alloc (by simp) _
 have q1:bZ W g #[aM c1,aB a1 n1 d1] 181:=by rw[←hW,←hg];exact(bZ.new w3 _ _).alloc _
 have q2:bZ W (g+1) #[aM c2,aB a2 n2 d2] 181:=by
  rw[←hW];have:=bZ.new (w3.alloc (aL #[aM c1,aB a1 n1 d1] 181)) #[aM c2,aB a2 n2 d2] 181;rwa[aS,hg]at this
 have U5:aJ w.heap.size w W:=aH fN hBW fN.size;have j1:=i1.below hBW;have j2:=i2.below hBW;clear fN hBW i1 i2 hW hg;refine(BM _ _ M N W j1 j2 (by have:=Hl.out.1;omega) (by have:=Hl.out.2;omega) hN.out).mono ?_;rintro e w4⟨v,u,rfl,oq,or,hb4⟩;have p1:=q1.below hb4 q1.lt;have p2:=q2.below hb4 q2.lt;have hB4:=aH U5 hb4 U5.size;have j2':=j2.below hb4;clear j1 j2 U5 hb4 q1 q2;have oq':=oq;have or':=or;obtain⟨aq,nq,dq,rfl,-⟩:=oq';obtain⟨ar,nr,dr,rfl,su,-⟩:=or';have Iq:=zq oq;have Ir:=zq or;have IN:=zq j2';clear oq or j2';have k1:=p1.cell 0;have k2:=p2.cell 0;have k3:=p2.cell 1;simp only[bJ,bD,cW]at k1 k2 k3;have HP:=zq (And.intro p1 (And.intro p2 hB4));clear p1 p2 hB4;go_wp2_with fail
 have HV:=HP;refine(iK false _ (M/N) w4 (HE.out.below HV.out.2.2) Iq.out (oP (lZ _ _) Hl.out.1)).mono ?_;rintro e w6⟨rfl,hb6⟩;have m1:=HV.out.1.below hb6 HV.out.1.lt;have m2:=HV.out.2.1.below hb6 HV.out.2.1.lt;have Cu:=aH HV.out.2.2 hb6 HV.out.2.2.size;have k1:=m1.cell 0;have k2:=m2.cell 0;simp only[bJ,bD,cW]at k1 k2;have I6:=zq (Ir.out.below hb6);have H6:=zq Cu;clear hb6 m1 m2 Cu;go_wp2_with fail
 refine(iK c2 _ (M%N) w6 (HE.out.below H6.out) I6.out (oP (OM _ _) Hl.out.1)).mono ?_;rintro e w7⟨rfl,hb7⟩;have Xn:=zq (aH H6.out hb7 H6.out.size);clear hb7;have E1:=congrArg wX RQ.out;have E2:=congrArg wX RR.out;simp only at E1 E2;rw[E1,E2];clear E1 E2;go_wp2;go_ret3;rw[RQ.out,RR.out];exact⟨(by rw[S1.out,S2.out]<;>rfl),Xn.out⟩
theorem Nd(s t:ByteArray)(w:aE)(M N:Nat)(c1 c2:Bool)(fp:(t.toList==[48])=false)
 (Hb:aY (aQ aC 139 #[aA s,aA t] w (Rt (aF aG 0) w)))
 (Hc:aY (∀W,aQ aC 140 #[aA s,aA t,aF aG 18] W (Rt (bO #[aF aG 0,aF aG 0,aM false]) W)))
 (r1:aY (∀W,aQ aC 142 #[aA s] W fun e w'=>∃v,e=aO (dM #[aM c1,v])∧mI w' W.heap.size v PB M∧aJ W.heap.size W w'))
 (r2:aY (∀W,aQ aC 142 #[aA t] W fun e w'=>∃v,e=aO (dM #[aM c2,v])∧mI w' W.heap.size v PB N∧aJ W.heap.size W w'))
 (Hl:aY ((bM PB M).length≤34∧(bM PB N).length≤34))(hN:aY (0<N))(HE:aY (eZ w))(hM:aY (M<10^300∧N<10^300))(Nc:c2= !c1)(h0:M%N=0):
 xT s t M N c1 c2 w:=by
 unfold xT;obtain⟨nb,FH⟩:∃nb,(!c1)=nb:=⟨_,rfl⟩;rw[FH]at Nc;subst Nc;have hbb:(!c1==c2)=true:=by rw[←FH];cases c1<;>rfl
 have S1:aY (eE true (M/N)=(eE c1 M).fdiv (eE c2 N)):=by show _=_;rw[←FH,(Bz c1 hN.out h0).1];rfl
 have S2:aY (eE c2 (M%N)=(eE c1 M).fmod (eE c2 N)):=by show _=_;rw[←FH,(Bz c1 hN.out h0).2,h0];cases c1<;>rfl
 have RQ:aY (iY (eE true (M/N))=(bL (eE true (M/N)),0)):=AW (dF (lZ _ _) hM.out.1);have RR:aY (iY (eE c2 (M%N))=(bL (eE c2 (M%N)),0)):=AW (dF (OM _ _) hM.out.1);have H0:=zq h0;clear FH h0;go_enter zI,wR;go_wp2_with fail
 refine Hb.out.mono ?_;rintro e w1⟨rfl,hb1⟩;go_wp2_with fail
 refine(Hc.out w1).mono ?_;rintro e Ux⟨rfl,LV⟩;have gG:=aH hb1 LV hb1.size;clear hb1 LV;go_wp2_with fail
 refine(r1.out Ux).mono ?_;rintro e w2⟨v1,rfl,uU,hb2⟩;have eQ:=aH gG hb2 gG.size;clear gG hb2;go_wp2_with fail
 refine(r2.out w2).mono ?_;rintro e w3⟨v2,rfl,vX,hb3⟩;have rJ:=uU.below hb3;have fN:=aH eQ hb3 eQ.size;clear eQ hb3 uU;have i1:=rJ.inL;have i2:=vX.inL;clear rJ vX;have i1':=i1;have i2':=i2;obtain⟨a1,n1,d1,rfl,-⟩:=i1';obtain⟨a2,n2,d2,rfl,-⟩:=i2';go_wp2_with fail
 generalize hg:w3.heap.size=g at *;have Hg:=zq hg;obtain⟨W,hW⟩:∃W,(w3.alloc (aL #[aM c1,aB a1 n1 d1] 181)).alloc (aL #[aM c2,aB a2 n2 d2] 181)=W:=⟨_,rfl⟩;rw[hW];have hBW:aJ w3.heap.size w3 W:=by rw[←hW];exact((aI _ _).alloc (aD _) _).alloc (by simp) _
 have q1:bZ W g #[aM c1,aB a1 n1 d1] 181:=by rw[←hW,←hg];exact(bZ.new w3 _ _).alloc _
 have q2:bZ W (g+1) #[aM c2,aB a2 n2 d2] 181:=by
  rw[←hW];have:=bZ.new (w3.alloc (aL #[aM c1,aB a1 n1 d1] 181)) #[aM c2,aB a2 n2 d2] 181;rwa[aS,hg]at this
 have U5:aJ w.heap.size w W:=aH fN hBW fN.size;have j1:=i1.below hBW;have j2:=i2.below hBW;clear fN hBW i1 i2 hW hg;refine(BM _ _ M N W j1 j2 (by have:=Hl.out.1;omega) (by have:=Hl.out.2;omega) hN.out).mono ?_;rintro e w4⟨v,u,rfl,oq,or,hb4⟩;have p1:=q1.below hb4 q1.lt;have p2:=q2.below hb4 q2.lt;have hB4:=aH U5 hb4 U5.size;have j2':=j2.below hb4;clear j1 j2 U5 hb4 q1 q2;have oq':=oq;have or':=or;obtain⟨aq,nq,dq,rfl,-⟩:=oq';obtain⟨ar,nr,dr,rfl,su,-⟩:=or';have Iq:=zq oq;have Ir:=zq or;have IN:=zq j2';clear oq or j2';have k1:=p1.cell 0;have k2:=p2.cell 0;have k3:=p2.cell 1;simp only[bJ,bD,cW]at k1 k2 k3;have HP:=zq (And.intro p1 (And.intro p2 hB4));clear p1 p2 hB4;obtain rfl:nr=0:=by rw[←su,H0.out,dO];rfl
 clear su;go_wp2_with fail
 have HV:=HP;refine(iK true _ (M/N) w4 (HE.out.below HV.out.2.2) Iq.out (oP (lZ _ _) Hl.out.1)).mono ?_;rintro e w6⟨rfl,hb6⟩;have m1:=HV.out.1.below hb6 HV.out.1.lt;have m2:=HV.out.2.1.below hb6 HV.out.2.1.lt;have Cu:=aH HV.out.2.2 hb6 HV.out.2.2.size;have k1:=m1.cell 0;have k2:=m2.cell 0;simp only[bJ,bD,cW]at k1 k2;have I6:=zq (Ir.out.below hb6);have H6:=zq Cu;clear hb6 m1 m2 Cu;go_wp2_with fail
 refine(iK c2 _ (M%N) w6 (HE.out.below H6.out) I6.out (oP (OM _ _) Hl.out.1)).mono ?_;rintro e w7⟨rfl,hb7⟩;have Xn:=zq (aH H6.out hb7 H6.out.size);clear hb7;have E1:=congrArg wX RQ.out;have E2:=congrArg wX RR.out;simp only at E1 E2;rw[E1,E2];clear E1 E2;go_wp2;go_ret3;rw[RQ.out,RR.out];exact⟨(by rw[S1.out,S2.out]<;>rfl),Xn.out⟩
theorem Nf(s t:ByteArray)(w:aE)(M N:Nat)(c1 c2:Bool)(fp:(t.toList==[48])=false)
 (Hb:aY (aQ aC 139 #[aA s,aA t] w (Rt (aF aG 0) w)))
 (Hc:aY (∀W,aQ aC 140 #[aA s,aA t,aF aG 18] W (Rt (bO #[aF aG 0,aF aG 0,aM false]) W)))
 (r1:aY (∀W,aQ aC 142 #[aA s] W fun e w'=>∃v,e=aO (dM #[aM c1,v])∧mI w' W.heap.size v PB M∧aJ W.heap.size W w'))
 (r2:aY (∀W,aQ aC 142 #[aA t] W fun e w'=>∃v,e=aO (dM #[aM c2,v])∧mI w' W.heap.size v PB N∧aJ W.heap.size W w'))
 (Hl:aY ((bM PB M).length≤34∧(bM PB N).length≤34))(hN:aY (0<N))(HE:aY (eZ w))(hM:aY (M<10^300∧N<10^300))(Nc:c2= !c1)(h0:M%N≠0):
 xT s t M N c1 c2 w:=by
 unfold xT;obtain⟨nb,FH⟩:∃nb,(!c1)=nb:=⟨_,rfl⟩;rw[FH]at Nc;subst Nc;have hbb:(!c1==c2)=true:=by rw[←FH];cases c1<;>rfl
 have GG:M%N<N:=fW _ hN.out;have hq1:M/N+1≤M:=by
  have ta:N≠1:=by rintro rfl;rw[Nat.mod_one]at h0;exact h0 rfl
  have hM0:M≠0:=by rintro rfl;rw[Nat.zero_mod]at h0;exact h0 rfl
  exact Nat.div_lt_self (by omega) (by have:=hN.out;omega)
 have S1:aY (eE true (M/N+1)=(eE c1 M).fdiv (eE c2 N)):=by
  show _=_;rw[←FH,(BB c1 hN.out h0).1];show -((M/N+1:Nat):Int)=_;omega
 have S2:aY (eE c2 (N-M%N)=(eE c1 M).fmod (eE c2 N)):=by
  show _=_;rw[←FH,(BB c1 hN.out h0).2];cases c1<;>simp only[eE,Bool.not_true,Bool.not_false,mN,if_true,if_false]<;>omega
 have RQ:aY (iY (eE true (M/N+1))=(bL (eE true (M/N+1)),0)):=AW (dF hq1 hM.out.1);have RR:aY (iY (eE c2 (N-M%N))=(bL (eE c2 (N-M%N)),0)):=AW (dF (ON _ _) hM.out.2);have H0:=zq h0;have Hq1:=zq hq1;have Hmod:=zq (I4 GG);clear FH h0 GG hq1;go_enter zI,wR;go_wp2_with fail
 refine Hb.out.mono ?_;rintro e w1⟨rfl,hb1⟩;go_wp2_with fail
 refine(Hc.out w1).mono ?_;rintro e Ux⟨rfl,LV⟩;have gG:=aH hb1 LV hb1.size;clear hb1 LV;go_wp2_with fail
 refine(r1.out Ux).mono ?_;rintro e w2⟨v1,rfl,uU,hb2⟩;have eQ:=aH gG hb2 gG.size;clear gG hb2;go_wp2_with fail
 refine(r2.out w2).mono ?_;rintro e w3⟨v2,rfl,vX,hb3⟩;have rJ:=uU.below hb3;have fN:=aH eQ hb3 eQ.size;clear eQ hb3 uU;have i1:=rJ.inL;have i2:=vX.inL;clear rJ vX;have i1':=i1;have i2':=i2;obtain⟨a1,n1,d1,rfl,-⟩:=i1';obtain⟨a2,n2,d2,rfl,-⟩:=i2';go_wp2_with fail
 generalize hg:w3.heap.size=g at *;have Hg:=zq hg;obtain⟨W,hW⟩:∃W,(w3.alloc (aL #[aM c1,aB a1 n1 d1] 181)).alloc (aL #[aM c2,aB a2 n2 d2] 181)=W:=⟨_,rfl⟩;rw[hW];have hBW:aJ w3.heap.size w3 W:=by rw[←hW];exact((aI _ _).alloc (aD _) _).alloc (by simp) _
 have q1:bZ W g #[aM c1,aB a1 n1 d1] 181:=by rw[←hW,←hg];exact(bZ.new w3 _ _).alloc _
 have q2:bZ W (g+1) #[aM c2,aB a2 n2 d2] 181:=by
  rw[←hW];have:=bZ.new (w3.alloc (aL #[aM c1,aB a1 n1 d1] 181)) #[aM c2,aB a2 n2 d2] 181;rwa[aS,hg]at this
 have U5:aJ w.heap.size w W:=aH fN hBW fN.size;have j1:=i1.below hBW;have j2:=i2.below hBW;clear fN hBW i1 i2 hW hg;refine(BM _ _ M N W j1 j2 (by have:=Hl.out.1;omega) (by have:=Hl.out.2;omega) hN.out).mono ?_;rintro e w4⟨v,u,rfl,oq,or,hb4⟩;have p1:=q1.below hb4 q1.lt;have p2:=q2.below hb4 q2.lt;have hB4:=aH U5 hb4 U5.size;have j2':=j2.below hb4;clear j1 j2 U5 hb4 q1 q2;have oq':=oq;have or':=or;obtain⟨aq,nq,dq,rfl,-⟩:=oq';obtain⟨ar,nr,dr,rfl,su,-⟩:=or';have Iq:=zq oq;have Ir:=zq or;have IN:=zq j2';clear oq or j2';have k1:=p1.cell 0;have k2:=p2.cell 0;have k3:=p2.cell 1;simp only[bJ,bD,cW]at k1 k2 k3;have HP:=zq (And.intro p1 (And.intro p2 hB4));clear p1 p2 hB4;have hnr0:0<nr:=by
  rcases jL nr with e|e
  ·exfalso;apply H0.out;exact(eB cR).1 (dD (by rw[su,e]))
  ·exact e
 clear su;go_upto_region 15 with fail
 have Hp:aY (aQ aC 206 #[aB aq nq dq,aB (some ⟨w4.heap.size,0,none⟩) 1 1,.func (.func 207) #[] #[]] (w4.alloc (aL #[iv 1] 3)).drew fun e w'=>∃v,e=aO v∧mI w' (w4.heap.size+1) v PB (M/N+1)∧aJ (w4.heap.size+1) (w4.alloc (aL #[iv 1] 3)).drew w'):=by
  have UY:aJ w4.heap.size w4 (w4.alloc (aL #[iv 1] 3)):=(aI _ _).alloc (aD _) _;have:=AV (aB aq nq dq) (aB (some ⟨w4.heap.size,0,none⟩) 1 1) (M/N) 1 (w4.alloc (aL #[iv 1] 3)).drew (Iq.out.below UY.drew) (nR.below (Xm w4 (by decide) (by decide)) (aI _ _).drew) (oP (lZ _ _) Hl.out.1) (oP (aD 1) (cC (fD cR (k:=1) (by decide)) (by decide)));rwa[show((w4.alloc (aL #[iv 1] 3)).drew).heap.size=w4.heap.size+1 from aS _ _]at this
 have Hm:=zq (fun(V:aE)(hV:aJ w4.heap.size w4 V)=>tW (aB a2 n2 d2) (aB ar nr dr) N (M%N) V (IN.out.below hV) (Ir.out.below hV) (by have:=Hl.out.2;omega) Hmod.out);have h4:g+1<w4.heap.size:=HP.out.2.1.lt;have K3:aY ((w4.alloc (aL #[iv 1] 3)).drew.cell? ⟨g+1,1,none⟩=some (aB a2 n2 d2)):=by
  show _=_;exact(((HP.out.2.1).alloc (aL #[iv 1] 3)).drewN 1).cell 1
 refine CW (by kernel_rfl) ?_;refine tI 0 rfl ?_;refine tI 3 rfl ?_;refine tI 5 rfl ?_;refine eI 1 [4] rfl (fun K hK=>?_) ?_
 ·go_simp;refine hK _ _ ?_;clear hK K;refine eI 2 [4] rfl (fun K hK=>?_) ?_
  ·go_simp;refine⟨trivial,callsIn_wide.2 (Hp.out.mono ?_)⟩;rintro e w5⟨v5,rfl,⟨g5,m5,d5,rfl,o5'⟩,hb5⟩;have o5:mI w5 (w4.heap.size+1) (aB (some ⟨g5,0,none⟩) m5 d5) PB (M/N+1):=⟨_,_,_,rfl,o5'⟩;have k3:w5.cell? ⟨g+1,1,none⟩=some (aB a2 n2 d2):=(hb5.cell (p:=⟨g+1,1,none⟩) (by show g+1<w4.heap.size+1;omega)).trans K3.out;have h5:aJ w4.heap.size w4 w5:=iD ((aI _ w4).alloc (aD _) _).drew (hb5.mono (by omega));have H5:=zq (And.intro h5 o5);clear hb5 h5 o5 o5';refine hK _ _ ?_;clear hK K;refine eI 4 [] rfl (fun K hK=>?_) ?_
   ·go_simp;refine hK _ _ ?_;clear hK K;refine eI 6 [] rfl (fun K hK=>?_) ?_
    ·go_simp;refine⟨trivial,callsIn_wide.2 ((Hm.out _ H5.out.1).mono ?_)⟩;rintro e w8⟨v8,rfl,⟨g8,m8,d8,rfl,o8'⟩,hb8⟩;have o8:mI w8 w5.heap.size (aB (some ⟨g8,0,none⟩) m8 d8) PB (N-M%N):=⟨_,_,_,rfl,o8'⟩;have HV:aY (bZ w8 g #[aM c1,aB a1 n1 d1] 181∧bZ w8 (g+1) #[aM c2,aB a2 n2 d2] 181∧aJ w.heap.size w w8):=by
      have h8:aJ w4.heap.size w4 w8:=H5.out.1.trans (hb8.mono H5.out.1.size);exact⟨HP.out.1.below h8 HP.out.1.lt,HP.out.2.1.below h8 h4,HP.out.2.2.trans (h8.mono HP.out.2.2.size)⟩
     have O5:=zq (H5.out.2.below hb8).inL;have O8:=zq o8.inL;clear hb8 o8 o8' H5;have k1:=HV.out.1.cell 0;have k2:=HV.out.2.1.cell 0;have k3:=HV.out.2.1.cell 1;simp only[bJ,bD,cW]at k1 k2 k3;refine hK _ _ ?_;clear hK K;refine eI 7 [] rfl (fun K hK=>?_) ?_;rotate_left;focus exact aR
     go_simp;refine hK _ _ ?_;clear hK K;refine eI 8 [] rfl (fun K hK=>?_) ?_;rotate_left;focus exact aR
     go_simp;refine hK _ _ ?_;clear hK K;refine eK (by kernel_rfl) ?_ _;go_wp2_with fail
     refine(iK true _ (M/N+1) w8 (HE.out.below HV.out.2.2) O5.out (oP Hq1.out Hl.out.1)).mono ?_;rintro e w6⟨rfl,hb6⟩;have m1:=HV.out.1.below hb6 HV.out.1.lt;have m2:=HV.out.2.1.below hb6 HV.out.2.1.lt;have Cu:=aH HV.out.2.2 hb6 HV.out.2.2.size;have k1:=m1.cell 0;have k2:=m2.cell 0;simp only[bJ,bD,cW]at k1 k2;have I6:=zq (O8.out.below hb6);have H6:=zq Cu;clear hb6 m1 m2 Cu;go_wp2_with fail
     refine(iK c2 _ (N-M%N) w6 (HE.out.below H6.out) I6.out (oP (ON _ _) Hl.out.2)).mono ?_;rintro e w7⟨rfl,hb7⟩;have Xn:=zq (aH H6.out hb7 H6.out.size);clear hb7;have E1:=congrArg wX RQ.out;have E2:=congrArg wX RR.out;simp only at E1 E2;rw[E1,E2];clear E1 E2;go_wp2;go_ret3;rw[RQ.out,RR.out];exact⟨(by rw[S1.out,S2.out]<;>rfl),Xn.out⟩
    exact aR
   exact aR
  refine dV rfl (fun K hK=>?_) ?_
  ·go_simp;refine hK _ _ ?_;clear hK K;refine eI 2 [] rfl (fun K hK=>?_) ?_
   ·go_simp;refine⟨trivial,callsIn_wide.2 (Hp.out.mono ?_)⟩;rintro e w5⟨v5,rfl,⟨g5,m5,d5,rfl,o5'⟩,hb5⟩;have o5:mI w5 (w4.heap.size+1) (aB (some ⟨g5,0,none⟩) m5 d5) PB (M/N+1):=⟨_,_,_,rfl,o5'⟩;have k3:w5.cell? ⟨g+1,1,none⟩=some (aB a2 n2 d2):=(hb5.cell (p:=⟨g+1,1,none⟩) (by show g+1<w4.heap.size+1;omega)).trans K3.out;have h5:aJ w4.heap.size w4 w5:=iD ((aI _ w4).alloc (aD _) _).drew (hb5.mono (by omega));have H5:=zq (And.intro h5 o5);clear hb5 h5 o5 o5';refine hK _ _ ?_;clear hK K;refine eI 6 [] rfl (fun K hK=>?_) ?_
    ·go_simp;refine⟨trivial,callsIn_wide.2 ((Hm.out _ H5.out.1).mono ?_)⟩;rintro e w8⟨v8,rfl,⟨g8,m8,d8,rfl,o8'⟩,hb8⟩;have o8:mI w8 w5.heap.size (aB (some ⟨g8,0,none⟩) m8 d8) PB (N-M%N):=⟨_,_,_,rfl,o8'⟩;have HV:aY (bZ w8 g #[aM c1,aB a1 n1 d1] 181∧bZ w8 (g+1) #[aM c2,aB a2 n2 d2] 181∧aJ w.heap.size w w8):=by
      have h8:aJ w4.heap.size w4 w8:=H5.out.1.trans (hb8.mono H5.out.1.size);exact⟨HP.out.1.below h8 HP.out.1.lt,HP.out.2.1.below h8 h4,HP.out.2.2.trans (h8.mono HP.out.2.2.size)⟩
     have O5:=zq (H5.out.2.below hb8).inL;have O8:=zq o8.inL;clear hb8 o8 o8' H5;have k1:=HV.out.1.cell 0;have k2:=HV.out.2.1.cell 0;have k3:=HV.out.2.1.cell 1;simp only[bJ,bD,cW]at k1 k2 k3;refine hK _ _ ?_;clear hK K;refine eI 7 [] rfl (fun K hK=>?_) ?_;rotate_left;focus exact aR
     go_simp;refine hK _ _ ?_;clear hK K;refine eI 8 [] rfl (fun K hK=>?_) ?_;rotate_left;focus exact aR
     go_simp;refine hK _ _ ?_;clear hK K;refine eK (by kernel_rfl) ?_ _;go_wp2_with fail
     refine(iK true _ (M/N+1) w8 (HE.out.below HV.out.2.2) O5.out (oP Hq1.out Hl.out.1)).mono ?_;rintro e w6⟨rfl,hb6⟩;have m1:=HV.out.1.below hb6 HV.out.1.lt;have m2:=HV.out.2.1.below hb6 HV.out.2.1.lt;have Cu:=aH HV.out.2.2 hb6 HV.out.2.2.size;have k1:=m1.cell 0;have k2:=m2.cell 0;simp only[bJ,bD,cW]at k1 k2;have I6:=zq (O8.out.below hb6);have H6:=zq Cu;clear hb6 m1 m2 Cu;go_wp2_with fail
     refine(iK c2 _ (N-M%N) w6 (HE.out.below H6.out) I6.out (oP (ON _ _) Hl.out.2)).mono ?_;rintro e w7⟨rfl,hb7⟩;have Xn:=zq (aH H6.out hb7 H6.out.size);clear hb7;have E1:=congrArg wX RQ.out;have E2:=congrArg wX RR.out;simp only at E1 E2;rw[E1,E2];clear E1 E2;go_wp2;go_ret3;rw[RQ.out,RR.out];exact⟨(by rw[S1.out,S2.out]<;>rfl),Xn.out⟩
    exact aR
   exact aR
  exact aR
 refine dV rfl (fun K hK=>?_) ?_
 ·go_simp;refine hK _ _ ?_;clear hK K;refine eI 1 [] rfl (fun K hK=>?_) ?_
  ·go_simp;refine hK _ _ ?_;clear hK K;refine eI 2 [] rfl (fun K hK=>?_) ?_
   ·go_simp;refine⟨trivial,callsIn_wide.2 (Hp.out.mono ?_)⟩;rintro e w5⟨v5,rfl,⟨g5,m5,d5,rfl,o5'⟩,hb5⟩;have o5:mI w5 (w4.heap.size+1) (aB (some ⟨g5,0,none⟩) m5 d5) PB (M/N+1):=⟨_,_,_,rfl,o5'⟩;have k3:w5.cell? ⟨g+1,1,none⟩=some (aB a2 n2 d2):=(hb5.cell (p:=⟨g+1,1,none⟩) (by show g+1<w4.heap.size+1;omega)).trans K3.out;have h5:aJ w4.heap.size w4 w5:=iD ((aI _ w4).alloc (aD _) _).drew (hb5.mono (by omega));have H5:=zq (And.intro h5 o5);clear hb5 h5 o5 o5';refine hK _ _ ?_;clear hK K;refine eI 6 [] rfl (fun K hK=>?_) ?_
    ·go_simp;refine⟨trivial,callsIn_wide.2 ((Hm.out _ H5.out.1).mono ?_)⟩;rintro e w8⟨v8,rfl,⟨g8,m8,d8,rfl,o8'⟩,hb8⟩;have o8:mI w8 w5.heap.size (aB (some ⟨g8,0,none⟩) m8 d8) PB (N-M%N):=⟨_,_,_,rfl,o8'⟩;have HV:aY (bZ w8 g #[aM c1,aB a1 n1 d1] 181∧bZ w8 (g+1) #[aM c2,aB a2 n2 d2] 181∧aJ w.heap.size w w8):=by
      have h8:aJ w4.heap.size w4 w8:=H5.out.1.trans (hb8.mono H5.out.1.size);exact⟨HP.out.1.below h8 HP.out.1.lt,HP.out.2.1.below h8 h4,HP.out.2.2.trans (h8.mono HP.out.2.2.size)⟩
     have O5:=zq (H5.out.2.below hb8).inL;have O8:=zq o8.inL;clear hb8 o8 o8' H5;have k1:=HV.out.1.cell 0;have k2:=HV.out.2.1.cell 0;have k3:=HV.out.2.1.cell 1;simp only[bJ,bD,cW]at k1 k2 k3;refine hK _ _ ?_;clear hK K;refine eI 7 [] rfl (fun K hK=>?_) ?_;rotate_left;focus exact aR
     go_simp;refine hK _ _ ?_;clear hK K;refine eI 8 [] rfl (fun K hK=>?_) ?_;rotate_left;focus exact aR
     go_simp;refine hK _ _ ?_;clear hK K;refine eK (by kernel_rfl) ?_ _;go_wp2_with fail
     refine(iK true _ (M/N+1) w8 (HE.out.below HV.out.2.2) O5.out (oP Hq1.out Hl.out.1)).mono ?_;rintro e w6⟨rfl,hb6⟩;have m1:=HV.out.1.below hb6 HV.out.1.lt;have m2:=HV.out.2.1.below hb6 HV.out.2.1.lt;have Cu:=aH HV.out.2.2 hb6 HV.out.2.2.size;have k1:=m1.cell 0;have k2:=m2.cell 0;simp only[bJ,bD,cW]at k1 k2;have I6:=zq (O8.out.below hb6);have H6:=zq Cu;clear hb6 m1 m2 Cu;go_wp2_with fail
     refine(iK c2 _ (N-M%N) w6 (HE.out.below H6.out) I6.out (oP (ON _ _) Hl.out.2)).mono ?_;rintro e w7⟨rfl,hb7⟩;have Xn:=zq (aH H6.out hb7 H6.out.size);clear hb7;have E1:=congrArg wX RQ.out;have E2:=congrArg wX RR.out;simp only at E1 E2;rw[E1,E2];clear E1 E2;go_wp2;go_ret3;rw[RQ.out,RR.out];exact⟨(by rw[S1.out,S2.out]<;>rfl),Xn.out⟩
    exact aR
   exact aR
  exact aR
 exact aR
abbrev tX(s t:ByteArray)(w:aE):Prop:=
 aQ aC 147 #[aA s,aA t] w (Rt (bO #[aA (bs (xE s.data.toList t.data.toList).1),aA (bs (xE s.data.toList t.data.toList).2.1),aF aG (xE s.data.toList t.data.toList).2.2]) w)
theorem LW(s t:ByteArray)(w:aE)(hs:s.size≤cA)(ht:t.size≤cA)(h0:dK s.data.toList t.data.toList≠0):tX s t w:=by
 have hb:=tV s t w hs ht;have Hb:=zq hb;clear hb;have hr:xE s.data.toList t.data.toList=([],[],dK s.data.toList t.data.toList):=by rw[xE,iN h0]
 unfold tX;rw[hr];clear hr;generalize dK s.data.toList t.data.toList=c at *;have h':(c !=0)=true:=by simp[h0]
 clear h0;go_enter zI,wR;go_wp2_with fail
 refine ka Hb.out fun w1 hb1=>?_;go_wp2;go_ret3;exact⟨rfl,hb1⟩
theorem Kj(s t:ByteArray)(w:aE)(hs:s.size≤cA)(ht:t.size≤cA)(h0:dK s.data.toList t.data.toList=0)(hz:dI t.data.toList=0):tX s t w:=by
 have hb:=tV s t w hs ht;have hr:xE s.data.toList t.data.toList=([],[],12):=by rw[xE,ip h0,ip hz]
 unfold tX;rw[hr];clear hr;obtain rfl:=(RM (sO h0).2.1).1 hz;rw[h0]at hb;have Hb:=zq hb;clear hb;clear h0 hz;go_enter zI,wR;go_wp2_with fail
 refine ka Hb.out fun w1 hb1=>?_;go_wp2;go_ret3;exact⟨rfl,hb1⟩
theorem IG(s t:ByteArray)(w:aE)(hE:eZ w)(hs:s.size≤18)(ht:t.size≤18)(h0:dK s.data.toList t.data.toList=0)(hz:dI t.data.toList≠0):tX s t w:=by
 have hb:=tV s t w (by simp only[cA];omega) (by simp only[cA];omega);have hr:xE s.data.toList t.data.toList=(bL ((dI s.data.toList).fdiv (dI t.data.toList)),bL ((dI s.data.toList).fmod (dI t.data.toList)),0):=by rw[xE,ip h0,iN hz]
 unfold tX;rw[hr];clear hr;obtain⟨pJ,pO,-⟩:=sO h0;have fp:(t.toList==[48])=false:=by
  rw[cI];exact beq_false_of_ne fun e=>hz ((CJ pO).2 e)
 rw[h0]at hb;have Hb:=zq hb;clear hb;have Hc:=zq (fun W=>xS s t W pJ pO hs ht);have hx:=kO pJ hs;have hy:=kO pO ht;clear pJ pO h0;have HE:=zq hE;clear hE;generalize dI s.data.toList=x at *;generalize dI t.data.toList=y at *;obtain⟨-,f2,f3⟩:=Bv x y hz;have h1:=zq (fun h=>NH (x:=x) hz h);have h2:=zq (fun h=>NI (x:=x) hz h);have q1:IntKind.i64.wrap (x.tdiv y)=x.tdiv y:=aP _ (by omega);have q2:IntKind.i64.wrap (x.tmod y)=x.tmod y:=aP _ (by omega);go_enter zI,wR;go_wp2_with fail
 refine ka Hb.out fun w1 hb1=>?_;go_wp2_with fail
 refine kc (Hc.out w1) hb1 fun w2 hb1c=>?_;go_wp2;go_region;have hb2:=bH hb1c 1;change aJ w.heap.size w w2.drew at hb2;clear hb1c;have hE2:=HE.out.below hb2;have Ju:=zq hE2;clear hE2 HE hb1;clear q1 q2;generalize x.tdiv y=q at *;generalize x.tmod y=r at *;by_cases hr0:r=0
 ·obtain⟨g1,g2⟩:=h1.out (.inl hr0);have G1:=zq g1;have G2:=zq g2;subst hr0;clear g1 g2 h1 h2 f2;go_wp2_with fail
  refine ka (eM _ _ Ju.out (by omega) (by omega)) fun w3 hb3=>?_;have fN:=aH hb2 hb3 hb2.size;have O9:=Ju.out.below hb3;go_wp2_with fail
  refine ka (eM _ _ O9 (by omega) (by omega)) fun w4 hb4=>?_;have hB4:=aH fN hb4 fN.size;go_wp2;go_ret3;rw[G1.out,G2.out];exact⟨rfl,hB4⟩
 ·rcases OI r 0 with k1|k1<;>rcases OI y 0 with k2|k2
  ·obtain⟨g1,g2⟩:=h1.out (.inr (by omega));have G1:=zq g1;have G2:=zq g2;have b1:(r !=0)=true:=by simp[hr0]
   clear g1 g2 h1 h2 hr0;go_wp2_with fail
   refine ka (eM _ _ Ju.out (by omega) (by omega)) fun w3 hb3=>?_;have fN:=aH hb2 hb3 hb2.size;have O9:=Ju.out.below hb3;go_wp2_with fail
   refine ka (eM _ _ O9 (by omega) (by omega)) fun w4 hb4=>?_;have hB4:=aH fN hb4 fN.size;go_wp2;go_ret3;rw[G1.out,G2.out];exact⟨rfl,hB4⟩
  ·obtain⟨g1,g2⟩:=h2.out hr0 (by omega);have G1:=zq g1;have G2:=zq g2;have k2n:¬y<0:=by omega
   have b1:(r !=0)=true:=by simp[hr0]
   clear g1 g2 h1 h2 hr0;go_wp2_with fail
   refine ka (eM _ _ Ju.out (by omega) (by omega)) fun w3 hb3=>?_;have fN:=aH hb2 hb3 hb2.size;have O9:=Ju.out.below hb3;go_wp2_with fail
   refine ka (eM _ _ O9 (by omega) (by omega)) fun w4 hb4=>?_;have hB4:=aH fN hb4 fN.size;go_wp2;go_ret3;rw[G1.out,G2.out];exact⟨rfl,hB4⟩
  ·obtain⟨g1,g2⟩:=h2.out hr0 (by omega);have G1:=zq g1;have G2:=zq g2;have k1n:¬r<0:=by omega
   have b1:(r !=0)=true:=by simp[hr0]
   clear g1 g2 h1 h2 hr0;go_wp2_with fail
   refine ka (eM _ _ Ju.out (by omega) (by omega)) fun w3 hb3=>?_;have fN:=aH hb2 hb3 hb2.size;have O9:=Ju.out.below hb3;go_wp2_with fail
   refine ka (eM _ _ O9 (by omega) (by omega)) fun w4 hb4=>?_;have hB4:=aH fN hb4 fN.size;go_wp2;go_ret3;rw[G1.out,G2.out];exact⟨rfl,hB4⟩
  ·obtain⟨g1,g2⟩:=h1.out (.inr (by omega));have G1:=zq g1;have G2:=zq g2;have k1n:¬r<0:=by omega
   have k2n:¬y<0:=by omega
   have b1:(r !=0)=true:=by simp[hr0]
   clear g1 g2 h1 h2 hr0;go_wp2_with fail
   refine ka (eM _ _ Ju.out (by omega) (by omega)) fun w3 hb3=>?_;have fN:=aH hb2 hb3 hb2.size;have O9:=Ju.out.below hb3;go_wp2_with fail
   refine ka (eM _ _ O9 (by omega) (by omega)) fun w4 hb4=>?_;have hB4:=aH fN hb4 fN.size;go_wp2;go_ret3;rw[G1.out,G2.out];exact⟨rfl,hB4⟩
theorem Vv(s t:ByteArray)(w:aE)(hE:eZ w)(hs:s.size≤cA)(ht:t.size≤cA):tX s t w:=by
 by_cases h0:dK s.data.toList t.data.toList=0
 ·by_cases hz:dI t.data.toList=0
  ·exact Kj s t w hs ht h0 hz
  ·by_cases hl:s.size≤18∧t.size≤18
   ·exact IG s t w hE hl.1 hl.2 h0 hz
   ·have hb:=tV s t w hs ht;rw[h0]at hb;obtain⟨pJ,pO,uY,hz2,l1,l2⟩:=sO h0;have fp:(t.toList==[48])=false:=by
     rw[cI];exact beq_false_of_ne fun e=>hz ((CJ pO).2 e)
    have hN:0<num (mag t.data.toList):=by rw[←gR];omega
    have hM:=uZ (pY h0).1;have hM2:=uZ (pY h0).2;have hc:=fun W=>qC s t W hs ht (by omega);have r1:=fun W=>oO s W uY pJ;have r2:=fun W=>oO t W hz2 pO;unfold tX;rw[Pc h0 hz,jG s,jG t];by_cases hsg:dY t=dY s
    ·exact Nb s t w _ _ _ _ fp hb hc r1 r2 ⟨l1,l2⟩ hN hE ⟨hM,hM2⟩ hsg
    ·have e:dY t= !(dY s):=Pa hsg;by_cases hR:num (mag s.data.toList)%num (mag t.data.toList)=0
     ·exact Nd s t w _ _ _ _ fp hb hc r1 r2 ⟨l1,l2⟩ hN hE ⟨hM,hM2⟩ e hR
     ·exact Nf s t w _ _ _ _ fp hb hc r1 r2 ⟨l1,l2⟩ hN hE ⟨hM,hM2⟩ e hR
 ·exact LW s t w hs ht h0
end
end Go.Proofs.YtcimoodjlopdaaaGreatDoor
