import Derived.Test.YtcimoodjlopdaaaGreatDoorZ0
import Derived.Test.YtcimoodjlopdaaaGreatDoorZ8
import Derived.Test.YtcimoodjlopdaaaGreatDoorZ13
namespace Go.Proofs.YtcimoodjlopdaaaGreatDoor
set_option maxRecDepth 100000
set_option maxHeartbeats 8000000
set_option linter.all false
open Go.Proofs.Tryz
open Bool renaming and_eq_true->bT
open Classical renaming byContradiction->fZ
open Go renaming World->aE,Calls->aQ,Value->bB,maxLen->cA,bodyPost_ret->cD,Addr->dE,undef->iZ,OwnFrom->Bd,results_none->Bh,Code->Cz,Program->X6
open Go.ByteArray renaming toList_eq->cI
open Go.Code renaming rangeFunc->BZ
open Go.Ending renaming returned->aO
open Go.Fence renaming wide->dW
open Go.IntKind renaming i64->aG
open Go.IntWalk renaming i64_in->aP
open Go.Lib renaming itoa->bL,compareInt->Ia
open Go.Obj renaming cells->aL
open Go.Oper renaming semAt_some->mD
open Go.Proofs renaming enters_of->qP
open Go.Proofs.Tryz renaming prog->aC,isAgg29->pN,ntmps151->QD,results32->QG,func151->Ui,ntmps31->Uj,ntmps30->Uk,ntmps33->Ul,func31->Ww,func30->Wx,func33->Wy,isAgg24->Wz
open Go.RowKit renaming Below->aJ,intOf->aK,Hid->aY
open Go.RowKit.Below renaming refl->aI
open Go.Value renaming string->aA,slice->aB,int->aF,tuple->bO,pointer->cB
open Go.World renaming size_alloc->aS,block_lt_of_cell?->bF,putObj_heap_other->cH,putObj_heap_same->mA,alloc_heap_new->nL
open Int renaming natAbs_natCast->bP,mul_ne_zero->Dp,mul_nonneg->Ic
open Nat renaming le_refl->aD,pow_le_pow_right->bN,lt_of_lt_of_le->bQ,zero_le->bR,le_trans->cC,le_succ_of_le->dC,lt_of_le_of_lt->dF
open Rat renaming den_nz->Aj
open Trans renaming trans->cL
section
open Go Go.RowKit Go.Lib
theorem kJ{s:List UInt8}(h:nU s=true):cQ s=0∧HQ 8 (cF s)∧(cF s).num=qN s∧(cF s).den=qD s:=by
 unfold nU sh8 at h;rw[bT,bT,decide_eq_true_eq,decide_eq_true_eq,decide_eq_true_eq]at h;obtain⟨h0,h1,h2⟩:=h;obtain⟨e1,e2⟩:=rU h0;obtain⟨k1,k2⟩:=jZ (qG h0).1;refine⟨h0,⟨?_,?_⟩,e1,e2⟩
 ·rw[e1,qN,gR];exact bQ (nM _ (kE k1)) (bN (by decide) h1)
 ·rw[e2];unfold qD;split
  ·exact bQ (nM _ (kH (k2 ‹_›).1)) (bN (by decide) h2)
  ·exact bQ (by decide:1<10^1) (bN (by decide) (by decide))
theorem AZ{s t:List UInt8}(h1:nU s=true)(h2:nU t=true):dZ s t=0:=by
 rw[dZ,ip (kJ h1).1];exact(kJ h2).1
theorem GL{s t:List UInt8}(h:¬(nU s=true∧nU t=true)):nU s=false∨nU t=false:=by
 revert h;cases nU s<;>cases nU t<;>simp
theorem jH{a:ByteArray}(h:a.size≤8000000):a.size≤cA:=by unfold cA;omega
theorem Ze(x y:Int)(w:aE)(hE:eZ w)(hx:x.natAbs<10^300)(hy:y.natAbs<10^300):
 aQ aC 211 #[aA (bs (bL x)),aA (bs (bL y))] w (Rt (bO #[aA (bs (iY (x+y)).1),aF aG (iY (x+y)).2]) w):=by
 have:=yg (bs (bL x)) (bs (bL y)) w hE (by have:=eH hx;simp only[cA];omega) (by have:=eH hy;simp only[cA];omega);rwa[aX,aX,NS hx hy]at this
theorem Zf(x y:Int)(w:aE)(hE:eZ w)(hx:x.natAbs<10^300)(hy:y.natAbs<10^300):
 aQ aC 81 #[aA (bs (bL x)),aA (bs (bL y))] w (Rt (bO #[aA (bs (iY (x-y)).1),aF aG (iY (x-y)).2]) w):=by
 have:=yh (bs (bL x)) (bs (bL y)) w hE (by have:=eH hx;simp only[cA];omega) (by have:=eH hy;simp only[cA];omega);rw[aX,aX,U3,ip (by rw[dK,ip (vD hx)];exact vD hy),iA,iA]at this;exact this
theorem Xr(a b:ByteArray)(w:aE)(hE:eZ w)(ha:a.size≤8000000)(hb:b.size≤8000000):
 aQ aC 151 #[aA a,aA b] w (Rt (bO #[aA (bs (tN a.data.toList b.data.toList).1),aF aG (tN a.data.toList b.data.toList).2]) w):=by
 by_cases hq:nU a.data.toList=true∧nU b.data.toList=true
 ·obtain⟨-,k1,n1,d1⟩:=kJ hq.1;obtain⟨-,k2,n2,d2⟩:=kJ hq.2;have R:aY (tN a.data.toList b.data.toList=(aV (cF a.data.toList+cF b.data.toList),0)):=by
   show _=_;rw[tN,ip (AZ hq.1 hq.2),ip (Ln k1 k2 (by decide))]
  rw[←xR,n1,d1,n2,d2]at R;have m1:=k1.1;have m2:=k1.2;have m3:=k2.1;have m4:=k2.2;rw[n1]at m1;rw[d1]at m2;rw[n2]at m3;rw[d2]at m4;have z1:qD a.data.toList≠0:=by rw[←d1];exact Aj _
  have z2:qD b.data.toList≠0:=by rw[←d2];exact Aj _
  clear k1 k2 n1 d1 n2 d2;have HM:=fun W=>jg (qN a.data.toList) (qD a.data.toList) (qN b.data.toList) (qD b.data.toList) W m1 (by rw[bP];exact m2) m3 (by rw[bP];exact m4);have p0:=zM (b:=(qD b.data.toList:Int)) m1 (by rw[bP];exact m4);have p1:=zM (b:=(qD a.data.toList:Int)) m3 (by rw[bP];exact m2);have p2:=zM (a:=(qD a.data.toList:Int)) (b:=(qD b.data.toList:Int)) (by rw[bP];exact m2) (by rw[bP];exact m4);have z3:(qD a.data.toList:Int)*(qD b.data.toList:Int)≠0:=Dp (by omega) (by omega);have hp:(0:Int)≤(qD a.data.toList:Int)*(qD b.data.toList:Int):=Ic (by omega) (by omega);have HQ:=zq (vO a b 210 _ _ w hE ha hb hq.1 hq.2 (qP func210 (by kernel_rfl) rfl) (by omega) (by omega) z3 HM);rw[wN,iN (by omega),show((qD a.data.toList:Int)*(qD b.data.toList:Int)).natAbs=qD a.data.toList*qD b.data.toList from rfl]at HQ;clear HM p0 p1 p2 z3 hp z1 z2 m1 m2 m3 m4 hq hE;generalize aV (mkRat (qN a.data.toList*(qD b.data.toList:Int)+qN b.data.toList*(qD a.data.toList:Int)) (qD a.data.toList*qD b.data.toList))=T at *;go_enter Ui,QD;go_wp2_with fail
  refine HQ.out.mono ?_;rintro e W1⟨rfl,hb1⟩;go_wp2;go_ret2;exact⟨by rw[R.out];rfl,hb1⟩
 ·have HQ:=zq (xK a b (.func (.func 210) #[] #[]) w ha hb (GL hq));have HC:=zq (fun W=>GK 211 W);by_cases h:dZ a.data.toList b.data.toList=0
  ·have e:=IA h;rw[←jo]at e;obtain⟨ga,gb⟩:=lM h;have hx:=(fT ga).2;have hy:=(fT gb).2;have HB:=zq (fun(W:aE)(hW:aJ w.heap.size w W)=>Aa a b 148 #[cB (some ⟨W.heap.size,0,none⟩)] (bs (Ea (·+·) (cF a.data.toList) (cF b.data.toList)).1) (Ea (·+·) (cF a.data.toList) (cF b.data.toList)).2 (W.alloc (aL #[.func (.func 211) #[] #[]] 106)) ((hE.below hW).below ((aI _ W).alloc (aD _) _)) ha hb h (qP func148 (by kernel_rfl) rfl)
    (fun V hV=>Sw (·+·) 211 W.heap.size (cF a.data.toList) (cF b.data.toList) V (((hE.below hW).below ((aI _ W).alloc (aD _) _)).below hV) hx hy (qP func211 (by kernel_rfl) rfl)
     ((hV.cell (p:=⟨W.heap.size,0,none⟩) (by simp)).trans ((bZ.new W _ _).cell 0)) (fun u v U hU h1 h2=>Ze u v U hU h1 h2)))
   have R:=zq e;clear e ga gb hx hy h hq hE ha hb;generalize Ea (·+·) (cF a.data.toList) (cF b.data.toList)=T at *;go_enter Ui,QD;go_wp2_with fail
   refine HQ.out.mono ?_;rintro e W1⟨rfl,hb1⟩;go_wp2_with fail
   refine(HC.out _).mono ?_;rintro e W2⟨rfl,rfl⟩;go_wp2_with fail
   refine(HB.out _ hb1).mono ?_;rintro e W3⟨rfl,hb3⟩;go_wp2;go_ret2;exact⟨by rw[R.out];rfl,aH (hb1.alloc hb1.size _) hb3 (by simp;exact dC hb1.size)⟩
  ·have R:aY (tN a.data.toList b.data.toList=([],dZ a.data.toList b.data.toList)):=iN h;have HB:=zq (fun(f:bB)(W:aE)(hW:aJ w.heap.size w W)=>xM a b f W (hE.below hW) ha hb h);clear h hq hE ha hb;generalize dZ a.data.toList b.data.toList=c at *;go_enter Ui,QD;go_wp2_with fail
   refine HQ.out.mono ?_;rintro e W1⟨rfl,hb1⟩;go_wp2_with fail
   refine(HC.out _).mono ?_;rintro e W2⟨rfl,rfl⟩;go_wp2_with fail
   refine(HB.out _ _ (hb1.alloc hb1.size _)).mono ?_;rintro e W3⟨rfl,hb3⟩;go_wp2;go_ret2;exact⟨by rw[R.out];rfl,aH (hb1.alloc hb1.size _) hb3 (by simp;exact dC hb1.size)⟩
theorem Xs(a b:ByteArray)(w:aE)(hE:eZ w)(ha:a.size≤8000000)(hb:b.size≤8000000):
 aQ aC 31 #[aA a,aA b] w (Rt (bO #[aA (bs (tO a.data.toList b.data.toList).1),aF aG (tO a.data.toList b.data.toList).2]) w):=by
 by_cases hq:nU a.data.toList=true∧nU b.data.toList=true
 ·obtain⟨-,k1,n1,d1⟩:=kJ hq.1;obtain⟨-,k2,n2,d2⟩:=kJ hq.2;have R:aY (tO a.data.toList b.data.toList=(aV (cF a.data.toList-cF b.data.toList),0)):=by
   show _=_;rw[tO,ip (AZ hq.1 hq.2),ip (RY k1 k2 (by decide))]
  rw[←DE,n1,d1,n2,d2]at R;have m1:=k1.1;have m2:=k1.2;have m3:=k2.1;have m4:=k2.2;rw[n1]at m1;rw[d1]at m2;rw[n2]at m3;rw[d2]at m4;have z1:qD a.data.toList≠0:=by rw[←d1];exact Aj _
  have z2:qD b.data.toList≠0:=by rw[←d2];exact Aj _
  clear k1 k2 n1 d1 n2 d2;have HM:=fun W=>jh (qN a.data.toList) (qD a.data.toList) (qN b.data.toList) (qD b.data.toList) W m1 (by rw[bP];exact m2) m3 (by rw[bP];exact m4);have p0:=zM (b:=(qD b.data.toList:Int)) m1 (by rw[bP];exact m4);have p1:=zM (b:=(qD a.data.toList:Int)) m3 (by rw[bP];exact m2);have p2:=zM (a:=(qD a.data.toList:Int)) (b:=(qD b.data.toList:Int)) (by rw[bP];exact m2) (by rw[bP];exact m4);have z3:(qD a.data.toList:Int)*(qD b.data.toList:Int)≠0:=Dp (by omega) (by omega);have hp:(0:Int)≤(qD a.data.toList:Int)*(qD b.data.toList:Int):=Ic (by omega) (by omega);have HQ:=zq (vO a b 79 _ _ w hE ha hb hq.1 hq.2 (qP func79 (by kernel_rfl) rfl) (by omega) (by omega) z3 HM);rw[wN,iN (by omega),show((qD a.data.toList:Int)*(qD b.data.toList:Int)).natAbs=qD a.data.toList*qD b.data.toList from rfl]at HQ;clear HM p0 p1 p2 z3 hp z1 z2 m1 m2 m3 m4 hq hE;generalize aV (mkRat (qN a.data.toList*(qD b.data.toList:Int)-qN b.data.toList*(qD a.data.toList:Int)) (qD a.data.toList*qD b.data.toList))=T at *;go_enter Ww,Uj;go_wp2_with fail
  refine HQ.out.mono ?_;rintro e W1⟨rfl,hb1⟩;go_wp2;go_ret2;exact⟨by rw[R.out];rfl,hb1⟩
 ·have HQ:=zq (xK a b (.func (.func 79) #[] #[]) w ha hb (GL hq));have HC:=zq (fun W=>GK 81 W);by_cases h:dZ a.data.toList b.data.toList=0
  ·have e:=NY h;rw[So,←jp]at e;obtain⟨ga,gb⟩:=lM h;have hx:=(fT ga).2;have hy:=(fT gb).2;have HB:=zq (fun(W:aE)(hW:aJ w.heap.size w W)=>Aa a b 148 #[cB (some ⟨W.heap.size,0,none⟩)] (bs (Ea (·-·) (cF a.data.toList) (cF b.data.toList)).1) (Ea (·-·) (cF a.data.toList) (cF b.data.toList)).2 (W.alloc (aL #[.func (.func 81) #[] #[]] 106)) ((hE.below hW).below ((aI _ W).alloc (aD _) _)) ha hb h (qP func148 (by kernel_rfl) rfl)
    (fun V hV=>Sw (·-·) 81 W.heap.size (cF a.data.toList) (cF b.data.toList) V (((hE.below hW).below ((aI _ W).alloc (aD _) _)).below hV) hx hy (qP func81 (by kernel_rfl) rfl)
     ((hV.cell (p:=⟨W.heap.size,0,none⟩) (by simp)).trans ((bZ.new W _ _).cell 0)) (fun u v U hU h1 h2=>Zf u v U hU h1 h2)))
   have R:=zq e;clear e ga gb hx hy h hq hE ha hb;generalize Ea (·-·) (cF a.data.toList) (cF b.data.toList)=T at *;go_enter Ww,Uj;go_wp2_with fail
   refine HQ.out.mono ?_;rintro e W1⟨rfl,hb1⟩;go_wp2_with fail
   refine(HC.out _).mono ?_;rintro e W2⟨rfl,rfl⟩;go_wp2_with fail
   refine(HB.out _ hb1).mono ?_;rintro e W3⟨rfl,hb3⟩;go_wp2;go_ret2;exact⟨by rw[R.out];rfl,aH (hb1.alloc hb1.size _) hb3 (by simp;exact dC hb1.size)⟩
  ·have R:aY (tO a.data.toList b.data.toList=([],dZ a.data.toList b.data.toList)):=iN h;have HB:=zq (fun(f:bB)(W:aE)(hW:aJ w.heap.size w W)=>xM a b f W (hE.below hW) ha hb h);clear h hq hE ha hb;generalize dZ a.data.toList b.data.toList=c at *;go_enter Ww,Uj;go_wp2_with fail
   refine HQ.out.mono ?_;rintro e W1⟨rfl,hb1⟩;go_wp2_with fail
   refine(HC.out _).mono ?_;rintro e W2⟨rfl,rfl⟩;go_wp2_with fail
   refine(HB.out _ _ (hb1.alloc hb1.size _)).mono ?_;rintro e W3⟨rfl,hb3⟩;go_wp2;go_ret2;exact⟨by rw[R.out];rfl,aH (hb1.alloc hb1.size _) hb3 (by simp;exact dC hb1.size)⟩
theorem Xt(a b:ByteArray)(w:aE)(hE:eZ w)(ha:a.size≤8000000)(hb:b.size≤8000000):
 aQ aC 30 #[aA a,aA b] w (Rt (bO #[aA (bs (lF a.data.toList b.data.toList).1),aF aG (lF a.data.toList b.data.toList).2]) w):=by
 by_cases hq:nU a.data.toList=true∧nU b.data.toList=true
 ·obtain⟨-,k1,n1,d1⟩:=kJ hq.1;obtain⟨-,k2,n2,d2⟩:=kJ hq.2;have R:aY (lF a.data.toList b.data.toList=(aV (cF a.data.toList*cF b.data.toList),0)):=by
   show _=_;rw[lF,ip (AZ hq.1 hq.2),ip (Lr k1 k2 (by decide))]
  rw[←AN,n1,d1,n2,d2]at R;have m1:=k1.1;have m2:=k1.2;have m3:=k2.1;have m4:=k2.2;rw[n1]at m1;rw[d1]at m2;rw[n2]at m3;rw[d2]at m4;have z1:qD a.data.toList≠0:=by rw[←d1];exact Aj _
  have z2:qD b.data.toList≠0:=by rw[←d2];exact Aj _
  clear k1 k2 n1 d1 n2 d2;have HM:=fun W=>ji (qN a.data.toList) (qD a.data.toList) (qN b.data.toList) (qD b.data.toList) W m1 (by rw[bP];exact m2) m3 (by rw[bP];exact m4);have p0:=zM m1 m3;have p2:=zM (a:=(qD a.data.toList:Int)) (b:=(qD b.data.toList:Int)) (by rw[bP];exact m2) (by rw[bP];exact m4);have z3:(qD a.data.toList:Int)*(qD b.data.toList:Int)≠0:=Dp (by omega) (by omega);have hp:(0:Int)≤(qD a.data.toList:Int)*(qD b.data.toList:Int):=Ic (by omega) (by omega);have HQ:=zq (vO a b 74 _ _ w hE ha hb hq.1 hq.2 (qP func74 (by kernel_rfl) rfl) (by omega) (by omega) z3 HM);rw[wN,iN (by omega),show((qD a.data.toList:Int)*(qD b.data.toList:Int)).natAbs=qD a.data.toList*qD b.data.toList from rfl]at HQ;clear HM p0 p2 z3 hp z1 z2 m1 m2 m3 m4 hq hE;generalize aV (mkRat (qN a.data.toList*qN b.data.toList) (qD a.data.toList*qD b.data.toList))=T at *;go_enter Wx,Uk;go_wp2_with fail
  refine HQ.out.mono ?_;rintro e W1⟨rfl,hb1⟩;go_wp2;go_ret2;exact⟨by rw[R.out];rfl,hb1⟩
 ·have HQ:=zq (xK a b (.func (.func 74) #[] #[]) w ha hb (GL hq));by_cases h:dZ a.data.toList b.data.toList=0
  ·have e:=NZ h;obtain⟨ga,gb⟩:=lM h;have hx:=(fT ga).2;have hy:=(fT gb).2;have HB:=zq (fun(W:aE)(hW:aJ w.heap.size w W)=>Aa a b 76 #[] (bs (IC (cF a.data.toList) (cF b.data.toList)).1) (IC (cF a.data.toList) (cF b.data.toList)).2 W (hE.below hW) ha hb h (qP func76 (by kernel_rfl) rfl)
    (fun V hV=>jk (cF a.data.toList) (cF b.data.toList) V ((hE.below hW).below hV) hx hy))
   have R:=zq e;clear e ga gb hx hy h hq hE ha hb;generalize IC (cF a.data.toList) (cF b.data.toList)=T at *;go_enter Wx,Uk;go_wp2_with fail
   refine HQ.out.mono ?_;rintro e W1⟨rfl,hb1⟩;go_wp2_with fail
   refine(HB.out _ hb1).mono ?_;rintro e W3⟨rfl,hb3⟩;go_wp2;go_ret2;exact⟨by rw[R.out];rfl,aH hb1 hb3 hb1.size⟩
  ·have R:aY (lF a.data.toList b.data.toList=([],dZ a.data.toList b.data.toList)):=iN h;have HB:=zq (fun(f:bB)(W:aE)(hW:aJ w.heap.size w W)=>xM a b f W (hE.below hW) ha hb h);clear h hq hE ha hb;generalize dZ a.data.toList b.data.toList=c at *;go_enter Wx,Uk;go_wp2_with fail
   refine HQ.out.mono ?_;rintro e W1⟨rfl,hb1⟩;go_wp2_with fail
   refine(HB.out _ _ hb1).mono ?_;rintro e W3⟨rfl,hb3⟩;go_wp2;go_ret2;exact⟨by rw[R.out];rfl,aH hb1 hb3 hb1.size⟩
theorem Ng{s:List UInt8}(h:cQ s=0):(s==[48])=decide (cF s=0):=by
 have e:=Ao (cF s);rw[Iw h]at e;rw[e];exact decide_eq_decide.2 Rat.num_eq_zero
theorem yq{s t:List UInt8}(h:dZ s t=0):qH s t=LX (cF s) (cF t):=by
 rw[qH,ip h];rfl
theorem Xu(a b:ByteArray)(w:aE)(hE:eZ w)(ha:a.size≤8000000)(hb:b.size≤8000000):
 aQ aC 33 #[aA a,aA b] w (Rt (bO #[aA (bs (qH a.data.toList b.data.toList).1),aF aG (qH a.data.toList b.data.toList).2]) w):=by
 have hs:(b.toList==[48])=(b.data.toList==[48]):=by rw[cI]
 have hBok:dZ a.data.toList b.data.toList=0→aY (∀(W:aE)(hW:aJ w.heap.size w W),aQ aC 75 #[aA a,aA b,.func (.func 85) #[] #[]] W (Rt (bO #[aA (bs (qH a.data.toList b.data.toList).1),aF aG (qH a.data.toList b.data.toList).2]) W)):=by
  intro h W hW;obtain⟨ga,gb⟩:=lM h;have hx:=(fT ga).2;have hy:=(fT gb).2;rw[yq h];exact Aa a b 85 #[] _ _ W (hE.below hW) ha hb h (qP func85 (by kernel_rfl) rfl) (fun V hV=>jl (cF a.data.toList) (cF b.data.toList) V ((hE.below hW).below hV) hx hy)
 have HB:aY (∀(W:aE)(hW:aJ w.heap.size w W),aQ aC 75 #[aA a,aA b,.func (.func 85) #[] #[]] W (Rt (bO #[aA (bs (qH a.data.toList b.data.toList).1),aF aG (qH a.data.toList b.data.toList).2]) W)):=by
  by_cases h:dZ a.data.toList b.data.toList=0
  ·exact hBok h
  ·intro W hW;rw[show qH a.data.toList b.data.toList=([],dZ a.data.toList b.data.toList)from iN h];exact xM a b _ W (hE.below hW) ha hb h
 clear hBok;by_cases h48:(b.data.toList==[48])=true
 ·rw[h48]at hs;clear h48 hE ha hb;generalize qH a.data.toList b.data.toList=T at *;go_enter Wy,Ul;go_wp2_with fail
  refine(HB.out _ (aI _ w)).mono ?_;rintro e W3⟨rfl,hb3⟩;go_wp2;go_ret2;exact⟨rfl,hb3⟩
 ·have h48:(b.data.toList==[48])=false:=by simpa using h48
  rw[h48]at hs;by_cases hq:nU a.data.toList=true∧nU b.data.toList=true
  ·obtain⟨-,k1,n1,d1⟩:=kJ hq.1;obtain⟨gb,k2,n2,d2⟩:=kJ hq.2;have hy0:cF b.data.toList≠0:=by
    intro e;have:=Ng gb;rw[h48,e]at this;simp at this
   have Gf:(cF b.data.toList).num≠0:=mt Rat.num_eq_zero.1 hy0;have R:aY (qH a.data.toList b.data.toList=(aV (cF a.data.toList/cF b.data.toList),0)):=by
    show _=_;rw[qH,ip (AZ hq.1 hq.2),iN hy0,ip (oG k1 k2 (by decide))]
   rw[←BC,←Gx,n1,d1,n2,d2,Int.mul_comm (qN b.data.toList)]at R;have m1:=k1.1;have m2:=k1.2;have m3:=k2.1;have m4:=k2.2;rw[n1]at m1;rw[d1]at m2;rw[n2]at m3 Gf;rw[d2]at m4;have z1:qD a.data.toList≠0:=by rw[←d1];exact Aj _
   clear k1 k2 n1 d1 n2 d2 hy0 gb h48;have HM:=fun W=>jj (qN a.data.toList) (qD a.data.toList) (qN b.data.toList) (qD b.data.toList) W m1 (by rw[bP];exact m2) m3 (by rw[bP];exact m4);have p0:=zM (b:=(qD b.data.toList:Int)) m1 (by rw[bP];exact m4);have p2:=zM (a:=(qD a.data.toList:Int)) (by rw[bP];exact m2) m3;have z3:(qD a.data.toList:Int)*qN b.data.toList≠0:=Dp (by omega) Gf;have HQ:=zq (vO a b 84 _ _ w hE ha hb hq.1 hq.2 (qP func84 (by kernel_rfl) rfl) (by omega) (by omega) z3 HM);clear HM p0 p2 z3 Gf z1 m1 m2 m3 m4 hq hE HB;generalize aV (mkRat (wN (qN a.data.toList*(qD b.data.toList:Int)) ((qD a.data.toList:Int)*qN b.data.toList)) ((qD a.data.toList:Int)*qN b.data.toList).natAbs)=T at *;go_enter Wy,Ul;go_wp2_with fail
   refine HQ.out.mono ?_;rintro e W1⟨rfl,hb1⟩;go_wp2;go_ret2;exact⟨by rw[R.out];rfl,hb1⟩
  ·have HQ:=zq (xK a b (.func (.func 84) #[] #[]) w ha hb (GL hq));clear hE ha hb hq h48;generalize qH a.data.toList b.data.toList=T at *;go_enter Wy,Ul;go_wp2_with fail
   refine HQ.out.mono ?_;rintro e W1⟨rfl,hb1⟩;go_wp2_with fail
   refine(HB.out _ hb1).mono ?_;rintro e W3⟨rfl,hb3⟩;go_wp2;go_ret2;exact⟨rfl,aH hb1 hb3 hb1.size⟩
theorem LZ(x y:Int):Ia x y=uO (x-y):=by
 unfold Ia uO;by_cases h:x<y
 ·rw[ip h,ip (by omega)]
 ·by_cases k:x>y
  ·rw[iN h,ip k,iN (by omega),ip (by omega)]
  ·rw[iN h,iN k,iN (by omega),iN (by omega)]
theorem Nh(x y:Int)(w:aE)(hx:x.natAbs<10^300)(hy:y.natAbs<10^300):
 aQ aC 157 #[aA (bs (bL x)),aA (bs (bL y))] w (Rt (bO #[aF aG (uO (x-y)),aF aG 0]) w):=by
 have:=Sv (bs (bL x)) (bs (bL y)) w (by have:=eH hx;simp only[cA];omega) (by have:=eH hy;simp only[cA];omega);rwa[aX,aX,NT hx hy]at this
theorem JI(a b:ByteArray)(w:aE)(hE:eZ w)(ha:a.size≤8000000)(hb:b.size≤8000000):
 aQ aC 94 #[aA a,aA b] w (Rt (bO #[aF aG (gY a.data.toList b.data.toList).1,aF aG (gY a.data.toList b.data.toList).2]) w):=by
 by_cases hq:nU a.data.toList=true∧nU b.data.toList=true
 ·obtain⟨-,k1,n1,d1⟩:=kJ hq.1;obtain⟨-,k2,n2,d2⟩:=kJ hq.2;have R:aY (gY a.data.toList b.data.toList=(Ia (qN a.data.toList*qD b.data.toList) (qN b.data.toList*qD a.data.toList),0)):=by
   show _=_;rw[gY,ip (AZ hq.1 hq.2),ip (oG k1 k2 (by decide)),CN,LZ,n1,d1,n2,d2]
  have m1:=k1.1;have m2:=k1.2;have m3:=k2.1;have m4:=k2.2;rw[n1]at m1;rw[d1]at m2;rw[n2]at m3;rw[d2]at m4;have HA:=zq (fun W=>nW a W ha hq.1);have HB:=zq (fun W=>nW b W hb hq.2);have HC:=zq (fun W=>Jt (qN a.data.toList*qD b.data.toList) (qN b.data.toList*qD a.data.toList) W);have p0:=zM (b:=(qD b.data.toList:Int)) m1 (by rw[bP];exact m4);have p1:=zM (b:=(qD a.data.toList:Int)) m3 (by rw[bP];exact m2);have w1:IntKind.i64.wrap (qN a.data.toList*(qD b.data.toList:Int))=qN a.data.toList*(qD b.data.toList:Int):=aP _ (by omega);have w2:IntKind.i64.wrap (qN b.data.toList*(qD a.data.toList:Int))=qN b.data.toList*(qD a.data.toList:Int):=aP _ (by omega);unfold iv at HA HB;clear k1 k2 n1 d1 n2 d2 m1 m2 m3 m4 p0 p1 hq hE ha hb;generalize qN a.data.toList=n1 at *;generalize qD a.data.toList=d1 at *;generalize qN b.data.toList=n2 at *;generalize qD b.data.toList=d2 at *;go_enter func94,ntmps94;go_wp2_with fail
  refine ka (HA.out _) fun W1 hb1=>?_;have hq1:bZ (W1.alloc (aL #[aF aG n1,aF aG d1] 100)) W1.heap.size #[aF aG n1,aF aG d1] 100:=bZ.new W1 _ _;go_wp2_with fail
  refine ka (HB.out _) fun W2 hb2=>?_;have AB:=hb2.size;simp only[aS]at AB;have eQ:=aH (hb1.alloc hb1.size _) hb2 (by simp;exact dC hb1.size);have hq1:=(hq1.below hb2 (by simp));have c0:=hq1.ce 0;have c1:=hq1.ce 1;have hlt:=hq1.lt;go_wp2_with fail
  refine kr (HC.out _) ?_;go_wp2;go_ret2;exact⟨by rw[R.out];rfl,eQ.alloc eQ.size _⟩
 ·have HA:=zq (tY a);have yr:=zq (fun(W:aE)(hW:aJ w.heap.size w W)=>tY a W (hE.below hW) ha);have HRB:=zq (fun(W:aE)(hW:aJ w.heap.size w W)=>tY b W (hE.below hW) hb);clear HA;rw[GH]at yr HRB;have HX:aY (dZ a.data.toList b.data.toList=0→(∀(W:aE),aJ w.heap.size w W→aQ aC 86 #[.agg #[aA (bs (rN a.data.toList)),aA (bs (rD a.data.toList))],.agg #[aA (bs (rN b.data.toList)),aA (bs (rD b.data.toList))]] W fun e w'=>
   (∃A B c,e=aO (bO #[aA A,aA B,aF aG c])∧((iS (cF a.data.toList) (cF b.data.toList)=true∧(∀V,aQ aC 157 #[aA A,aA B] V (Rt (bO #[aF aG (mJ (cF a.data.toList) (cF b.data.toList)),aF aG 0]) V))∧c=0)∨(iS (cF a.data.toList) (cF b.data.toList)=false∧c=4)))∧aJ W.heap.size W w')):=by
   intro h W hW;obtain⟨ga,gb⟩:=lM h;rw[rN,ip ga,rD,ip ga,rN,ip gb,rD,ip gb,E7 ga,E8 ga,E7 gb,E8 gb];refine(C0 (cF a.data.toList) (cF b.data.toList) W (hE.below hW) (fT ga).2 (fT gb).2).mono ?_;rintro e w'⟨⟨A,B,c,rfl,(⟨h1,h2,rfl,rfl,rfl⟩|⟨h1,rfl⟩)⟩,hb⟩
   ·refine⟨⟨_,_,_,rfl,.inl ⟨by rw[iS,h1,h2];rfl,fun V=>?_,rfl⟩⟩,hb⟩;rw[CN];exact Nh _ _ V (of_decide_eq_true h1) (of_decide_eq_true h2)
   ·exact⟨⟨_,_,_,rfl,.inr ⟨by rw[iS];rcases h1 with h1|h1<;>simp[h1],rfl⟩⟩,hb⟩
  have HN:aY ((nU a.data.toList=true∧nU b.data.toList=false)∨nU a.data.toList=false):=by
   show _∨_;revert hq;cases nU a.data.toList<;>cases nU b.data.toList<;>simp
  have NA:=zq (fun(h:nU a.data.toList=true)(W:aE)=>nW a W ha h);have NA2:=zq (fun(h:nU a.data.toList=false)(W:aE)=>vN a W ha h);have NB2:=zq (fun(h:nU b.data.toList=false)(W:aE)=>vN b W hb h);unfold iv at NA;clear hq hE ha hb;have R0:aY (∀c,c≠0→dZ a.data.toList b.data.toList=c→gY a.data.toList b.data.toList=(0,c)):=by
   intro c h0 h;subst h;exact iN h0
  have R1:aY (dZ a.data.toList b.data.toList=0→gY a.data.toList b.data.toList=D9 (cF a.data.toList) (cF b.data.toList)):=fun h=>N0 h;generalize qN a.data.toList=n1 at *;generalize qD a.data.toList=d1 at *;have hc0:cQ a.data.toList=0∨cQ a.data.toList≠0:=by omega
  go_enter func94,ntmps94;rcases HN.out with⟨q1,q2⟩|q1
  ·have NA':=zq (NA.out q1);have NB':=zq (NB2.out q2);go_wp2_with fail
   refine ka (NA'.out _) fun W1 hb1=>?_;go_wp2_with fail
   refine ka (NB'.out _) fun W2 hb2=>?_;have eQ:=aH (hb1.alloc hb1.size _) hb2 (by simp;exact dC hb1.size);have fP:=eQ.alloc eQ.size (aL #[aF aG 0,aF aG 0] 100);clear q1 q2 NA NA2 NB2 HN NA' NB' hb1 hb2 eQ;rcases hc0 with hc0|hc0
   ·have eb:dZ a.data.toList b.data.toList=cQ b.data.toList:=by rw[dZ,ip hc0]
    rw[eb]at R0 R1 HX;rw[hc0]at yr;by_cases hcb:cQ b.data.toList=0
    ·have R:=zq (R1.out hcb);have jq:=zq (HX.out hcb);rw[hcb]at HRB;clear R0 R1 HX hcb eb hc0;generalize bs (rN a.data.toList)=N1 at *;generalize bs (rD a.data.toList)=D1 at *;generalize bs (rN b.data.toList)=N2 at *;generalize bs (rD b.data.toList)=D2 at *;go_wp2_with fail
     refine ka (yr.out _ fP) fun W3 hb3=>?_;have fN:=aH fP hb3 fP.size;have q1:bZ (W3.alloc (aL #[aA N1,aA D1] 104)) W3.heap.size #[aA N1,aA D1] 104:=bZ.new W3 _ _;go_wp2_with fail
     refine ka (HRB.out _ (fN.alloc fN.size _)) fun W4 hb4=>?_;have hB4:=aH (fN.alloc fN.size _) hb4 (by simp;exact dC fN.size);have q1:=q1.below hb4 (by simp);have c0:=q1.ce 0;have c1:=q1.ce 1;have l1:=q1.lt;clear q1 hb3 hb4;go_wp2_with fail
     refine(jq.out _ (hB4.alloc hB4.size _)).mono ?_;rintro e W5⟨⟨A,B,k,rfl,(⟨a1,a2,rfl⟩|⟨a1,rfl⟩)⟩,hb5⟩
     ·have yH:=aH (hB4.alloc hB4.size _) hb5 (by simp;exact dC hB4.size);have HCC:=zq a2;have RR:aY (D9 (cF a.data.toList) (cF b.data.toList)=(mJ (cF a.data.toList) (cF b.data.toList),0)):=by show _=_;rw[D9,ip a1]
      clear a1 a2 hb5;go_wp2_with fail
      refine ka (HCC.out _) fun W6 hb6=>?_;go_wp2;go_ret2;exact⟨by rw[R.out,RR.out];rfl,aH yH hb6 yH.size⟩
     ·have yH:=aH (hB4.alloc hB4.size _) hb5 (by simp;exact dC hB4.size);have RR:aY (D9 (cF a.data.toList) (cF b.data.toList)=(0,4)):=by show _=_;rw[D9,iN (by rw[a1];decide)]
      clear a1 hb5;go_wp2;go_ret2;exact⟨by rw[R.out,RR.out];rfl,yH⟩
    ·have R:=zq (R0.out _ hcb rfl);have h':(cQ b.data.toList !=0)=true:=by rw[bne_iff_ne];exact hcb
     clear R0 R1 HX hcb eb hc0;generalize cQ b.data.toList=c at *;go_wp2_with fail
     refine ka (yr.out _ fP) fun W3 hb3=>?_;have fN:=aH fP hb3 fP.size;go_wp2_with fail
     refine ka (HRB.out _ (fN.alloc fN.size _)) fun W4 hb4=>?_;have hB4:=aH (fN.alloc fN.size _) hb4 (by simp;exact dC fN.size);go_wp2;go_ret2;exact⟨by rw[R.out];rfl,hB4.alloc hB4.size _⟩
   ·have R:=zq (R0.out (cQ a.data.toList) hc0 (by rw[dZ,iN hc0]));have h':(cQ a.data.toList !=0)=true:=by rw[bne_iff_ne];exact hc0
    clear R0 R1 HX hc0;generalize cQ a.data.toList=c at *;go_wp2_with fail
    refine ka (yr.out _ fP) fun W3 hb3=>?_;have fN:=aH fP hb3 fP.size;go_wp2;go_ret2;exact⟨by rw[R.out];rfl,fN.alloc fN.size _⟩
  ·have NA':=zq (NA2.out q1);go_wp2_with fail
   refine ka (NA'.out _) fun W1 hb1=>?_;have fP:=hb1.alloc hb1.size (aL #[aF aG 0,aF aG 0] 100);clear q1 NA NA2 NB2 HN NA' hb1;rcases hc0 with hc0|hc0
   ·have eb:dZ a.data.toList b.data.toList=cQ b.data.toList:=by rw[dZ,ip hc0]
    rw[eb]at R0 R1 HX;rw[hc0]at yr;by_cases hcb:cQ b.data.toList=0
    ·have R:=zq (R1.out hcb);have jq:=zq (HX.out hcb);rw[hcb]at HRB;clear R0 R1 HX hcb eb hc0;generalize bs (rN a.data.toList)=N1 at *;generalize bs (rD a.data.toList)=D1 at *;generalize bs (rN b.data.toList)=N2 at *;generalize bs (rD b.data.toList)=D2 at *;go_wp2_with fail
     refine ka (yr.out _ fP) fun W3 hb3=>?_;have fN:=aH fP hb3 fP.size;have q1:bZ (W3.alloc (aL #[aA N1,aA D1] 104)) W3.heap.size #[aA N1,aA D1] 104:=bZ.new W3 _ _;go_wp2_with fail
     refine ka (HRB.out _ (fN.alloc fN.size _)) fun W4 hb4=>?_;have hB4:=aH (fN.alloc fN.size _) hb4 (by simp;exact dC fN.size);have q1:=q1.below hb4 (by simp);have c0:=q1.ce 0;have c1:=q1.ce 1;have l1:=q1.lt;clear q1 hb3 hb4;go_wp2_with fail
     refine(jq.out _ (hB4.alloc hB4.size _)).mono ?_;rintro e W5⟨⟨A,B,k,rfl,(⟨a1,a2,rfl⟩|⟨a1,rfl⟩)⟩,hb5⟩
     ·have yH:=aH (hB4.alloc hB4.size _) hb5 (by simp;exact dC hB4.size);have HCC:=zq a2;have RR:aY (D9 (cF a.data.toList) (cF b.data.toList)=(mJ (cF a.data.toList) (cF b.data.toList),0)):=by show _=_;rw[D9,ip a1]
      clear a1 a2 hb5;go_wp2_with fail
      refine ka (HCC.out _) fun W6 hb6=>?_;go_wp2;go_ret2;exact⟨by rw[R.out,RR.out];rfl,aH yH hb6 yH.size⟩
     ·have yH:=aH (hB4.alloc hB4.size _) hb5 (by simp;exact dC hB4.size);have RR:aY (D9 (cF a.data.toList) (cF b.data.toList)=(0,4)):=by show _=_;rw[D9,iN (by rw[a1];decide)]
      clear a1 hb5;go_wp2;go_ret2;exact⟨by rw[R.out,RR.out];rfl,yH⟩
    ·have R:=zq (R0.out _ hcb rfl);have h':(cQ b.data.toList !=0)=true:=by rw[bne_iff_ne];exact hcb
     clear R0 R1 HX hcb eb hc0;generalize cQ b.data.toList=c at *;go_wp2_with fail
     refine ka (yr.out _ fP) fun W3 hb3=>?_;have fN:=aH fP hb3 fP.size;go_wp2_with fail
     refine ka (HRB.out _ (fN.alloc fN.size _)) fun W4 hb4=>?_;have hB4:=aH (fN.alloc fN.size _) hb4 (by simp;exact dC fN.size);go_wp2;go_ret2;exact⟨by rw[R.out];rfl,hB4.alloc hB4.size _⟩
   ·have R:=zq (R0.out (cQ a.data.toList) hc0 (by rw[dZ,iN hc0]));have h':(cQ a.data.toList !=0)=true:=by rw[bne_iff_ne];exact hc0
    clear R0 R1 HX hc0;generalize cQ a.data.toList=c at *;go_wp2_with fail
    refine ka (yr.out _ fP) fun W3 hb3=>?_;have fN:=aH fP hb3 fP.size;go_wp2;go_ret2;exact⟨by rw[R.out];rfl,fN.alloc fN.size _⟩
def rW(w:aE)(a:Option dE)(vs:List bB):Prop:=
 ∀i,i<vs.length→∃b off,a=some ⟨b,off,none⟩∧w.cell? ⟨b,off+i,none⟩=some (vs.getD i iZ)
theorem rW.below{w w':aE}{a:Option dE}{vs:List bB}(h:rW w a vs)(hb:aJ w.heap.size w w'):rW w' a vs:=by
 intro i hi;obtain⟨b,off,rfl,hc⟩:=h i hi;have hlt:=bF w ⟨b,off+i,none⟩ hc;exact⟨b,off,rfl,(hb.cell (p:=⟨b,off+i,none⟩) hlt).trans hc⟩
theorem rW.nil(w:aE)(a:Option dE):rW w a []:=fun i hi=>absurd hi (by simp)
def strs(ls:List (List UInt8)):List bB:=ls.map fun l=>aA (bs l)
theorem lS(ls:List (List UInt8)):(strs ls).length=ls.length:=List.length_map ..
theorem mR(ls:List (List UInt8)){k:Nat}(h:k<ls.length):(strs ls).getD k iZ=aA (bs (ls.getD k [])):=by
 simp[strs,List.getD_eq_getElem?_getD,List.getElem?_eq_getElem h]
def qK(f:Nat→Int):Nat→Int
 |0=>0
 |n+1=>if qK f n=0 then f n else qK f n
theorem wD{f:Nat→Int}{k:Nat}(h:qK f k=0)(h0:f k≠0):∀n,k<n→qK f n=f k
 |0,hn=>by omega
 |n+1,hn=>by
  by_cases e:k=n
  ·subst e;rw[qK,ip h]
  ·have ih:=wD h h0 n (by omega)
   rw[qK,ih,iN h0]
theorem sP{f:Nat→Int}{k:Nat}(h:qK f k=0)(h0:f k=0):qK f (k+1)=0:=by rw[qK,ip h,h0]
theorem sQ{f:Nat→Int}:∀{n:Nat},qK f n=0→∀k,k<n→f k=0
 |0,_,k,hk=>by omega
 |n+1,h,k,hk=>by
  rw[qK]at h
  by_cases e:qK f n=0
  ·rw[ip e]at h
   by_cases ek:k=n
   ·rw[ek];exact h
   ·exact sQ e k (by omega)
  ·rw[iN e]at h;exact absurd h e
def oH(ls:List (List UInt8)):Nat→List UInt8
 |0=>[48]
 |k+1=>(tN (oH ls k) (ls.getD k [])).1
def C5(ls:List (List UInt8))(n:Nat):Int:=qK (fun j=>cQ (ls.getD j [])) n
def Cl(ls:List (List UInt8))(n:Nat):Int:=qK (fun j=>(tN (oH ls j) (ls.getD j [])).2) n
def mK(ls:List (List UInt8)):List UInt8×Int:=
 if 4096<ls.length then([],4)else if C5 ls ls.length=0 then(if Cl ls ls.length=0 then(oH ls ls.length,0)else([],Cl ls ls.length))else([],C5 ls ls.length)
theorem N7:cQ [48]=0:=by
 have:=sJ (HQ.int (n:=0) (k:=1) (by decide) (by decide)) (by decide);rwa[show((0:Int):Rat)=0 from rfl,sL]at this
theorem yt{s t:List UInt8}(h:(tN s t).2=0):dZ s t=0∧cQ (tN s t).1=0:=by
 by_cases hb:dZ s t=0
 ·refine⟨hb,?_⟩;rw[tN,ip hb]at h⊢;by_cases ho:Et (cF s) (cF t)=true
  ·rw[ip ho];unfold Et at ho;rw[bT,bT]at ho;have h1:=of_decide_eq_true ho.1.2;have h2:=of_decide_eq_true ho.2;rw[←Int.natCast_mul,bP]at h2;have h3:=vZ ((cF s).num*(cF t).den+(cF t).num*(cF s).den) ((cF s).den*(cF t).den) (rQ _ _);rw[xR]at h3;exact CL _ (dF h3.1 h1) (dF h3.2 h2)
  ·rw[iN ho]at h;cases h
 ·rw[tN,iN hb]at h;exact absurd h hb
theorem Px{ls:List (List UInt8)}:∀{k:Nat},Cl ls k=0→cQ (oH ls k)=0
 |0,_=>N7
 |k+1,h=>(yt (sQ h k (by omega))).2
theorem yu(a:Option dE)(n cap:Nat)(ls:List (List UInt8))(w:aE)(hE:eZ w)(hn:ls.length=n)(hx:n≤9223372036854775807)(oB:∀k,k<n→(bs (ls.getD k [])).size≤cA)(hc:rW w a (strs ls)):
 aQ aC 36 #[aB a n cap] w (Rt (bO #[aA (bs (mK ls).1),aF aG (mK ls).2]) w):=by
 have R0:aY (mK ls=if 4096<n then([],4)else if C5 ls n=0 then(if Cl ls n=0 then(oH ls n,0)else([],Cl ls n))else([],C5 ls n)):=by
  show _=_;rw[mK,hn]
 by_cases hbig:4096<n
 ·have R:aY (mK ls=([],4)):=by show _=_;rw[R0.out,ip hbig]
  clear R0;go_enter func36,ntmps36;go_wp2;go_ret2;exact⟨by rw[R.out];rfl,aI _ _⟩
 rw[iN hbig]at R0;have HC:=zq (fun(k:Nat)(h:k<n)(W:aE)(hW:aJ w.heap.size w W)=>sK (bs (ls.getD k [])) W (hE.below hW) (oB k h));have HA:aY (C5 ls n=0→∀k,k<n→Cl ls k=0→∀W,aJ w.heap.size w W→aQ aC 92 #[aA (bs (oH ls k)),aA (bs (ls.getD k []))] W (Rt (bO #[aA (bs (oH ls (k+1))),aF aG (tN (oH ls k) (ls.getD k [])).2]) W)):=by
  intro h0 k hk he W hW;have g1:cQ (oH ls k)=0:=Px he;have g2:cQ (ls.getD k [])=0:=sQ h0 k hk;have hb:dZ (oH ls k) (ls.getD k [])=0:=by rw[dZ,ip g1];exact g2
  have e1:=fT (a:=bs (oH ls k)) g1;have e2:=fT (a:=bs (ls.getD k [])) g2;rw[aX]at e1 e2;have:=Ph (cF (oH ls k)) (cF (ls.getD k [])) W (hE.below hW) e1.2 e2.2;rw[←e1.1,←e2.1,←IA hb]at this;exact this
 have Hc:=zq hc;have Hn:=zq hn;clear hc hn oB hE;have hn4:n≤4096:=by omega
 go_enter func36,ntmps36;go_wp2;go_loopw[4] (fun i wr=>∃k:Nat,i=aF aG k∧k≤n∧aJ w.heap.size w wr∧aY (C5 ls k=0)) (fun i _=>n-(aK i).toNat);case atStart=>exact⟨0,rfl,bR _,aI _ _,rfl⟩
 case round=>
  obtain⟨k,rfl,hk,hB,hz⟩:=hrel;by_cases hlt:k<n
  ·obtain⟨b,off,rfl,zK⟩:=Hc.out k (by rw[lS,Hn.out];exact hlt);rw[mR ls (by rw[Hn.out];exact hlt)]at zK;have YR:=(hB.cell (p:=⟨b,off+k,none⟩) (bF w _ zK)).trans zK;have Cm:=zq (HC.out k hlt);clear zK;by_cases hck:cQ (ls.getD k [])=0
   ·have hz2:aY (C5 ls (k+1)=0):=sP hz.out hck;rw[aX,hck]at Cm;generalize bs (ls.getD k [])=X at *;clear hck;go_wp2_with fail
    refine(Cm.out _ hB).mono ?_;rintro e W1⟨rfl,hb1⟩;go_wp2;go_roundw;case rel=>exact⟨k+1,by go_num,by omega,aH hB hb1 hB.size,hz2.out⟩
    case measure=>simp only[aK];omega
   ·have R:aY (mK ls=([],cQ (ls.getD k []))):=by
     have e:C5 ls n=cQ (ls.getD k []):=wD hz.out hck n hlt;show _=_;rw[R0.out,e,iN hck]
    have h':(cQ (ls.getD k []) !=0)=true:=by rw[bne_iff_ne];exact hck
    rw[aX]at Cm;generalize cQ (ls.getD k [])=c at *;generalize bs (ls.getD k [])=X at *;clear hck;go_wp2_with fail
    refine(Cm.out _ hB).mono ?_;rintro e W1⟨rfl,hb1⟩;go_wp2;go_ret2;exact⟨by rw[R.out];rfl,aH hB hb1 hB.size⟩
  ·obtain rfl:n=k:=by omega
   rw[ip hz.out]at R0;have HA2:=zq (HA.out hz.out);clear HA HC hz;go_wp2;go_loopw[6,7] (fun s i wr2=>∃k:Nat,s=aA (bs (oH ls k))∧i=aF aG k∧k≤n∧aJ w.heap.size w wr2∧aY (Cl ls k=0)) (fun _ i _=>n-(aK i).toNat);case atStart=>exact⟨0,rfl,rfl,bR _,hB,rfl⟩
   case round=>
    obtain⟨k,rfl,rfl,hk,hB,hz⟩:=hrel;by_cases hlt:k<n
    ·obtain⟨b,off,rfl,zK⟩:=Hc.out k (by rw[lS,Hn.out];exact hlt);rw[mR ls (by rw[Hn.out];exact hlt)]at zK;have YR:=(hB.cell (p:=⟨b,off+k,none⟩) (bF w _ zK)).trans zK;have yv:=zq (HA2.out k hlt hz.out);clear zK;by_cases hck:(tN (oH ls k) (ls.getD k [])).2=0
     ·have hz2:aY (Cl ls (k+1)=0):=sP hz.out hck;rw[hck]at yv;generalize bs (ls.getD k [])=X at *;obtain⟨Y,hY⟩:∃Y,bs (oH ls (k+1))=Y:=⟨_,rfl⟩;rw[hY]at yv;have HY:=zq hY;generalize bs (oH ls k)=Z at *;clear hck hY;go_wp2_with fail
      refine(yv.out _ hB).mono ?_;rintro e W1⟨rfl,hb1⟩;go_wp2;go_roundw;case rel=>exact⟨k+1,by rw[HY.out],by go_num,by omega,aH hB hb1 hB.size,hz2.out⟩
      case measure=>simp only[aK];omega
     ·have R:aY (mK ls=([],(tN (oH ls k) (ls.getD k [])).2)):=by
       have e:Cl ls n=(tN (oH ls k) (ls.getD k [])).2:=wD hz.out hck n hlt;show _=_;rw[R0.out,e,iN hck]
      have h':((tN (oH ls k) (ls.getD k [])).2 !=0)=true:=by rw[bne_iff_ne];exact hck
      generalize(tN (oH ls k) (ls.getD k [])).2=c at *;generalize bs (oH ls (k+1))=Y at *;generalize bs (oH ls k)=Z at *;generalize bs (ls.getD k [])=X at *;clear hck;go_wp2_with fail
      refine(yv.out _ hB).mono ?_;rintro e W1⟨rfl,hb1⟩;go_wp2;go_ret2;exact⟨by rw[R.out];rfl,aH hB hb1 hB.size⟩
    ·obtain rfl:n=k:=by omega
     rw[ip hz.out]at R0;go_wp2;go_ret2;exact⟨by rw[R0.out];rfl,hB⟩
end
section
open Go Go.RowKit
section
def jr(F:Fence)(n:Nat)(P:X6)(gf:Nat)(lb:Array bB)(nV:Nat→Array bB)(Kp:aE→aE→Prop)(N:Nat)(w:aE):Prop:=
 ∀(l:Nat)(J Jx:Nat→aE→Prop)(W:aE),aJ w.heap.size w W→(∀k V V',J k V→aJ V.heap.size V V'→J k V')→
  (∀k V,k<N→J k V→YieldAt F (n-1) P l (nV k) V fun e V'=>(e=aO (.bool true)∧J (k+1) V'∧Kp V V')∨(e=aO (.bool false)∧Jx (k+1) V'))→
  J 0 W→CallsIn F n P gf (#[.func (.yield l) #[] #[]]++lb) W fun e W'=>(∃v,e=aO v)∧(J N W'∨∃k,k≤N∧Jx k W')
theorem C6{W W':aE}(h:aJ W.heap.size W W'):W.grownBy W' none:=⟨h.os,h.tape,h.output,h.size,fun k hk _=>h.block k hk⟩
variable{F:Fence}{n:Nat}{P:X6}
theorem Py{g:Operand}{ps:Array Tmp}{assign body:Cz}{Q:Exit→Act→aE→Prop}{a:Act}{w:aE}
 (Ig:F.round=none)(h1:1≤n){gf:Nat}{lb:Array bB}(hg:a.eval g=.func (.func gf) #[] lb)(xm:F.fn gf)(eg:∀args w,(callFunc gf args).run P w=.ok (.enter gf args) w)
 {nV:Nat→Array bB}{Kp:aE→aE→Prop}{N:Nat}{w0:aE}(BF:jr F (n-1) P gf lb nV Kp N w0)(hb0:aJ w0.heap.size w0 w)
 (Kd:∀{A B C:aE},Kp A B→Kp B C→Kp A C)(KD:∀(W:aE)(l:Nat)(o o':Obj),w.heap.size≤l→W.heap[l]? =some o→o.isCells=false→o.isWalk=false→Kp W (W.putObj l o'))(rV:∀k,(nV k).size=ps.size)
 (I:Nat→aE→Prop)(Ix:Cz→Nat→aE→Prop)(hI:Bd w.heap.size I)(DP:∀c,Bd w.heap.size (Ix c))(h0:I 0 w)(vE:Nat→Act)
 (kW:∀(l:Nat)(k:Nat)(W:aE)(K:Act→aE→Prop),K (vE k) W→
  assign.wpIn (F.inRound l) (n-1-1) P (Exit.then K (fun _ _ _=>False)) {tmps:=(ps.zip (nV k)).foldl (fun t(p,v)=>t.setIfInBounds p v) a.tmps,defers:=[]} W)
 (tS:∀(l:Nat)(k:Nat)(W:aE),k<N→I k W→body.wpIn (F.inRound l) (n-1-1) P (sM w.heap.size Kp I Ix (k+1) W) (vE k) W)
 (pV:∀(D:Nat)(W:aE),w.heap.size≤D→I N W→W.heap[D]? =some (.deferred (some []))→Q .normal {a with defers:={target:=.collected D,args:= #[]}::a.defers} W)
 (tT:∀(D:Nat)(c:Cz)(k:Nat)(W:aE),w.heap.size≤D→k≤N→Ix c k W→W.heap[D]? =some (.deferred (some []))→c.wpIn F n P Q {a with defers:={target:=.collected D,args:= #[]}::a.defers} W):
 (BZ g ps assign body).wpIn F n P Q a w:=by
 refine wpIn_rangeFunc ?_
 intro fn YQ
 rw[Ig]
 have hD:=nL w (.deferred (some []))
 obtain⟨V,hV⟩:∃V,(w.alloc (.deferred (some []))).alloc (.loop (dP fn a ps assign body w.heap.size .ready none))=V:=⟨_,rfl⟩
 have kD:V.heap[w.heap.size]? =some (.deferred (some [])):=by rw[←hV];exact(Below.heap_alloc _ _ _ (by simp)).trans hD
 have kL:V.heap[w.heap.size+1]? =some (.loop (dP fn a ps assign body w.heap.size .ready none)):=by
  rw[←hV]
  have:=nL (w.alloc (.deferred (some []))) (.loop (dP fn a ps assign body w.heap.size .ready none))
  rwa[aS]at this
 have kI:I 0 V:=by rw[←hV];exact hI.alloc _ (hI.alloc _ h0)
 have kB:aJ w0.heap.size w0 V:=by
  rw[←hV];exact hb0.trans ((((aI _ w).alloc (aD _) _).alloc (by simp) _).mono hb0.size)
 refine⟨w.heap.size+1,[{target:=.collected w.heap.size,args:= #[]}],V,{target:=.fn (.func gf) lb,args:= #[.func (.yield (w.heap.size+1)) #[] #[]]},V,gf,
  #[.func (.yield (w.heap.size+1)) #[] #[]]++lb,V,?_,?_,?_,?_,fun _=>h1,?_⟩
 ·rw[←hV];exact run_enterLoop_outer _ _ _ _ _
 ·simp only[resolve,hg]
  simp[go_sem]
 ·intro f hf
  simp[Target.leads]at hf
  subst hf;exact xm
 ·simp[invoke,go_sem,eg]
 ·have yR:=BF (w.heap.size+1)
   (fun k W=>I k W∧W.heap[w.heap.size+1]? =some (.loop (dP fn a ps assign body w.heap.size .ready none))∧W.heap[w.heap.size]? =some (.deferred (some [])))
   (fun k W=>∃c,Ix c k W∧W.heap[w.heap.size+1]? =some (.loop (dP fn a ps assign body w.heap.size .done (some c)))∧W.heap[w.heap.size]? =some (.deferred (some [])))
   V kB (fun k A B⟨h1,h2,h3⟩hb=>⟨hI k A B none h1 (C6 hb) (fun r e=>by cases e),(hb.block _ (Array.getElem?_eq_some_iff.1 h2).1).trans h2,(hb.block _ (Array.getElem?_eq_some_iff.1 h3).1).trans h3⟩) ?round ⟨kI,kL,kD⟩
  case round=>
   rintro k W hk⟨hi,hl,hd⟩
   have hlt:w.heap.size+1<W.heap.size:=(Array.getElem?_eq_some_iff.1 hl).1
   have hy:=run_yield (P:=P) (args:=nV k) hl (by exact rV k)
   refine⟨fn,_,assign,body,hy,roundIn_of_wpIn YQ (kW _ k W _ ⟨_,run_beginRound hl rfl,?_⟩)⟩
   obtain⟨U,hU⟩:∃U,W.putObj (w.heap.size+1) (.loop (dP fn a ps assign body w.heap.size .busy none))=U:=⟨_,rfl⟩
   have uL:U.heap[w.heap.size+1]? =some (.loop (dP fn a ps assign body w.heap.size .busy none)):=by rw[←hU];exact mA hlt
   have uD:U.heap[w.heap.size]? =some (.deferred (some [])):=by rw[←hU];exact(cH (by omega)).trans hd
   have uK:Kp W U:=by rw[←hU];exact KD _ _ _ _ (by omega) hl rfl rfl
   have uI:I k U:=by rw[←hU];exact hI.putObj _ hi (by omega) hl rfl
   have GA:∀(j:Option Cz)(X:aE),KeepsFrom w.heap.size U X→
    X.heap[w.heap.size+1]? =some (.loop (dP fn a ps assign body w.heap.size .busy none))∧
    (Instr.endRound (w.heap.size+1) j).run P X=.ok (.bool j.isNone) (X.putObj (w.heap.size+1) (.loop (dP fn a ps assign body w.heap.size (if j.isNone then .ready else .done) j)))∧
    (X.putObj (w.heap.size+1) (.loop (dP fn a ps assign body w.heap.size (if j.isNone then .ready else .done) j))).heap[w.heap.size+1]? =some (.loop (dP fn a ps assign body w.heap.size (if j.isNone then .ready else .done) j))∧
    (X.putObj (w.heap.size+1) (.loop (dP fn a ps assign body w.heap.size (if j.isNone then .ready else .done) j))).heap[w.heap.size]? =some (.deferred (some [])):=by
    intro j X hX
    have xL:=hX.same _ _ (by omega) uL rfl
    exact⟨xL,run_endRound (P:=P) j xL,mA (Array.getElem?_eq_some_iff.1 xL).1,(cH (by omega)).trans (hX.same _ _ (aD _) uD rfl)⟩
   show Code.wpIn _ _ _ _ _ _ (W.putObj (w.heap.size+1) (.loop (dP fn a ps assign body w.heap.size .busy none)))
   rw[hU]
   refine wpIn_mono (tS _ k U hk uI) ?_
   intro e a3 X hp
   have BG:∀c:Cz,KeepsFrom w.heap.size U X∧Ix c (k+1) X→_:=fun c hc=>(GA (some c) X hc.1)
   cases e with
   |normal=>
    obtain⟨xL,xr,yL,yD⟩:=GA none X hp.1
    exact⟨_,_,xr,.inl ⟨rfl,⟨hI.putObj _ hp.2.2 (by omega) xL rfl,yL,yD⟩,Kd (Kd uK hp.2.1) (KD _ _ _ _ (by omega) xL rfl rfl)⟩⟩
   |ret=>
    obtain⟨xL,xr,yL,yD⟩:=BG .ret hp
    exact⟨_,_,xr,.inr ⟨rfl,.ret,(DP _).putObj _ hp.2 (by omega) xL rfl,yL,yD⟩⟩
   |exit id=>
    obtain⟨xL,xr,yL,yD⟩:=BG (.exit id) hp
    exact⟨_,_,xr,.inr ⟨rfl,.exit id,(DP _).putObj _ hp.2 (by omega) xL rfl,yL,yD⟩⟩
   |goto t=>
    obtain⟨xL,xr,yL,yD⟩:=BG (.goto t) hp
    exact⟨_,_,xr,.inr ⟨rfl,.goto t,(DP _).putObj _ hp.2 (by omega) xL rfl,yL,yD⟩⟩
   |panic ch=>exact hp.elim
   |outgrown=>exact hp.elim
  refine yR.mono ?_
  rintro e W2⟨⟨v,rfl⟩,(⟨hi,hl,hd⟩|⟨k,hk,c,hi,hl,hd⟩)⟩
  ·exact⟨none,_,run_endLoop (P:=P) hl (by simp[dP]),pV _ _ (aD _) (hI.putObj _ hi (by omega) hl rfl) ((cH (by omega)).trans hd)⟩
  ·exact⟨some c,_,run_endLoop (P:=P) hl (by simp[dP]),tT _ c k _ (aD _) hk ((DP c).putObj _ hi (by omega) hl rfl) ((cH (by omega)).trans hd)⟩
theorem L7{g:Operand}{ps:Array Tmp}{assign body:Cz}{Q:Exit→Act→aE→Prop}{a:Act}{w:aE}
 {gf:Nat}{lb:Array bB}(hg:a.eval g=.func (.func gf) #[] lb)(eg:∀args w,(callFunc gf args).run P w=.ok (.enter gf args) w)
 {nV:Nat→Array bB}{Kp:aE→aE→Prop}{N:Nat}(BF:jr dW 8 P gf lb nV Kp N w)
 (Kd:∀{A B C:aE},Kp A B→Kp B C→Kp A C)(KD:∀(W:aE)(l:Nat)(o o':Obj),w.heap.size≤l→W.heap[l]? =some o→o.isCells=false→o.isWalk=false→Kp W (W.putObj l o'))(rV:∀k,(nV k).size=ps.size)
 (I:Nat→aE→Prop)(Ix:Cz→Nat→aE→Prop)(hI:Bd w.heap.size I)(DP:∀c,Bd w.heap.size (Ix c))(h0:I 0 w)(vE:Nat→Act)
 (kW:∀(l:Nat)(k:Nat)(W:aE)(K:Act→aE→Prop),K (vE k) W→
  assign.wpIn (Fence.wide.inRound l) 7 P (Exit.then K (fun _ _ _=>False)) {tmps:=(ps.zip (nV k)).foldl (fun t(p,v)=>t.setIfInBounds p v) a.tmps,defers:=[]} W)
 (tS:∀(l:Nat)(k:Nat)(W:aE),k<N→I k W→body.wpIn (Fence.wide.inRound l) 7 P (sM w.heap.size Kp I Ix (k+1) W) (vE k) W)
 (pV:∀(D:Nat)(W:aE),w.heap.size≤D→I N W→W.heap[D]? =some (.deferred (some []))→Q .normal {a with defers:={target:=.collected D,args:= #[]}::a.defers} W)
 (tT:∀(D:Nat)(c:Cz)(k:Nat)(W:aE),w.heap.size≤D→k≤N→Ix c k W→W.heap[D]? =some (.deferred (some []))→c.wp P Q {a with defers:={target:=.collected D,args:= #[]}::a.defers} W):
 (BZ g ps assign body).wp P Q a w:=
 (wpIn_wide (n:=9)).1 (Py (F:=dW) rfl (by decide) hg trivial eg BF (aI _ _) Kd KD rV I Ix hI DP h0 vE kW tS pV (fun D c k W h1 h2 h3 h4=>wpIn_wide.2 (tT D c k W h1 h2 h3 h4)))
end
end
section
open Go Go.RowKit Go.Shelf Go.Lib
section
attribute[local go_sem] mD
def eS(ls:List (List UInt8))(k:Nat):Int:=(tN (oH ls k) (ls.getD k [])).2
abbrev encS(ls:List (List UInt8))(k:Nat):Array bB:= #[aA (bs (oH ls (k+1))),aF aG (eS ls k)]
theorem Xv{f:Nat→Int}:∀{n:Nat},(∀j,j<n→f j=0)→qK f n=0
 |0,_=>rfl
 |n+1,h=>by rw[qK,Xv fun j hj=>h j (by omega),ip rfl];exact h n (by omega)
def Eb(B Bs:Nat)(V V':aE):Prop:=aJ B V V'∧dA (·=Bs) V V'
theorem Eb.trans{B Bs:Nat}{X Y Z:aE}(h:Eb B Bs X Y)(k:Eb B Bs Y Z):Eb B Bs X Z:=⟨h.1.trans k.1,h.2.trans k.2⟩
theorem Eb.refl(B Bs:Nat)(X:aE):Eb B Bs X X:=⟨aI _ _,dA.refl _ _⟩
theorem Eb.call{B Bs:Nat}{X Y:aE}(h:aJ X.heap.size X Y)(hB:B≤X.heap.size)(hs:Bs<X.heap.size):Eb B Bs X Y:=⟨h.mono hB,dA.below h (by rintro k rfl;exact hs)⟩
theorem js(Bs B:Nat)(a:Option dE)(len cap:Nat)(ls:List (List UInt8))(N:Nat)(hl:ls.length=len)(hx:len≤4096)(oB:∀k,k<len→(bs (ls.getD k [])).size≤8000000)
 (hN:N≤len)(ta:∀j,j+1<N→eS ls j=0)(Uq:N<len→0<N∧eS ls (N-1)≠0)(w:aE)(hB:B≤w.heap.size)(hBl:Bs<w.heap.size)
 (hE:∀V,aJ B w V→eZ V)(hc:∀V,aJ B w V→rW V a (strs ls))(hBs:w.cell? ⟨Bs,0,none⟩=some (aB a len cap)):
 jr dW 8 aC 150 #[cB (some ⟨Bs,0,none⟩)] (encS ls) (Eb B Bs) N w:=by
 intro l J Jx W hW hJ hY h0;have hBs:=(hW.cell (p:=⟨Bs,0,none⟩) hBl).trans hBs;have hE:=zq (fun V(h:aJ B W V)=>hE V ((hW.mono hB).trans h));have hc:=zq (fun V(h:aJ B W V)=>hc V ((hW.mono hB).trans h));have Zg:B≤W.heap.size:=cC hB hW.size;have hBl':Bs<W.heap.size:=bQ hBl hW.size;have Hl:=zq hl;clear hW hl hB hBl;have HA:aY (∀k,k<N→∀V,aJ B W V→aQ aC 151 #[aA (bs (oH ls k)),aA (bs (ls.getD k []))] V (Rt (bO #[aA (bs (oH ls (k+1))),aF aG (eS ls k)]) V)):=by
  intro k hk V hV;have he:Cl ls k=0:=Xv fun j hj=>ta j (by omega);have s1:(bs (oH ls k)).size≤700:=CS (by rw[aX];exact Px he);exact Xr (bs (oH ls k)) (bs (ls.getD k [])) V (hE.out V hV) (by omega) (oB k (by omega))
 have HN1:=zq ta;have KF:=zq Uq;clear ta Uq oB hE;refine callsIn_of_wp func150 rfl trivial ?_ rfl;simp only[ntmps150,List.size_toArray,List.length_cons,List.length_nil,Nat.reduceAdd,Nat.reduceSub,Array.replicate_succ,Array.replicate_zero,List.push_toArray,List.append_toArray,List.nil_append,List.cons_append];gi_wp2;gi_loopw [3,9] (fun s i wr=>∃k:Nat,s=aA (bs (oH ls k))∧i=aF aG (k:Int)∧k≤N∧(k=N→N=len)∧J k wr∧Eb B Bs W wr)
  (fun _ i _=>len-(aK i).toNat)
 case atStart=>exact⟨0,rfl,by simp,bR _,fun e=>by have:=KF.out;omega,h0,Eb.refl _ _ _⟩
 case round=>
  obtain⟨k,rfl,rfl,hk,hkN,ij,KA⟩:=hrel;have hwB:B≤wr.heap.size:=cC Zg KA.1.size;have hwBs:Bs<wr.heap.size:=bQ hBl' KA.1.size;by_cases hlt:k<N
  ·have kN:k<len:=by omega
   obtain⟨b,off,jt,zK⟩:=hc.out wr KA.1 k (by rw[lS,Hl.out];exact kN);subst jt;rw[mR ls (by rw[Hl.out];exact kN)]at zK;have yv:=zq (HA.out k hlt wr KA.1);have hY':=zq (fun V(h:aJ wr.heap.size wr V)=>hY k V hlt (hJ k wr V ij h));unfold encS at hY';have hEk:=zq (fun h:k+1<N=>HN1.out k h);obtain⟨c,hcE⟩:∃c,eS ls k=c:=⟨_,rfl⟩;obtain⟨Y,hYe⟩:∃Y,bs (oH ls (k+1))=Y:=⟨_,rfl⟩;rw[hcE,hYe]at yv hY';have HcE:=zq hcE;have HYe:=zq hYe;clear hcE hYe;generalize bs (oH ls k)=Z at *;generalize bs (ls.getD k [])=X at *;clear hkN;gi_wp2_with fail;refine⟨trivial,(callsIn_wide.2 yv.out).mono ?_⟩;rintro e W2⟨rfl,hb2⟩;obtain⟨fn,tmps,assign,body,hy,hR⟩:=hY'.out W2 hb2;gi_wp2_with fail;refine hR.mono ?_;rintro e W3 (⟨rfl,QO,hk3⟩|⟨rfl,Vg⟩)
   ·have hnx3:=(KA.trans (Eb.call hb2 hwB hwBs)).trans hk3;by_cases h0:c=0
    ·have lE:k+1=N→N=len:=by
      intro e;refine fZ fun q=>?_;have:=KF.out (by omega);rw[←e,Nat.add_sub_cancel,HcE.out]at this;exact this.2 h0
     subst h0;gi_wp2;go_roundw;case rel=>exact⟨k+1,by rw[HYe.out],by go_num,by omega,lE,QO,hnx3⟩
     case measure=>simp only[aK];omega
    ·have hc':(c !=0)=true:=by rw[bne_iff_ne];exact h0
     have hkn:k+1=N:=by
      refine fZ fun q=>?_;have:=hEk.out (by omega);rw[HcE.out]at this;exact h0 this
     gi_wp2;refine cD (Bh rfl _ _ _) rfl ?_;rw[hkn]at QO;exact⟨⟨_,rfl⟩,.inl QO⟩
   ·gi_wp2;refine cD (Bh rfl _ _ _) rfl ?_;exact⟨⟨_,rfl⟩,.inr ⟨k+1,by omega,Vg⟩⟩
  ·obtain rfl:N=k:=by omega
   have:=hkN rfl;have hle:¬(N:Int)<(len:Int):=by omega
   have HJ:=zq ij;clear hkN this;gi_wp2;go_end0;exact⟨⟨_,rfl⟩,.inl HJ.out⟩
end
section
attribute[local go_sem] mD
theorem fF{P:X6}{fn:Func}{p q:Tmp}{ty tz:TypeId}(h:fn.results= #[.cell p ty,.cell q tz])(tmps:Array bB)(w:aE)(g1 g2:Nat)(v1 v2:bB)
 (hp:tmps.getD p iZ=cB (some ⟨g1,0,none⟩))(hq:tmps.getD q iZ=cB (some ⟨g2,0,none⟩))(h1:w.cell? ⟨g1,0,none⟩=some v1)(h2:w.cell? ⟨g2,0,none⟩=some v2)
 (ha:∀w,(isAgg ty).run P w=.ok false w)(hb:∀w,(isAgg tz).run P w=.ok false w):
 (results fn tmps).run P w=.ok (bO #[v1,v2]) w:=by
 have xq:tmps[p]?.getD iZ=cB (some ⟨g1,0,none⟩):=by simpa using hp
 have hq':tmps[q]?.getD iZ=cB (some ⟨g2,0,none⟩):=by simpa using hq
 simp[results,h,go_sem,xq,hq',h1,h2,ha,hb]
theorem ju(a:Option dE)(len cap:Nat)(w:aE):
 aQ aC 83 #[aB a len cap] w fun e w'=>e=aO (.func (.func 150) #[] #[cB (some ⟨w.heap.size,0,none⟩)])∧w'=w.alloc (aL #[aB a len cap] 47):=by
 go_enter func83,ntmps83;go_wp2;go_ret;exact⟨rfl,rfl⟩
theorem Sx(a:Option dE)(n cap:Nat)(ls:List (List UInt8))(w:aE)(hE:eZ w)(hn:ls.length=n)(hx:n≤9223372036854775807)(oB:∀k,k<n→(bs (ls.getD k [])).size≤8000000)(hc:rW w a (strs ls))
 (GM:4096<n∨C5 ls n≠0):
 aQ aC 32 #[aB a n cap] w (Rt (bO #[aA (bs (mK ls).1),aF aG (mK ls).2]) w):=by
 have R0:aY (mK ls=if 4096<n then([],4)else if C5 ls n=0 then(if Cl ls n=0 then(oH ls n,0)else([],Cl ls n))else([],C5 ls n)):=by
  show _=_;rw[mK,hn]
 have b0:bZ ((w.alloc (aL #[aA {data:= #[]}] 24)).alloc (aL #[aF aG 0] 29)) w.heap.size #[aA {data:= #[]}] 24:=(bZ.new w _ _).alloc _;have b1:bZ ((w.alloc (aL #[aA {data:= #[]}] 24)).alloc (aL #[aF aG 0] 29)) (w.heap.size+1) #[aF aG 0] 29:=by
  have:=bZ.new (w.alloc (aL #[aA {data:= #[]}] 24)) #[aF aG 0] 29;rwa[aS]at this
 have fP:aJ w.heap.size w ((w.alloc (aL #[aA {data:= #[]}] 24)).alloc (aL #[aF aG 0] 29)):=((aI _ w).alloc (aD _) _).alloc (by simp) _;by_cases hbig:4096<n
 ·have R:aY (mK ls=([],4)):=by show _=_;rw[R0.out,ip hbig]
  have Hb:=zq (And.intro b0 (And.intro b1 fP));clear R0 b0 b1 fP;go_enter func32,ntmps32;go_wp2;refine cD (fF QG _ _ w.heap.size (w.heap.size+1) (aA {data:= #[]}) (aF aG 4) rfl rfl ?_ ?_ Wz pN) rfl ⟨by rw[R.out];rfl,((aI _ w).alloc (aD _) _).alloc (by simp) _⟩
  ·exact((bZ.new w _ _).alloc _).cell 0
  ·have:=(bZ.new (w.alloc (aL #[aA {data:= #[]}] 24)) #[aF aG 4] 29).cell 0;rwa[aS]at this
 ·have hz:C5 ls n≠0:=by rcases GM with h|h;(exact absurd h hbig);exact h
  rw[iN hbig,iN hz]at R0;have HC:=zq (fun(k:Nat)(h:k<n)(W:aE)(hW:aJ w.heap.size w W)=>DQ (bs (ls.getD k [])) W (hE.below hW) (oB k h));have Hc:=zq hc;have Hn:=zq hn;have Hz:=zq hz;have Hb:=zq (And.intro b0 (And.intro b1 fP));clear hc hn oB hE b0 b1 fP GM hz;have hn4:n≤4096:=by omega
  go_enter func32,ntmps32;go_wp2;go_loopw[15] (fun i wr=>∃k:Nat,i=aF aG k∧k≤n∧aJ w.heap.size w wr∧bZ wr w.heap.size #[aA {data:= #[]}] 24∧bZ wr (w.heap.size+1) #[aF aG 0] 29∧aY (C5 ls k=0)) (fun i _=>n-(aK i).toNat);case atStart=>exact⟨0,rfl,bR _,Hb.out.2.2,Hb.out.1,Hb.out.2.1,rfl⟩
  case round=>
   obtain⟨k,rfl,hk,hB,b0,b1,hz⟩:=hrel;by_cases hlt:k<n
   ·obtain⟨b,off,rfl,zK⟩:=Hc.out k (by rw[lS,Hn.out];exact hlt);rw[mR ls (by rw[Hn.out];exact hlt)]at zK;have YR:=(hB.cell (p:=⟨b,off+k,none⟩) (bF w _ zK)).trans zK;have Cm:=zq (HC.out k hlt);have B0:=zq b0;have B1:=zq b1;clear zK b0 b1;by_cases hck:cQ (ls.getD k [])=0
    ·have hz2:aY (C5 ls (k+1)=0):=sP hz.out hck;rw[aX,hck]at Cm;generalize bs (ls.getD k [])=X at *;clear hck;go_wp2_with fail
     refine(Cm.out _ hB).mono ?_;rintro e W1⟨rfl,hb1⟩;go_wp2;go_roundw;case rel=>exact⟨k+1,by go_num,by omega,aH hB hb1 hB.size,B0.out.below hb1 B0.out.lt,B1.out.below hb1 B1.out.lt,hz2.out⟩
     case measure=>simp only[aK];omega
    ·have R:aY (mK ls=([],cQ (ls.getD k []))):=by
      have e:C5 ls n=cQ (ls.getD k []):=wD hz.out hck n hlt;show _=_;rw[R0.out,e]
     have h':(cQ (ls.getD k []) !=0)=true:=by rw[bne_iff_ne];exact hck
     rw[aX]at Cm;generalize cQ (ls.getD k [])=c at *;generalize bs (ls.getD k [])=X at *;clear hck;go_wp2_with fail
     refine(Cm.out _ hB).mono ?_;rintro e W1⟨rfl,hb1⟩;have gG:=aH hB hb1 hB.size;have q0:=B0.out.below hb1 B0.out.lt;have q1:=B1.out.below hb1 B1.out.lt;have c0:=q0.cell 0;have c1:=q1.cell 0;have f0:=q0.fz 0;have f1:=q1.fz 0;have l0:=q0.lt;have l1:=q1.lt;simp only[List.getElem?_toArray,List.getElem?_cons_zero]at c0 c1;have Q0:=zq q0;have Q1:=zq q1;clear q0 q1;go_wp2;refine cD (fF QG _ _ w.heap.size (w.heap.size+1) (aA {data:= #[]}) (aF aG c) rfl rfl ?_ ?_ Wz pN) rfl ⟨by rw[R.out];rfl,(gG.setCell (aD _) _).setCell (by exact Nat.le_succ _) _⟩
     ·exact((Q0.out.set 0 _).other _ (by show w.heap.size≠w.heap.size+1;omega)).cell 0
     ·exact((Q1.out.other _ (by show w.heap.size+1≠w.heap.size;omega)).set 0 _).cell 0
   ·obtain rfl:n=k:=by omega
    exact absurd hz.out Hz.out
end
end
end Go.Proofs.YtcimoodjlopdaaaGreatDoor
