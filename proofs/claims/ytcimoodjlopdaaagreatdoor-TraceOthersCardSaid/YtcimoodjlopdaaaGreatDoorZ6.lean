import Derived.Outline
import Derived.Deep.RegionHeld3
import Derived.Below
import Derived.RegionTactic
import Derived.WalkKit
import Derived.KernelRfl
import Derived.OrdersIn
import Derived.RangeFuncWrites
import Derived.Test.YtcimoodjlopdaaaGreatDoorZ0
import Derived.Test.YtcimoodjlopdaaaGreatDoorZ5
namespace Go.Proofs.YtcimoodjlopdaaaGreatDoor
set_option maxRecDepth 100000
set_option maxHeartbeats 8000000
set_option linter.all false
open Go.Proofs.Tryz
open Bool renaming and_eq_true->bT,or_eq_true->iB,true_and->xW
open Classical renaming byContradiction->fZ
open Go renaming World->aE,Calls->aQ,Value->bB,below_drewN->bH,maxLen->cA,bodyPost_ret->cD,run_string_add_lists->eX,KeepsFrom->kC,results->qV,Oper->A8,Code->Cz,Act->EI,wpAnyIn->OJ,Program->X6
open Go.AllReadyIn renaming cons->dV
open Go.ByteArray renaming toList_eq->cI
open Go.Ending renaming returned->aO
open Go.IntKind renaming i64->aG
open Go.IntWalk renaming i64_in->aP
open Go.Lib renaming itoa->bL,extract_to_end->qF
open Go.Obj renaming cells->aL
open Go.Op renaming stringOp->mP
open Go.Proofs.Tryz renaming prog->aC,results136->iL,ntmps101->Bc,ntmps37->Cr,func101->Cs,func37->Ei
open Go.Region renaming ready->jQ,wanted->Ay,noSelect->Ku,free->T4
open Go.RowKit renaming Below->aJ,intOf->aK,Hid->aY
open Go.RowKit.Below renaming refl->aI,setCell->iX,alloc->lJ
open Go.Value renaming string->aA,int->aF,bool->aM,tuple->bO,agg->dM
open Go.World renaming putObj_heap_other->cH,putObj_heap_same->mA,alloc_heap_new->nL
open Int renaming natAbs_natCast->bP,natCast_ediv->Nv,mul_neg->X1
open List renaming length_cons->cO,eq_nil_of_length_eq_zero->dD,length_take->iW,all_cons->mG,append_nil->nX,take_succ_cons->X5,head?_take->vg
open Nat renaming le_refl->aD,pow_le_pow_right->bN,lt_of_lt_of_le->bQ,zero_le->bR,gcd->cM,gcd_comm->qZ,pos_of_ne_zero->dz
open Option.some renaming injEq->uH
open Rat renaming divInt_ofNat->vf
open Trans renaming trans->cL
section
open Go Go.RowKit Go.Lib
theorem Gx(a b:Int):mkRat (wN a b) b.natAbs=Rat.divInt a b:=by
 by_cases h:b<0
 ·obtain⟨d,rfl⟩:∃d:Nat,b= -(d:Int):=⟨(-b).toNat,by omega⟩;rw[wN,ip h,Rat.divInt_neg',vf,Int.natAbs_neg,bP]
 ·obtain⟨d,rfl⟩:∃d:Nat,b=(d:Int):=⟨b.toNat,by omega⟩;rw[wN,iN h,bP,vf]
def Sp(x y:Rat):List UInt8×Int:=if iS x y=true then(aV (x/y),0)else([],4)
theorem ie(x y:Rat):M5 x.num x.den y.den y.num=Sp x y:=by
 have e:(x.den:Int)*y.num=y.num*x.den:=Int.mul_comm _ _;rw[M5,e,Gx,BC];rfl
theorem YP{s t:List UInt8}(h:dZ s t=0)(h0:cF t≠0):qH s t=Sp (cF s) (cF t):=by rw[qH,ip h,iN h0];rfl
theorem Vc(x y:Rat):mkRat (wN (x.num*y.den) y.num) (x.den*y.num.natAbs)=x/y:=by
 have hx:(0:Int)<x.den:=by have:=x.den_pos;omega
 have e:wN (x.num*y.den) y.num=wN (x.num*y.den) (y.num*x.den):=by
  unfold wN;have:y.num<0↔y.num*x.den<0:=by
   constructor
   ·intro k;exact Int.mul_neg_of_neg_of_pos k hx
   ·intro k;apply Int.lt_of_not_ge;intro c;have:=Int.mul_nonneg c (Int.le_of_lt hx);omega
  by_cases k:y.num<0
  ·rw[ip k,ip (this.1 k)]
  ·rw[iN k,iN (mt this.2 k)]
 have e2:x.den*y.num.natAbs=(y.num*x.den).natAbs:=by rw[Int.natAbs_mul,bP,Nat.mul_comm]
 rw[e,e2,Gx,BC]
theorem Xf(a b:ByteArray)(w:aE)(hE:eZ w)(FG:a.size≤cA)(uN:b.size≤cA):
 aQ aC 37 #[aA a,aA b] w (Rt (bO #[aA (bs (qH a.data.toList b.data.toList).1),aF aG (qH a.data.toList b.data.toList).2]) w):=by
 have HC:=zq (yO a b w hE FG uN);by_cases h:dZ a.data.toList b.data.toList=0
 ·obtain⟨ga,gb⟩:=lM h;obtain⟨ea,hx⟩:=fT ga;obtain⟨eb,hy⟩:=fT gb;rw[h]at HC;have hz:(b.toList==[48])=decide ((cF b.data.toList).num=0):=by
   rw[eb,vC,show(bs (aV (cF b.data.toList))).data.toList=aV (cF b.data.toList)from rfl,kT];exact Ao _
  by_cases h0:cF b.data.toList=0
  ·rw[qH,ip h,ip h0];rw[decide_eq_true (Rat.num_eq_zero.2 h0)]at hz;clear h ga gb FG uN ea eb hx hy h0;go_enter Ei,Cr;go_wp2_with fail
   refine ka HC.out fun W0 hb0=>?_;go_wp2;go_ret2;exact⟨rfl,hb0⟩
  rw[YP h h0];have Gf:(cF b.data.toList).num≠0:=mt Rat.num_eq_zero.1 h0;rw[decide_eq_false Gf]at hz;clear h ga gb FG uN h0;generalize cF a.data.toList=x at *;generalize cF b.data.toList=y at *;by_cases hs:CU x=true∧CU y=true
  ·have Ha:aY (Sp x y=(aV (x/y),0)):=by
    show _=_;rw[Sp,ip (oG (qW hs.1) (qW hs.2) (by decide))]
   have H1:=zq (fun W=>lR x W hx hs.1);have H2:=zq (fun W=>lR y W hy hs.2);rw[←ea]at H1;rw[←eb]at H2;obtain⟨n1,d1⟩:=qW hs.1;obtain⟨n2,d2⟩:=qW hs.2;have b1:=qI (b:=(y.den:Int)) n1 (by omega);have b3:=qI (a:=(x.den:Int)) (b:=y.num) (by omega) n2;have hd:x.den*y.num.natAbs≠0:=Nat.mul_ne_zero x.den_nz (by omega);have HM:aY (mkRat (wN (x.num*y.den) y.num) (x.den*y.num.natAbs)=x/y):=Vc x y;have ev:((x.den*y.num.natAbs:Nat):Int)=if y.num<0 then -((x.den:Int)*y.num)else(x.den:Int)*y.num:=by
    rw[Int.natCast_mul];split
    ·rw[show((y.num.natAbs:Nat):Int)= -y.num by omega,X1]
    ·rw[show((y.num.natAbs:Nat):Int)=y.num by omega]
   have eu:wN (x.num*y.den) y.num=if y.num<0 then -(x.num*y.den)else x.num*y.den:=rfl
   have bu:(wN (x.num*y.den) y.num).natAbs<10^18:=by rw[eu];split <;>omega
   have bv:((x.den*y.num.natAbs:Nat):Int).natAbs<10^18:=by rw[ev];split <;>omega
   have Hq:=zq (fun W=>AP (wN (x.num*y.den) y.num) (x.den*y.num.natAbs) W (by omega) (by omega) hd (by omega));unfold iv at H1 H2 Hq;by_cases hneg:y.num<0
   ·rw[ip hneg]at ev eu;have w1:IntKind.i64.wrap (x.num* -(y.den:Int))=wN (x.num*y.den) y.num:=by rw[eu,X1];exact aP _ (by omega)
    have w2:IntKind.i64.wrap ((x.den:Int)* -y.num)=((x.den*y.num.natAbs:Nat):Int):=by rw[ev,X1];exact aP _ (by omega)
    have w3:IntKind.i64.wrap (-y.num)= -y.num:=aP _ (by omega);have w4:IntKind.i64.wrap (-(y.den:Int))= -(y.den:Int):=aP _ (by omega);clear ev eu bu bv;generalize wN (x.num*y.den) y.num=u at *;generalize x.den*y.num.natAbs=v at *;clear hs b1 b3 hd n1 n2 d1 d2 hx hy hE ea eb Gf;go_enter Ei,Cr;go_wp2_with fail
    refine ka HC.out fun W0 hb0=>?_;go_wp2_with fail
    refine(H1.out _).mono ?_;rintro e W1⟨rfl,k1,rfl⟩;go_wp2_with fail
    refine(H2.out _).mono ?_;rintro e W2⟨rfl,k2,rfl⟩;go_wp2_with fail
    refine ka (Hq.out _) fun W3 hb=>?_;go_wp2;go_ret2;exact⟨by rw[Ha.out,←HM.out];rfl,aH (bH hb0 _) hb hb0.size⟩
   ·rw[iN hneg]at ev eu;have w1:IntKind.i64.wrap (x.num*(y.den:Int))=wN (x.num*y.den) y.num:=by rw[eu];exact aP _ (by omega)
    have w2:IntKind.i64.wrap ((x.den:Int)*y.num)=((x.den*y.num.natAbs:Nat):Int):=by rw[ev];exact aP _ (by omega)
    clear ev eu bu bv;generalize wN (x.num*y.den) y.num=u at *;generalize x.den*y.num.natAbs=v at *;clear hs b1 b3 hd n1 n2 d1 d2 hx hy hE ea eb Gf;go_enter Ei,Cr;go_wp2_with fail
    refine ka HC.out fun W0 hb0=>?_;go_wp2_with fail
    refine(H1.out _).mono ?_;rintro e W1⟨rfl,k1,rfl⟩;go_wp2_with fail
    refine(H2.out _).mono ?_;rintro e W2⟨rfl,k2,rfl⟩;go_wp2_with fail
    refine ka (Hq.out _) fun W3 hb=>?_;go_wp2;go_ret2;exact⟨by rw[Ha.out,←HM.out];rfl,aH (bH hb0 _) hb hb0.size⟩
  ·have P1:=zq (fun W=>oC x W hx);have P2:=zq (fun W=>oC y W hy);have H1:=zq (fun W=>qJ x W hx);have H2:=zq (fun W=>qJ y W hy);rw[←ea]at P1 H1;rw[←eb]at P2 H2;have hz2:(x.den:Int)*y.num≠0:=Int.mul_ne_zero (by have:=x.den_nz;omega) Gf;have HM:=zq (fun(W:aE)(hb:aJ w.heap.size w W)=>Xd x.num x.den y.den y.num W (hE.below hb) hx.1 hx.d hy.d hy.1 hz2);rw[ie]at HM;clear hz2 hx hy hE ea eb Gf;rcases IB hs with⟨h1,h2⟩|⟨h1,h2⟩|⟨h1,h2⟩;all_goals
    rw[h1]at H1;rw[h2]at H2;clear h1 h2 hs;go_enter Ei,Cr;go_wp2_with fail
    refine ka HC.out fun W0 hb0=>?_;go_wp2_with fail
    refine(H1.out _).mono ?_;rintro e W1⟨⟨_,_,rfl⟩,k1,rfl⟩;go_wp2_with fail
    refine(H2.out _).mono ?_;rintro e W2⟨⟨_,_,rfl⟩,k2,rfl⟩;go_wp2_with fail
    refine(P1.out _).mono ?_;rintro e W3⟨rfl,k3,rfl⟩;go_wp2_with fail
    refine(P2.out _).mono ?_;rintro e W4⟨rfl,k4,rfl⟩;go_wp2_with fail
    refine ka (HM.out _ (bH hb0 _)) fun W5 hb5=>?_;go_wp2;go_ret2;exact⟨rfl,aH (bH hb0 _) hb5 hb0.size⟩
 ·rw[qH,iN h];generalize dZ a.data.toList b.data.toList=c at *;go_enter Ei,Cr;go_wp2_with fail
  refine ka HC.out fun W1 hb1=>?_;go_wp2;go_ret2;exact⟨rfl,hb1⟩
def D9(x y:Rat):Int×Int:=if iS x y=true then(mJ x y,0)else(0,4)
theorem N0{s t:List UInt8}(h:dZ s t=0):gY s t=D9 (cF s) (cF t):=by rw[gY,ip h];rfl
theorem M6(x y:Int)(w:aE)(hx:x.natAbs<10^300)(hy:y.natAbs<10^300):
 aQ aC 161 #[aA (bs (bL x)),aA (bs (bL y))] w (Rt (bO #[aF aG (uO (x-y)),aF aG 0]) w):=by
 have:=RI (bs (bL x)) (bs (bL y)) w (by have:=eH hx;simp only[cA];omega) (by have:=eH hy;simp only[cA];omega);rwa[aX,aX,NT hx hy]at this
theorem JA(a b:ByteArray)(w:aE)(hE:eZ w)(FG:a.size≤cA)(uN:b.size≤cA):
 aQ aC 101 #[aA a,aA b] w (Rt (bO #[aF aG (gY a.data.toList b.data.toList).1,aF aG (gY a.data.toList b.data.toList).2]) w):=by
 have HC:=zq (yO a b w hE FG uN);by_cases h:dZ a.data.toList b.data.toList=0
 ·obtain⟨ga,gb⟩:=lM h;obtain⟨ea,hx⟩:=fT ga;obtain⟨eb,hy⟩:=fT gb;rw[N0 h];rw[h]at HC;clear h ga gb FG uN;generalize cF a.data.toList=x at *;generalize cF b.data.toList=y at *;by_cases hs:CU x=true∧CU y=true
  ·have Ha:aY (D9 x y=(uO (x.num*y.den-y.num*x.den),0)):=by
    show _=_;rw[D9,ip (oG (qW hs.1) (qW hs.2) (by decide)),CN]
   have H1:=zq (fun W=>lR x W hx hs.1);have H2:=zq (fun W=>lR y W hy hs.2);rw[←ea]at H1;rw[←eb]at H2;obtain⟨n1,d1⟩:=qW hs.1;obtain⟨n2,d2⟩:=qW hs.2;have b1:=qI (b:=(y.den:Int)) n1 (by omega);have b3:=qI (a:=y.num) (b:=(x.den:Int)) n2 (by omega);have w1:IntKind.i64.wrap (x.num*(y.den:Int))=x.num*y.den:=aP _ (by omega);have w2:IntKind.i64.wrap (y.num*(x.den:Int))=y.num*x.den:=aP _ (by omega);rw[Ha.out];clear Ha hs b1 b3 n1 n2 d1 d2 hx hy hE ea eb;unfold iv at H1 H2;obtain⟨u,hu⟩:=nm (x.num*(y.den:Int));obtain⟨v,hv⟩:=nm (y.num*(x.den:Int));rw[hu]at w1;rw[hv]at w2;rw[hu,hv];obtain⟨r,hr⟩:=nm (uO (u-v));rw[hr];have Hr:=zq hr;clear hr;have Hu:=zq hu;clear hu;have Hv:=zq hv;clear hv;have w1':IntKind.i64.wrap (x.num*(y.den:Int))=u:=by rw[Hu.out];exact w1
   have w2':IntKind.i64.wrap (y.num*(x.den:Int))=v:=by rw[Hv.out];exact w2
   clear w1 w2;rcases Int.lt_trichotomy u v with hlt|heq|hgt
   ·have hn:¬v<u:=by omega
    have er:aY (r= -1):=by show _=_;rw[←Hr.out,uO,ip (by omega)]
    go_enter Cs,Bc;go_wp2_with fail
    refine ka HC.out fun W0 hb0=>?_;go_wp2_with fail
    refine(H1.out _).mono ?_;rintro e W1⟨rfl,k1,rfl⟩;go_wp2_with fail
    refine(H2.out _).mono ?_;rintro e W2⟨rfl,k2,rfl⟩;go_wp2;go_ret2;exact⟨by rw[er.out];rfl,bH hb0 _⟩
   ·have hn:¬v<u:=by omega
    have hn2:¬u<v:=by omega
    have er:aY (r=0):=by show _=_;rw[←Hr.out,uO,iN (by omega),iN (by omega)]
    clear heq;go_enter Cs,Bc;go_wp2_with fail
    refine ka HC.out fun W0 hb0=>?_;go_wp2_with fail
    refine(H1.out _).mono ?_;rintro e W1⟨rfl,k1,rfl⟩;go_wp2_with fail
    refine(H2.out _).mono ?_;rintro e W2⟨rfl,k2,rfl⟩;go_wp2;go_ret2;exact⟨by rw[er.out];rfl,bH hb0 _⟩
   ·have hn:¬u<v:=by omega
    have er:aY (r=1):=by show _=_;rw[←Hr.out,uO,iN (by omega),ip (by omega)]
    go_enter Cs,Bc;go_wp2_with fail
    refine ka HC.out fun W0 hb0=>?_;go_wp2_with fail
    refine(H1.out _).mono ?_;rintro e W1⟨rfl,k1,rfl⟩;go_wp2_with fail
    refine(H2.out _).mono ?_;rintro e W2⟨rfl,k2,rfl⟩;go_wp2;go_ret2;exact⟨by rw[er.out];rfl,bH hb0 _⟩
  ·have P1:=zq (fun W=>oC x W hx);have P2:=zq (fun W=>oC y W hy);have H1:=zq (fun W=>qJ x W hx);have H2:=zq (fun W=>qJ y W hy);rw[←ea]at P1 H1;rw[←eb]at P2 H2;have dx:((x.den:Nat):Int).natAbs<10^300:=hx.d;have dy:((y.den:Nat):Int).natAbs<10^300:=hy.d;have HP:=zq (fun(W:aE)(hb:aJ w.heap.size w W)=>xH x.num y.den y.num x.den W (hE.below hb) hx.1 dy hy.1 dx);have HM:=zq (fun(a1:lW (x.num*y.den)=true)(a2:lW (y.num*x.den)=true)(W:aE)=>M6 (x.num*y.den) (y.num*x.den) W (of_decide_eq_true a1) (of_decide_eq_true a2));have Uu:aY (lW (x.num*y.den)=true→lW (y.num*x.den)=true→D9 x y=(uO (x.num*y.den-y.num*x.den),0)):=by
    intro p q;rw[D9,iS,p,q,CN];rfl
   have No:aY ((lW (x.num*y.den)&&lW (y.num*x.den))=false→D9 x y=(0,4)):=by
    intro p;rw[D9,iS,p];rfl
   clear hx hy hE ea eb dx dy;rcases IB hs with⟨h1,h2⟩|⟨h1,h2⟩|⟨h1,h2⟩;all_goals
    rw[h1]at H1;rw[h2]at H2;clear h1 h2 hs;go_enter Cs,Bc;go_wp2_with fail
    refine ka HC.out fun W0 hb0=>?_;go_wp2_with fail
    refine(H1.out _).mono ?_;rintro e W1⟨⟨_,_,rfl⟩,k1,rfl⟩;go_wp2_with fail
    refine(H2.out _).mono ?_;rintro e W2⟨⟨_,_,rfl⟩,k2,rfl⟩;go_wp2_with fail
    refine(P1.out _).mono ?_;rintro e W3⟨rfl,k3,rfl⟩;go_wp2_with fail
    refine(P2.out _).mono ?_;rintro e W4⟨rfl,k4,rfl⟩;go_wp2_with fail
    refine(HP.out _ (bH hb0 _)).mono ?_;rintro e W5⟨⟨A,B,k,rfl,(⟨a1,a2,rfl,rfl,rfl⟩|⟨a1,rfl⟩)⟩,hb5⟩
    ·go_wp2_with fail
     refine ka (HM.out a1 a2 _) fun W6 hb6=>?_;go_wp2;go_ret2;exact⟨by rw[Uu.out a1 a2];rfl,aH (aH (bH hb0 _) hb5 hb0.size) hb6 (Nat.le_trans hb0.size hb5.size)⟩
    ·go_wp2;go_ret2;exact⟨by rw[No.out (by rcases a1 with a1|a1<;>simp[a1])];rfl,aH (bH hb0 _) hb5 hb0.size⟩
 ·rw[gY,iN h];generalize dZ a.data.toList b.data.toList=c at *;go_enter Cs,Bc;go_wp2_with fail
  refine ka HC.out fun W1 hb1=>?_;go_wp2;go_ret2;exact⟨rfl,hb1⟩
end
section
open Go Go.Lib
def nI(s:List UInt8):Option (Nat×List UInt8):=
 if nZ (s.takeWhile dG)=true∧(s.takeWhile dG).length≤8 then some (num (s.takeWhile dG),s.dropWhile dG)else none
def Pi(n:Nat)(r:List UInt8):Option Nat:=
 match nI r with
 |some (d,[])=>if 2≤d∧cM n d=1 then some d else none
 |_=>none
def AU(m:Bool)(o:List UInt8):Option (Nat×Nat):=
 match nI o with
 |none=>none
 |some (n,rest)=>
  if m=true∧n=0 then none else
  match rest with
  |[]=>some (n,1)
  |c::r=>if c=47 then(Pi n r).map fun d=>(n,d)else none
theorem tw_all{l:List UInt8}(h:l.all dG=true)(r:List UInt8):(l++47::r).takeWhile dG=l∧(l++47::r).dropWhile dG=47::r:=by
 induction l with
 |nil=>exact⟨rfl,rfl⟩
 |cons c l ih=>
  rw[mG,bT]at h;obtain⟨h1,h2⟩:=ih h.2;simp[h.1,h1,h2]
theorem Xg{l:List UInt8}(h:l.all dG=true):l.takeWhile dG=l∧l.dropWhile dG=[]:=by
 induction l with
 |nil=>exact⟨rfl,rfl⟩
 |cons c l ih=>
  rw[mG,bT]at h;obtain⟨h1,h2⟩:=ih h.2;simp[h.1,h1,h2]
theorem Vd{l:List UInt8}(h:l.all dG=false)(r:List UInt8):∃c t,(l++r).dropWhile dG=c::t∧dG c=false∧c∈l:=by
 induction l with
 |nil=>cases h
 |cons c l ih=>
  by_cases hc:dG c=true
  ·rw[mG,hc,xW]at h;obtain⟨x,t,e,h1,h2⟩:=ih h;exact⟨x,t,by simp[hc,e],h1,List.mem_cons_of_mem _ h2⟩
  ·exact⟨c,l++r,by simp[hc],by simpa using hc,List.mem_cons_self ..⟩
theorem xf{D:List UInt8}(h:nZ D=true):(D≠[48]∧D≠[49])↔2≤num D:=by
 constructor
 ·rintro⟨a,b⟩;have:=CK h a;have:=Ll h b;omega
 ·intro k;refine⟨?_,?_⟩<;>(rintro rfl;revert k;decide)
theorem xg(n:Nat)(D:List UInt8):Pi n D=if nZ D=true∧D≠[48]∧D≠[49]∧D.length≤8∧cM n (num D)=1 then some (num D)else none:=by
 unfold Pi nI;by_cases ha:D.all dG=true
 ·obtain⟨e1,e2⟩:=Xg ha;rw[e1,e2];by_cases h:nZ D=true∧D.length≤8
  ·rw[ip h];have:=xf h.1;by_cases k:2≤num D∧cM n (num D)=1
   ·have k2:=this.2 k.1;simp only[];rw[ip k,ip ⟨h.1,k2.1,k2.2,h.2,k.2⟩]
   ·simp only[];rw[iN k,iN (fun c=>k ⟨this.1 ⟨c.2.1,c.2.2.1⟩,c.2.2.2.2⟩)]
  ·rw[iN h,iN (fun c=>h ⟨c.1,c.2.2.2.1⟩)]
 ·have ha:D.all dG=false:=by simpa using ha
  obtain⟨c,t,e,h1,h2⟩:=Vd ha [];rw[nX]at e;have hn:nZ D=false:=by simp[nZ,ha]
  rw[e];refine Eq.trans (b:=none) ?_ (Eq.symm (iN fun c=>by rw[hn]at c;exact absurd c.1 (by decide)));by_cases q:nZ (D.takeWhile dG)=true∧(D.takeWhile dG).length≤8
  ·rw[ip q]
  ·rw[iN q]
theorem xh(m:Bool)(o:List UInt8):
 AU m o=if Pd m (nS o) (tM o) (dS o)=0∧(nS o).length≤8∧(dS o).length≤8 then some (num (nS o),if tM o=true then num (dS o)else 1)else none:=by
 have kN:(nS o).length≤8→(dS o).length≤8→¬(300<(nS o).length∨300<(dS o).length):=by omega
 have hz:∀{N:List UInt8},nZ N=true→(num N=0↔N=[48]):=fun h=>⟨fun e=>fZ fun k=>CK h k e,fun e=>by subst e;rfl⟩;by_cases hs:tM o=true
 ·have ho:=AK o hs;have hN:∀c∈nS o,c≠47:=fun c hc k=>by
   have:=List.all_eq_true.1 (List.all_takeWhile (p:=fun c:UInt8=>c !=47) (l:=o)) c hc;rw[k]at this;revert this;decide
  rw[hs];generalize nS o=N at *;generalize dS o=D at *;subst ho;unfold AU nI Pd;by_cases ha:N.all dG=true
  ·obtain⟨e1,e2⟩:=tw_all ha D;rw[e1,e2];by_cases h:nZ N=true∧N.length≤8
   ·rw[ip h];have hz:=hz h.1;simp only[if_true,xg];by_cases k:m=true∧num N=0
    ·rw[ip k,iN];rintro⟨c,-⟩;rw[iN (by rw[hz.1 k.2,k.1];simp)]at c;cases c
    ·rw[iN k];by_cases g:nZ D=true∧D≠[48]∧D≠[49]∧D.length≤8∧cM (num N) (num D)=1
     ·rw[ip g,ip]
      ·rfl
      ·refine⟨?_,h.2,g.2.2.2.1⟩;have hm:(!m||N !=[48])=true:=by
        cases m
        ·rfl
        ·have:N≠[48]:=fun e=>k ⟨rfl,hz.2 e⟩;simpa using this
       rw[ip (by simp[h.1,hm,g.1,g.2.1,g.2.2.1]),iN (kN h.2 g.2.2.2.1),ip g.2.2.2.2]
     ·rw[iN g,iN]
      ·rfl
      ·rintro⟨c,c2,c3⟩;split at c
       ·rename_i q;rw[iN (kN c2 c3)]at c;split at c
        ·rename_i r;simp only[bT,iB,bne_iff_ne,ne_eq,Bool.not_true,Bool.false_eq_true,false_or]at q;exact g ⟨q.2.1.1,q.2.1.2,q.2.2,c3,r⟩
        ·cases c
       ·cases c
   ·rw[iN h,iN];rintro⟨c,c2,-⟩;split at c
    ·rename_i q;simp only[bT]at q;exact h ⟨q.1.1,c2⟩
    ·cases c
  ·have ha:N.all dG=false:=by simpa using ha
   obtain⟨c,t,e,h1,h2⟩:=Vd ha (47::D);have hn:nZ N=false:=by simp[nZ,ha]
   have hc:c≠47:=hN c h2;rw[e];refine Eq.trans (b:=none) ?_ (Eq.symm (iN fun k=>by have:=k.1;rw[iN (by simp[hn])]at this;cases this));by_cases q:nZ ((N++47::D).takeWhile dG)=true∧((N++47::D).takeWhile dG).length≤8
   ·rw[ip q];simp[hc]
   ·rw[iN q]
 ·have hs:tM o=false:=by simpa using hs
  obtain⟨e1,e2⟩:=rK o hs;rw[hs,e1,e2];unfold AU nI Pd;by_cases ha:o.all dG=true
  ·obtain⟨g1,g2⟩:=Xg ha;rw[g1,g2];by_cases h:nZ o=true∧o.length≤8
   ·rw[ip h];have hz:=hz h.1;simp only[];by_cases k:m=true∧num o=0
    ·rw[ip k,iN];rintro⟨c,-⟩;rw[iN (by rw[hz.1 k.2,k.1];simp)]at c;cases c
    ·have hm:(!m||o !=[48])=true:=by
      cases m
      ·rfl
      ·have:o≠[48]:=fun e=>k ⟨rfl,hz.2 e⟩;simpa using this
     rw[iN k,ip]
     ·rfl
     ·refine⟨?_,h.2,by simp⟩;rw[ip (by simp[h.1,hm]),iN (by simp;omega),ip (by simp)]
   ·rw[iN h,iN];rintro⟨c,c2,-⟩;split at c
    ·rename_i q;simp only[bT]at q;exact h ⟨q.1.1,c2⟩
    ·cases c
  ·have ha:o.all dG=false:=by simpa using ha
   obtain⟨c,t,e,h1,h2⟩:=Vd ha [];rw[nX]at e;have hn:nZ o=false:=by simp[nZ,ha]
   have hc:c≠47:=fun k=>by
    subst k;have:tM o=true:=List.any_eq_true.2 ⟨47,h2,by decide⟩;rw[hs]at this;cases this
   rw[e];refine Eq.trans (b:=none) ?_ (Eq.symm (iN fun k=>by have:=k.1;rw[iN (by simp[hn])]at this;cases this));by_cases q:nZ (o.takeWhile dG)=true∧(o.takeWhile dG).length≤8
   ·rw[ip q];simp[hc]
   ·rw[iN q]
def sh8(s:List UInt8):Bool:=decide ((mag (nS s)).length≤8)&&decide ((dS s).length≤8)
def nU(s:List UInt8):Bool:=decide (cQ s=0)&&sh8 s
theorem Ve(a:ByteArray):AU (dY a) (mag a.data.toList)=if nU a.data.toList=true then some (num (mag (nS a.data.toList)),qD a.data.toList)else none:=by
 obtain⟨e1,e2,e3⟩:=U7 a.data.toList;rw[xh,e1,e2,e3,←WW];unfold nU sh8 qD;simp only[bT,decide_eq_true_eq]
end
section
open Go Go.RowKit Go.Lib
theorem Xh(x y:Nat)(w:aE)(hx:x≤9223372036854775807)(hy:y≤9223372036854775807):
 aQ aC 195 #[iv x,iv y] w fun e w'=>e=aO (iv (cM x y))∧∃n,w'=w.drewN n:=by
 go_enter func195,ntmps195;go_wp2;go_loopw[0,1] (fun a b wr=>∃X Y:Nat,a=aF aG X∧b=aF aG Y∧X≤9223372036854775807∧Y≤9223372036854775807∧aY (cM X Y=cM x y)∧∃n,wr=w.drewN n)
  (fun _ b _=>(aK b).toNat)
 case atStart=>exact⟨x,y,rfl,rfl,hx,hy,rfl,0,rfl⟩
 case round=>
  obtain⟨X,Y,rfl,rfl,hX,hY,hg,nd,rfl⟩:=hrel;by_cases hy0:Y=0
  ·subst hy0;have hm:aY (cM x y=X):=by
    show _=_;rw[←hg.out,Nat.gcd_zero_right]
   clear hg;go_wp2;go_ret;exact⟨nJ (by rw[hm.out]),nd,rfl⟩
  ·have hlt:X%Y<Y:=Nat.mod_lt _ (by omega);have US:aY (cM Y (X%Y)=cM x y):=by
    show _=_;rw[←hg.out,qZ X,Nat.gcd_rec Y X,qZ]
   obtain⟨R,hR⟩:∃R,X%Y=R:=⟨_,rfl⟩;have hRb:R≤9223372036854775807:=by omega
   have q3:((X:Int))%(Y:Int)=(R:Int):=by rw[←hR,Int.natCast_emod]
   have q1:((X:Int)).tmod (Y:Int)=(R:Int):=(Int.tmod_eq_emod_of_nonneg (Int.natCast_nonneg _)).trans q3;have q2:IntKind.i64.wrap (R:Int)=(R:Int):=aP _ (by omega);have q0:((Y:Int) !=0)=true:=by rw[bne_iff_ne];omega
   have q4:¬(Y:Int)=0:=by omega
   rw[hR]at US hlt;clear hR hg;go_wp2;go_region;go_wp2;go_roundw;case rel=>exact⟨Y,R,rfl,rfl,hY,hRb,US.out,nd+1,rfl⟩
   case measure=>simp only[aK,Int.toNat_natCast];exact hlt
def xi(l:List UInt8):bB:=
 match nI l with
 |some (n,r)=>bO #[iv n,aA (bs r),aM true]
 |none=>bO #[aF aG 0,aA (bs []),aM false]
theorem tw_at(l:List UInt8)(k:Nat)(h1:(l.take k).all dG=true)(h2:∀h:k<l.length,¬dG l[k]=true):l.takeWhile dG=l.take k∧l.dropWhile dG=l.drop k:=by
 induction l generalizing k with
 |nil=>simp
 |cons c l ih=>
  cases k with
  |zero=>
   have:=h2 (by simp);simp only[List.getElem_cons_zero]at this;simp[this]
  |succ k=>
   rw[X5,mG,bT]at h1;obtain⟨e1,e2⟩:=ih k h1.2 fun h=>by
    have:=h2 (by simpa using h);rwa[List.getElem_cons_succ]at this
   simp[h1.1,e1,e2]
theorem tw_ge(l:List UInt8)(k:Nat)(hk:k≤l.length)(h1:(l.take k).all dG=true):k≤(l.takeWhile dG).length:=by
 induction l generalizing k with
 |nil=>simp at hk;omega
 |cons c l ih=>
  cases k with
  |zero=>omega
  |succ k=>
   rw[X5,mG,bT]at h1;rw[List.takeWhile_cons_of_pos h1.1,cO];have:=ih k (by simpa using hk) h1.2;omega
theorem xj{s:ByteArray}{k:Nat}(hk:k≤s.size)(h1:(s.data.toList.take k).all dG=true)(h2:8<k∨∀h:k<s.size,¬dG s[k]=true)
 (h:k=0∨8<k∨(1<k∧∃h:0<s.size,s[0].toNat=48)):nI s.data.toList=none:=by
 have Q7:k≤s.data.toList.length:=hk;unfold nI;rw[iN];rintro⟨a,b⟩;by_cases h8:8<k
 ·have:=tw_ge _ k Q7 h1;omega
 ·have h2:∀h:k<s.size,¬dG s[k]=true:=by
   rcases h2 with h2|h2
   ·omega
   ·exact h2
  obtain⟨e1,-⟩:=tw_at s.data.toList k h1 (fun h=>h2 h);rw[e1]at a;rcases h with h|h|⟨h,h0,h48⟩
  ·subst h;revert a;simp[nZ]
  ·omega
  ·have e:(s.data.toList.take k).head? =some 48:=by
    rw[vg,iN (by omega),DH s h0];congr 1;exact UInt8.toNat_inj.1 h48
   have hl:(s.data.toList.take k).length=k:=by rw[iW];omega
   simp only[nZ,e,hl,bT,iB,bne_iff_ne,ne_eq,beq_iff_eq]at a;have:=a.2;simp at this;omega
theorem xk{s:ByteArray}{k:Nat}(hk:k≤s.size)(h1:(s.data.toList.take k).all dG=true)(h2:∀h:k<s.size,¬dG s[k]=true)(h0:0<k)(h8:k≤8)
 (h:¬(1<k∧∃h:0<s.size,s[0].toNat=48)):nI s.data.toList=some (num (s.data.toList.take k),s.data.toList.drop k):=by
 have Q7:k≤s.data.toList.length:=hk;obtain⟨e1,e2⟩:=tw_at s.data.toList k h1 (fun h=>h2 h);have hl:(s.data.toList.take k).length=k:=by rw[iW];omega
 unfold nI;rw[e1,e2,ip];refine⟨?_,by omega⟩;have e:(s.data.toList.take k).head? =some s[0]:=by rw[vg,iN (by omega),DH s (by omega)]
 have lE:(s.data.toList.take k).isEmpty=false:=by
  rw[List.isEmpty_eq_false_iff];intro c;rw[c]at hl;simp at hl;omega
 simp only[nZ,e,hl,h1,lE,Bool.not_false,xW,iB,bne_iff_ne,ne_eq,uH,beq_iff_eq];by_cases h48:s[0]=48
 ·right;by_cases h1:1<k
  ·exact absurd ⟨h1,by omega,by rw[h48];rfl⟩ h
  ·omega
 ·exact .inl h48
theorem Ex{s:ByteArray}{k:Nat}(hk:k<s.size)(h1:(s.data.toList.take k).all dG=true)(hd:dG s[k]=true):(s.data.toList.take (k+1)).all dG=true:=by
 rw[List.take_succ_eq_append_getElem (show k<s.data.toList.length from hk),List.all_append,h1];show(true&&(dG s[k]&&true))=true;rw[hd];rfl
theorem Ey(s:ByteArray)(w:aE)(hs:s.size≤cA):
 aQ aC 194 #[aA s] w fun e w'=>e=aO (xi s.data.toList)∧∃n,w'=w.drewN n:=by
 unfold cA at hs;go_enter func194,ntmps194;go_wp2;go_loop [5,6] (fun n i=>∃k:Nat,i=aF aG k∧k≤s.size∧k≤9∧n=aF aG (num (s.data.toList.take k):Nat)∧aY ((s.data.toList.take k).all dG=true)) (fun _ i=>s.size-(aK i).toNat);case atStart=>exact⟨0,rfl,bR _,bR _,rfl,rfl⟩
 case round=>
  obtain⟨k,rfl,hk,hk9,rfl,hall⟩:=hrel;have hb:=bQ (nM _ hall.out) (bN (by decide) (show(s.data.toList.take k).length≤9 from by rw[iW];omega));by_cases hc:∃h:k<s.size,k≤8∧dG s[k]=true
  ·obtain⟨hlt,h8,hd⟩:=hc;have Io:=zq (Eu s k hlt);have hal2:=zq (Ex hlt hall.out hd);have h48:48≤(s[k].toNat:Int)∧(s[k].toNat:Int)≤57:=by simp only[dG,bT,decide_eq_true_eq]at hd;omega
   obtain⟨h48,h57⟩:=h48;obtain⟨d,MO⟩:∃d:Nat,(s[k].toNat:Int)-48=(d:Int):=⟨s[k].toNat-48,by omega⟩;have q1:IntKind.u8.wrap ((s[k].toNat:Int)-48)=(d:Int):=by rw[MO];exact IntWalk.u8_in _ (by omega)
   have q2:((s[k].toNat:Int)-48)%256=(d:Int):=by rw[MO];omega
   have MY:aY (s[k].toNat-48=d):=by show _=_;omega
   have hd9:d≤9:=by omega
   generalize num (s.data.toList.take k)=n at *;have hn:n≤999999999:=by omega
   clear hb MO hd;go_wp2;go_round;case rel=>exact⟨k+1,by go_num,by omega,by omega,by rw[Io.out,MY.out];congr 1;omega,hal2.out⟩
   case measure=>simp only[aK];omega
  ·have h2:8<k∨∀h:k<s.size,¬dG s[k]=true:=by
    by_cases h8:8<k
    ·exact .inl h8
    ·exact .inr fun h d=>hc ⟨h,by omega,d⟩
   have Hc:=zq hc;clear hc;by_cases hn:k=0∨8<k∨(1<k∧∃h:0<s.size,s[0].toNat=48)
   ·have R:aY (xi s.data.toList=bO #[aF aG 0,aA (bs []),aM false]):=by
     show _=_;rw[xi,xj hk hall.out h2 hn]
    have H2:=zq h2;clear h2;clear hb hall;generalize num (s.data.toList.take k)=n at *;rcases hn with rfl|h8|⟨h1,h0,h48⟩
    ·go_wp2;all_goals first
      |(go_ret3;exact⟨by rw[R.out];rfl,0,rfl⟩)
      |(exfalso;exact Hc.out ⟨by omega,by omega,by simp only[dG,bT,decide_eq_true_eq];omega⟩)
    ·have h8':¬(k:Int)≤8:=by omega
     go_wp2;all_goals(go_ret3;exact⟨by rw[R.out];rfl,0,rfl⟩)
    ·have e2:((s[0].toNat:Int)==48)=true:=by simp[h48]
     have H48:=zq h48;clear h48;go_wp2;all_goals first
      |(go_ret3;exact⟨by rw[R.out];rfl,0,rfl⟩)
      |(exfalso;exact Hc.out ⟨by omega,by omega,by simp only[dG,bT,decide_eq_true_eq];omega⟩)
   ·have k0:0<k:=by omega
    have k8:k≤8:=by omega
    have h2':∀h:k<s.size,¬dG s[k]=true:=by
     rcases h2 with h2|h2
     ·omega
     ·exact h2
    have h48:¬(1<k∧∃h:0<s.size,s[0].toNat=48):=fun c=>hn (.inr (.inr c));have R:aY (xi s.data.toList=bO #[aF aG (num (s.data.toList.take k):Nat),aA (s.extract k s.size),aM true]):=by
     show _=_;rw[xi,xk hk hall.out h2' k0 k8 h48];rw[show s.extract k s.size=bs (s.data.toList.drop k)from Em (qF ..)]
    have H2:=zq h2';clear h2 h2' hn;clear hb hall;generalize num (s.data.toList.take k)=n at *;have hp:0<s.size:=by omega
    have b8:decide ((8:Int)<(k:Int))=false:=by simp;omega
    have b0:((k:Int)==0)=false:=by simp;omega
    by_cases h1:1<k
    ·have e2:((s[0].toNat:Int)==48)=false:=by rw[beq_eq_false_iff_ne];exact fun e=>h48 ⟨h1,hp,Int.ofNat_inj.1 (e:((s[0].toNat:Nat):Int)=((48:Nat):Int))⟩
     have H48:=zq h48;clear h48;go_wp2;all_goals first
      |(exfalso;exact Hc.out ⟨by omega,by omega,by simp only[dG,bT,decide_eq_true_eq];omega⟩)
      |(go_region;go_wp2;go_ret3;exact⟨by rw[R.out];rfl,1,rfl⟩)
    ·have H48:=zq h48;clear h48;go_wp2;all_goals first
      |(exfalso;exact Hc.out ⟨by omega,by omega,by simp only[dG,bT,decide_eq_true_eq];omega⟩)
      |(go_region;go_wp2;go_ret3;exact⟨by rw[R.out];rfl,1,rfl⟩)
def xI(m:Bool)(r:Option (Nat×Nat)):bB:=
 match r with
 |some (n,d)=>bO #[dM #[aF aG (if m=true then -(n:Int)else(n:Int)),iv d],aM true]
 |none=>bO #[dM #[aF aG 0,aF aG 0],aM false]
theorem Xi(a:ByteArray):(dY a=true→a.extract 1 a.size=bs (mag a.data.toList)∧(bs (mag a.data.toList)).size<a.size)∧(dY a=false→a=bs (mag a.data.toList)):=by
 have hf:=rG a;unfold rF at hf;constructor
 ·intro h;rw[h,ip rfl]at hf;have h45:a.data.toList.head? =some 45:=fZ fun k=>by rw[iN k]at hf;cases hf
  constructor
  ·refine Em ?_;rw[qF,mag,ip h45,List.drop_one]
  ·rw[bU,mag,ip h45,List.length_tail];have:a.data.toList.length=a.size:=rfl;have:0<a.size:=dz fun k=>by
    have e:a.data.toList=[]:=dD k;rw[e]at h45;cases h45
   omega
 ·intro h;rw[h]at hf;have h45:¬a.data.toList.head? =some 45:=fun k=>by rw[ip k]at hf;cases hf
  rw[mag,iN h45,WG]
theorem nI_lt{l:List UInt8}{n:Nat}{r:List UInt8}(h:nI l=some (n,r)):n<10^8∧r.length≤l.length:=by
 unfold nI at h;split at h
 ·rename_i k;injection h with h;injection h with h1 h2;subst h1 h2;refine⟨bQ (nM _ (kH k.1)) (bN (by decide) k.2),(List.dropWhile_sublist _).length_le⟩
 ·cases h
theorem BE (a : ByteArray) (w : aE) (hs : a.size ≤ cA) :
    aQ aC 136 #[aA a] w (Rt (xI (dY a) (AU (dY a) (mag a.data.toList))) w) := by
  obtain ⟨m1, m2⟩ := Xi a
  obtain ⟨O, hO⟩ : ∃ O, bs (mag a.data.toList) = O := ⟨_, rfl⟩
  rw [hO] at m1 m2
  have hOl : mag a.data.toList = O.data.toList := by rw [← hO, aX]
  rw [hOl]
  clear hO hOl
  unfold cA at hs
  have hOs : O.size ≤ a.size := by
    cases h : dY a with
    | true => have := (m1 h).2; omega
    | false => rw [← m2 h]; exact aD _
  have Hn := zq (fun W => Ey O W (by unfold cA; omega))
  have M1 := zq m1
  have M2 := zq m2
  clear m1 m2
  go_enter func136, ntmps136
  go_upto_region 2 with fail
  go_cut [16] (fun v w' => v = aM (dY a) ∧ w' = w.alloc (aL #[aF aG 0, aF aG 0] 100))
  case first =>
    by_cases h0 : 0 < a.size
    · have he : a.toList.isEmpty = false := by
        rw [cI]; cases k : a.data.toList with
        | nil => have : a.data.toList.length = a.size := rfl
                 rw [k] at this; simp at this; omega
        | cons _ _ => rfl
      go_wp2; go_meet
      case rel => exact ⟨by rw [pE a h0], rfl⟩
    · have he : a.toList = [] := by
        rw [cI]; exact dD (show a.size = 0 by omega)
      go_wp2; go_meet
      case rel => exact ⟨by simp [dY, h0], rfl⟩
  obtain ⟨rfl, rfl⟩ := hcut
  go_upto_if 16 with fail
  go_cut [4] (fun o w' => o = aA O ∧ w' = w.alloc (aL #[aF aG 0, aF aG 0] 100))
  case first =>
    cases hm : dY a with
    | true =>
      have c := (M1.out hm).1
      have h1 : (1 : Int) ≤ (a.size : Int) := by have := (M1.out hm).2; omega
      clear hm
      go_wp2; go_meet
      case rel => exact ⟨rfl, rfl⟩
    | false =>
      have c := zq (M2.out hm)
      clear hm
      go_wp2; go_meet
      case rel => exact ⟨by rw [← c.out], rfl⟩
  case rest =>
    obtain ⟨rfl, rfl⟩ := hcut
    have hlt : decide (O.size < a.size) = dY a := by
      cases h : dY a with
      | true => exact decide_eq_true (by have := (M1.out h).2; omega)
      | false => exact decide_eq_false (by rw [← M2.out h]; omega)
    have hOb : O.size ≤ cA := by unfold cA; omega
    clear M1 M2 hs
    obtain ⟨m, hm⟩ : ∃ m, dY a = m := ⟨_, rfl⟩
    rw [hm] at hlt
    have HM := zq hm; clear hm
    have fin : ∀ (x y z u : bB) (k : Nat), aJ w.heap.size w (((((w.alloc (aL #[aF aG 0, aF aG 0] 100)).drewN k).setCell ⟨w.heap.size, 0, none⟩ x).setCell ⟨w.heap.size, 1, none⟩ y).alloc (aL #[z, u] 100)) := by
      intro x y z u k
      exact ((((bH ((aI _ w).alloc (aD _) _) k).setCell (aD _) x).setCell (aD _) y).alloc (by simp) _)
    cases hnI : nI O.data.toList with
    | none =>
      have pI : aY (∀ W, aQ aC 194 #[aA O] W fun e w' => e = aO (bO #[aF aG 0, aA (bs []), aM false]) ∧ ∃ n, w' = W.drewN n) := by
        intro W; have := Hn.out W; rwa [xi, hnI] at this
      have R : aY (xI (dY a) (AU (dY a) O.data.toList) = xI m none) := by show _ = _; rw [AU, hnI]; rfl
      clear Hn hnI
      go_wp2_with fail
      refine (pI.out _).mono ?_
      rintro e w1 ⟨rfl, k1, rfl⟩
      go_wp2
      exact cD (v := bO #[dM #[aF aG 0, aF aG 0], aM false]) (by simp [qV, iL, go_sem]) rfl ⟨by rw [R.out]; rfl, ((bH ((aI _ w).alloc (aD _) _) _).setCell (aD _) _).setCell (aD _) _⟩
    | some p =>
      obtain ⟨n, rest⟩ := p
      obtain ⟨hn8, hr⟩ := nI_lt hnI
      have pI : aY (∀ W, aQ aC 194 #[aA O] W fun e w' => e = aO (bO #[iv n, aA (bs rest), aM true]) ∧ ∃ n, w' = W.drewN n) := by
        intro W; have := Hn.out W; rwa [xi, hnI] at this
      clear Hn
      unfold iv at pI
      by_cases hz : m = true ∧ n = 0
      · have R : aY (xI (dY a) (AU (dY a) O.data.toList) = xI m none) := by show _ = _; rw [HM.out]; simp only [AU, hnI]; rw [ip hz]
        obtain ⟨rfl, rfl⟩ := hz
        clear hnI
        go_wp2_with fail
        refine (pI.out _).mono ?_
        rintro e w1 ⟨rfl, k1, rfl⟩
        go_wp2
        exact cD (v := bO #[dM #[aF aG 0, aF aG 0], aM false]) (by simp [qV, iL, go_sem]) rfl ⟨by rw [R.out]; rfl, ((bH ((aI _ w).alloc (aD _) _) _).setCell (aD _) _).setCell (aD _) _⟩
      · have zf : m = true → ((n : Int) == 0) = false := fun h => by rw [beq_eq_false_iff_ne]; intro e; exact hz ⟨h, by omega⟩
        cases rest with
        | nil =>
          have R : aY (xI (dY a) (AU (dY a) O.data.toList) = xI m (some (n, 1))) := by show _ = _; rw [HM.out]; simp only [AU, hnI]; rw [iN hz]
          have he : (bs []).toList.isEmpty = true := by rw [cI]; rfl
          clear hnI hz
          cases m
          · clear zf
            go_wp2_with fail
            refine (pI.out _).mono ?_
            rintro e w1 ⟨rfl, k1, rfl⟩
            go_wp2
            exact cD (v := bO #[dM #[aF aG n, aF aG 1], aM true]) (by simp [qV, iL, go_sem]) rfl ⟨by rw [R.out]; rfl, fin _ _ _ _ _⟩
          · have zf := zf rfl
            go_wp2_with fail
            refine (pI.out _).mono ?_
            rintro e w1 ⟨rfl, k1, rfl⟩
            go_wp2
            exact cD (v := bO #[dM #[aF aG (-(n : Int)), aF aG 1], aM true]) (by simp [qV, iL, go_sem]) rfl ⟨by rw [R.out]; rfl, fin _ _ _ _ _⟩
        | cons c r =>
          obtain ⟨RS, hRS⟩ : ∃ RS, bs (c :: r) = RS := ⟨_, rfl⟩
          have lE : RS.toList.isEmpty = false := by rw [← hRS, cI]; rfl
          have oB : 0 < RS.size := by rw [← hRS, bU]; simp
          have h1i : (1 : Int) ≤ (RS.size : Int) := by omega
          have h0 : RS[0] = c := by subst hRS; rfl
          have hex : RS.extract 1 RS.size = bs r := by subst hRS; exact Em (by rw [qF, aX]; rfl)
          rw [hRS] at pI
          clear hRS
          by_cases hc : c = 47
          · subst hc
            have h47 : ((RS[0].toNat : Int) != 47) = false := by rw [h0]; rfl
            have QK : xI (dY a) (AU (dY a) O.data.toList) = xI m ((Pi n r).map fun d => (n, d)) := by rw [HM.out]; simp only [AU, hnI]; rw [iN hz, ip trivial]
            have Hnn := zq (fun W => Ey (bs r) W (by rw [bU]; have e1 : (47 :: r).length = r.length + 1 := rfl; have e2 : O.data.toList.length = O.size := rfl; omega))
            clear hnI hz h0 hr
            cases hnD : nI r with
            | none =>
              have R : aY (xI (dY a) (AU (dY a) O.data.toList) = xI m none) := by show _ = _; rw [QK, Pi, hnD]; rfl
              have qE : aY (∀ W, aQ aC 194 #[aA (bs r)] W fun e w' => e = aO (bO #[aF aG 0, aA (bs []), aM false]) ∧ ∃ n, w' = W.drewN n) := by
                intro W; have := Hnn.out W; rwa [show (bs r).data.toList = r from rfl, xi, hnD] at this
              clear QK hnD Hnn
              cases m
              case' false => clear zf
              case' true => replace zf := zf rfl
              all_goals
                go_wp2_with fail
                refine (pI.out _).mono ?_
                rintro e w1 ⟨rfl, k1, rfl⟩
                go_wp2_with fail
                refine (qE.out _).mono ?_
                rintro e w1 ⟨rfl, k2, rfl⟩
                go_wp2
                exact cD (v := bO #[dM #[aF aG 0, aF aG 0], aM false]) (by simp [qV, iL, go_sem]) rfl ⟨by rw [R.out]; rfl, by repeat (first | exact aI _ _ | refine iX ?_ (by simp) _ | refine lJ ?_ (by simp) _ | refine bH ?_ _)⟩
            | some q =>
              obtain ⟨d, r2⟩ := q
              obtain ⟨hd8, -⟩ := nI_lt hnD
              have qE : aY (∀ W, aQ aC 194 #[aA (bs r)] W fun e w' => e = aO (bO #[iv d, aA (bs r2), aM true]) ∧ ∃ n, w' = W.drewN n) := by
                intro W; have := Hnn.out W; rwa [show (bs r).data.toList = r from rfl, xi, hnD] at this
              unfold iv at qE
              clear Hnn
              cases r2 with
              | cons x y =>
                have R : aY (xI (dY a) (AU (dY a) O.data.toList) = xI m none) := by show _ = _; rw [QK, Pi, hnD]; rfl
                obtain ⟨RT, hRT⟩ : ∃ RT, bs (x :: y) = RT := ⟨_, rfl⟩
                have hne2 : RT.toList.isEmpty = false := by rw [← hRT, cI]; rfl
                rw [hRT] at qE
                clear QK hnD hRT
                cases m
                case' false => clear zf
                case' true => replace zf := zf rfl
                all_goals
                  go_wp2_with fail
                  refine (pI.out _).mono ?_
                  rintro e w1 ⟨rfl, k1, rfl⟩
                  go_wp2_with fail
                  refine (qE.out _).mono ?_
                  rintro e w1 ⟨rfl, k2, rfl⟩
                  go_wp2
                  exact cD (v := bO #[dM #[aF aG 0, aF aG 0], aM false]) (by simp [qV, iL, go_sem]) rfl ⟨by rw [R.out]; rfl, by repeat (first | exact aI _ _ | refine iX ?_ (by simp) _ | refine lJ ?_ (by simp) _ | refine bH ?_ _)⟩
              | nil =>
                have he : (bs []).toList.isEmpty = true := by rw [cI]; rfl
                have Hg := zq (fun W => Xh n d W (by omega) (by omega))
                unfold iv at Hg
                by_cases h2 : 2 ≤ d
                · have d2 : ¬ (d : Int) < 2 := by omega
                  by_cases hg : cM n d = 1
                  · have R : aY (xI (dY a) (AU (dY a) O.data.toList) = xI m (some (n, d))) := by show _ = _; rw [QK, Pi, hnD]; simp only []; rw [ip ⟨h2, hg⟩]; rfl
                    rw [hg] at Hg
                    clear QK hnD hg h2
                    cases m
                    case' false => clear zf
                    case' true => replace zf := zf rfl
                    all_goals
                      go_wp2_with fail
                      refine (pI.out _).mono ?_
                      rintro e w1 ⟨rfl, k1, rfl⟩
                      go_wp2_with fail
                      refine (qE.out _).mono ?_
                      rintro e w1 ⟨rfl, k2, rfl⟩
                      go_wp2_with fail
                      refine (Hg.out _).mono ?_
                      rintro e w1 ⟨rfl, k3, rfl⟩
                      go_wp2
                    · exact cD (v := bO #[dM #[aF aG (-(n : Int)), aF aG d], aM true]) (by simp [qV, iL, go_sem]) rfl ⟨by rw [R.out]; rfl, by repeat (first | exact aI _ _ | refine iX ?_ (by simp) _ | refine lJ ?_ (by simp) _ | refine bH ?_ _)⟩
                    · exact cD (v := bO #[dM #[aF aG n, aF aG d], aM true]) (by simp [qV, iL, go_sem]) rfl ⟨by rw [R.out]; rfl, by repeat (first | exact aI _ _ | refine iX ?_ (by simp) _ | refine lJ ?_ (by simp) _ | refine bH ?_ _)⟩
                  · have R : aY (xI (dY a) (AU (dY a) O.data.toList) = xI m none) := by show _ = _; rw [QK, Pi, hnD]; simp only []; rw [iN (fun c => hg c.2)]; rfl
                    have hgf : (((cM n d : Nat) : Int) != 1) = true := by rw [bne_iff_ne]; omega
                    generalize cM n d = gg at *
                    clear QK hnD hg h2
                    cases m
                    case' false => clear zf
                    case' true => replace zf := zf rfl
                    all_goals
                      go_wp2_with fail
                      refine (pI.out _).mono ?_
                      rintro e w1 ⟨rfl, k1, rfl⟩
                      go_wp2_with fail
                      refine (qE.out _).mono ?_
                      rintro e w1 ⟨rfl, k2, rfl⟩
                      go_wp2_with fail
                      refine (Hg.out _).mono ?_
                      rintro e w1 ⟨rfl, k3, rfl⟩
                      go_wp2
                      exact cD (v := bO #[dM #[aF aG 0, aF aG 0], aM false]) (by simp [qV, iL, go_sem]) rfl ⟨by rw [R.out]; rfl, by repeat (first | exact aI _ _ | refine iX ?_ (by simp) _ | refine lJ ?_ (by simp) _ | refine bH ?_ _)⟩
                · have R : aY (xI (dY a) (AU (dY a) O.data.toList) = xI m none) := by show _ = _; rw [QK, Pi, hnD]; simp only []; rw [iN (fun c => h2 c.1)]; rfl
                  have d2 : (d : Int) < 2 := by omega
                  clear QK hnD h2 Hg
                  cases m
                  case' false => clear zf
                  case' true => replace zf := zf rfl
                  all_goals
                    go_wp2_with fail
                    refine (pI.out _).mono ?_
                    rintro e w1 ⟨rfl, k1, rfl⟩
                    go_wp2_with fail
                    refine (qE.out _).mono ?_
                    rintro e w1 ⟨rfl, k2, rfl⟩
                    go_wp2
                    exact cD (v := bO #[dM #[aF aG 0, aF aG 0], aM false]) (by simp [qV, iL, go_sem]) rfl ⟨by rw [R.out]; rfl, by repeat (first | exact aI _ _ | refine iX ?_ (by simp) _ | refine lJ ?_ (by simp) _ | refine bH ?_ _)⟩
          · have R : aY (xI (dY a) (AU (dY a) O.data.toList) = xI m none) := by show _ = _; rw [HM.out]; simp only [AU, hnI]; rw [iN hz, iN hc]
            have h47 : ((RS[0].toNat : Int) != 47) = true := by
              rw [h0, bne_iff_ne]; intro e; exact hc (UInt8.toNat_inj.1 (show c.toNat = 47 by omega))
            clear hnI hz h0 hex hc
            cases m
            case' false => clear zf
            case' true => replace zf := zf rfl
            all_goals
              go_wp2_with fail
              refine (pI.out _).mono ?_
              rintro e w1 ⟨rfl, k1, rfl⟩
              go_wp2
              exact cD (v := bO #[dM #[aF aG 0, aF aG 0], aM false]) (by simp [qV, iL, go_sem]) rfl ⟨by rw [R.out]; rfl, by repeat (first | exact aI _ _ | refine iX ?_ (by simp) _ | refine lJ ?_ (by simp) _ | refine bH ?_ _)⟩
theorem pow_up{m j k:Nat}(h:m<10^j)(hk:j≤k):m<10^k:=bQ h (bN (by decide) hk)
theorem pow18{m:Nat}(h:m<10^18):m<10^300:=pow_up (j:=18) (k:=300) h (by decide)
theorem JC{n:Int}(h:n.natAbs<10^18):(bs (bL n)).size≤301:=eH (pow18 h)
theorem Gy(n d:Int)(w:aE)(hE:eZ w)(hn:n.natAbs<10^18)(hd:d.natAbs<10^18)(h0:d≠0):
 aQ aC 137 #[dM #[aF aG n,aF aG d]] w (Rt (aA (bs (aV (mkRat (wN n d) d.natAbs)))) w):=by
 go_enter func137,ntmps137;go_upto_if 8 with fail;go_cut[] (fun w'=>aJ w.heap.size w w'∧bZ w' w.heap.size #[aF aG (wN n d),iv d.natAbs] 100);case first =>
  by_cases hneg:d<0
  ·have w1:IntKind.i64.wrap (-n)= -n:=aP _ (by omega);have w2:IntKind.i64.wrap (-d)= -d:=aP _ (by omega);have e1:aY (wN n d= -n):=ip hneg;have e2:aY (((d.natAbs:Nat):Int)= -d):=by show _=_;omega
   clear hE hn hd h0;go_wp2;go_meet;case rel=>
    rw[e1.out,show iv d.natAbs=aF aG (-d) by unfold iv;rw[e2.out]];exact⟨(aI _ w).alloc (aD _) _,bZ.new w _ _⟩
  ·have e1:aY (wN n d=n):=iN hneg;have e2:aY (((d.natAbs:Nat):Int)=d):=by show _=_;omega
   clear hE hn hd h0;go_wp2;go_meet;case rel=>
    rw[e1.out,show iv d.natAbs=aF aG d by unfold iv;rw[e2.out]];exact⟨(aI _ w).alloc (aD _) _,bZ.new w _ _⟩
 case rest=>
  obtain⟨hB,hb⟩:=hcut;have hu:(wN n d).natAbs<10^18:=by unfold wN;split <;>omega
  obtain⟨u,hU⟩:∃u,wN n d=u:=⟨_,rfl⟩;obtain⟨v,hV⟩:∃v,d.natAbs=v:=⟨_,rfl⟩;have hv0:v≠0:=by omega
  have hv:v<10^18:=by omega
  rw[hU]at hu hb;rw[hV]at hb;have HU:=zq hU;have HV:=zq hV;clear hU hV hn hd h0;obtain⟨q1,q2⟩:=vY u v hv0;obtain⟨l1,l2⟩:=vZ u v hv0;have Jr:0<cM u.natAbs v:=Nat.gcd_pos_of_pos_right _ (by omega);have Hg:=zq (fun W=>Xh u.natAbs v W (by omega) (by omega));have Us:cM u.natAbs v≤v:=Nat.gcd_le_right _ (by omega);have hdu:((cM u.natAbs v:Nat):Int)∣u:=Int.natAbs_dvd_natAbs.1 (by rw[bP];exact Nat.gcd_dvd_left _ _);have HT:aY (aV (mkRat u v)=if(mkRat u v).den=1 then bL (mkRat u v).num else bL (mkRat u v).num++47::decDigits (mkRat u v).den):=rfl;generalize cM u.natAbs v=g at *;have e1:u.tdiv (g:Int)=(mkRat u v).num:=by rw[q1];exact Int.tdiv_eq_ediv_of_dvd hdu
  have e2:(v:Int).tdiv (g:Int)=(((mkRat u v).den:Nat):Int):=by rw[q2];exact(Int.tdiv_eq_ediv_of_nonneg (by omega)).trans (Nv _ _).symm
  have e1':u/(g:Int)=(mkRat u v).num:=q1.symm;have e2':(v:Int)/(g:Int)=(((mkRat u v).den:Nat):Int):=by rw[q2];exact(Nv _ _).symm
  clear q1 q2 hdu Us;generalize hN:(mkRat u v).num=N at *;generalize hD:(mkRat u v).den=D at *;have HI1:=zq (fun(W:aE)(hb:aJ w.heap.size w W)=>eM N W (hE.below hb) (by omega) (by omega));have HI2:=zq (fun(W:aE)(hb:aJ w.heap.size w W)=>eM (D:Int) W (hE.below hb) (by omega) (by omega));have c0:=hb.cell 0;have c1:=hb.cell 1;simp only[List.getElem?_toArray,List.getElem?_cons_zero,List.getElem?_cons_succ]at c0 c1;unfold iv at c1 Hg;have q0:((g:Int) !=0)=true:=by rw[bne_iff_ne];omega
  have q4:¬(g:Int)=0:=by omega
  have hmx:max u (-u)=((u.natAbs:Nat):Int):=by omega
  have b1: -999999999999999999≤N:=by omega
  have b2:N≤999999999999999999:=by omega
  have b3:(D:Int)≤999999999999999999:=by omega
  have w1:IntKind.i64.wrap (-u)= -u:=aP _ (by omega);have w2:IntKind.i64.wrap N=N:=aP _ (by omega);have w3:IntKind.i64.wrap (D:Int)=(D:Int):=aP _ (by omega);generalize u.natAbs=U at *;clear hE hN hD hb hu hv hv0 l1 l2 Jr;have ln:=JC (n:=N) (by omega);have ld:=JC (n:=(D:Int)) (by omega);by_cases h1:D=1
  ·have d1:(((D:Nat):Int)==1)=true:=by rw[h1];rfl
   have R:aY (aV (mkRat (wN n d) d.natAbs)=bL N):=by show _=_;rw[HU.out,HV.out,HT.out,ip h1]
   clear h1 ln ld HU HV HT;go_wp2_with fail
   refine(Hg.out _).mono ?_;rintro e W1⟨rfl,k1,rfl⟩;go_wp2;go_region;go_wp2_with fail
   refine(HI1.out _ (bH hB _)).mono ?_;rintro e W2⟨rfl,hb2⟩;go_wp2;go_ret;exact⟨by rw[R.out];rfl,aH (bH hB _) hb2 hB.size⟩
  ·have d1:(((D:Nat):Int)==1)=false:=by rw[beq_eq_false_iff_ne];omega
   have R:aY (aV (mkRat (wN n d) d.natAbs)=bL N++47::bL (D:Int)):=by show _=_;rw[HU.out,HV.out,HT.out,iN h1,iT]
   have c1':∀W,(mP .add (bs (bL N)) {data:= #[47]}).run aC W=.ok (aA (bs (bL N++[47]))) W:=fun W=>eX W (bL N) [47] (by rw[bU]at ln;omega) (by decide);have c2':∀W,(mP .add (bs (bL N++[47])) (bs (bL (D:Int)))).run aC W=.ok (aA (bs (bL N++[47]++bL (D:Int)))) W:=fun W=>eX W (bL N++[47]) (bL (D:Int)) (by rw[bU]at ln;rw[List.length_append];simp only[cO,List.length_nil];omega) (by rw[bU]at ld;omega);clear h1 ln ld HU HV HT;go_wp2_with fail
   refine(Hg.out _).mono ?_;rintro e W1⟨rfl,k1,rfl⟩;go_wp2;go_region;go_wp2_with fail
   refine(HI1.out _ (bH hB _)).mono ?_;rintro e W2⟨rfl,hb2⟩;have eQ:=aH (bH hB (k1+1)) hb2 hB.size;go_wp2_with fail
   refine(HI2.out _ eQ).mono ?_;rintro e W3⟨rfl,hb3⟩;go_wp2;go_ret;exact⟨by rw[R.out];rfl,aH eQ hb3 eQ.size⟩
theorem ig{s:ByteArray}{k:Nat}(hk:k≤s.size)(h1:(s.data.toList.take k).all dG=true)(h2:∀h:k<s.size,¬dG s[k]=true):
 (nZ s.data.toList=true↔k=s.size∧0<k∧¬(1<k∧∃h:0<s.size,s[0].toNat=48)):=by
 constructor
 ·intro h;have wO:k=s.size:=by
   refine fZ fun c=>?_;have hlt:k<s.size:=by omega
   rw[WS hlt (h2 hlt)]at h;cases h
  refine⟨wO,dz fun c=>?_,?_⟩
  ·rw[NK (by omega)]at h;cases h
  ·rintro⟨a,b,c⟩;rw[R7 b c (by omega)]at h;cases h
 ·rintro⟨e,h0,h⟩;have hall:s.data.toList.all dG=true:=by
   rw[e,List.take_of_length_le (show s.data.toList.length≤s.size from aD _)]at h1;exact h1
  refine R8 (by omega) (fun c=>h ⟨by omega,by omega,c.1⟩) fun i hi _ _=>?_;exact List.all_eq_true.1 hall s[i] (Array.getElem_mem_toList (xs:=s.data) hi)
theorem LC(s:ByteArray)(w:aE)(hs:s.size≤cA):
 aQ aC 246 #[aA s] w fun e w'=>(∃k:Nat,e=aO (aF aG k)∧k≤s.size∧(nZ s.data.toList=true↔k=s.size∧0<k))∧w=w':=by
 unfold cA at hs;go_enter func246,ntmps246;go_wp2;go_loop [3] (fun i=>∃k:Nat,i=aF aG k∧k≤s.size∧aY ((s.data.toList.take k).all dG=true)) (fun i=>s.size-(aK i).toNat);case atStart=>exact⟨0,rfl,bR _,rfl⟩
 case round=>
  obtain⟨k,rfl,hk,hall⟩:=hrel;by_cases hc:∃h:k<s.size,dG s[k]=true
  ·obtain⟨hlt,hd⟩:=hc;have hal2:=zq (Ex hlt hall.out hd);have h48:48≤(s[k].toNat:Int)∧(s[k].toNat:Int)≤57:=by simp only[dG,bT,decide_eq_true_eq]at hd;omega
   obtain⟨h48,h57⟩:=h48;clear hd;go_wp2;go_round;case rel=>exact⟨k+1,by go_num,by omega,hal2.out⟩
   case measure=>simp only[aK];omega
  ·have h2:∀h:k<s.size,¬dG s[k]=true:=fun h d=>hc ⟨h,d⟩;have QL:=zq (ig hk hall.out h2);have Hc:=zq hc;clear hc h2 hall;by_cases h48:1<k∧∃h:0<s.size,s[0].toNat=48
   ·have R:aY (nZ s.data.toList=true↔0=s.size∧0<0):=⟨fun h=>absurd h48 (QL.out.1 h).2.2,fun h=>absurd h.2 (by decide)⟩;obtain⟨h1,h0,h48⟩:=h48;have e2:((s[0].toNat:Int)==48)=true:=by simp[h48]
    clear h48;go_wp2;all_goals first
     |(exfalso;exact Hc.out ⟨by omega,by simp only[dG,bT,decide_eq_true_eq];omega⟩)
     |(go_ret;exact⟨⟨0,rfl,bR _,R.out⟩,rfl⟩)
   ·have R:aY (nZ s.data.toList=true↔k=s.size∧0<k):=⟨fun h=>⟨(QL.out.1 h).1,(QL.out.1 h).2.1⟩,fun h=>QL.out.2 ⟨h.1,h.2,h48⟩⟩;by_cases h1:1<k
    ·have hp:0<s.size:=by omega
     have e2:((s[0].toNat:Int)==48)=false:=by rw[beq_eq_false_iff_ne];exact fun e=>h48 ⟨h1,hp,Int.ofNat_inj.1 (e:((s[0].toNat:Nat):Int)=((48:Nat):Int))⟩
     clear h48;go_wp2;all_goals first
      |(exfalso;exact Hc.out ⟨by omega,by simp only[dG,bT,decide_eq_true_eq];omega⟩)
      |(go_ret;exact⟨⟨k,rfl,hk,R.out⟩,rfl⟩)
    ·clear h48;go_wp2;all_goals first
      |(exfalso;exact Hc.out ⟨by omega,by simp only[dG,bT,decide_eq_true_eq];omega⟩)
      |(go_ret;exact⟨⟨k,rfl,hk,R.out⟩,rfl⟩)
end
section
open Go Go.RowKit
section
variable{P:X6}{fA:Array A8}{Q:Exit→EI→aE→Prop}{md:Region.Mode}{S:aE→Prop}
theorem tH(i:Nat){oi:A8}{v:bB}{fuel:Nat}{jN:Array Bool}{a:EI}{w:aE}(hi:fA[i]? =some oi)
 (h:wpAnyH P md fA Q S fuel (jN.setIfInBounds i true) (a.put oi.dst v) w)
 (hs:Ku fA=true:=by kernel_rfl)(hf:T4 md fA jN i=true:=by kernel_rfl)(hr:(jQ md fA jN).contains i=true:=by kernel_rfl)
 (hQ:∀c a w,Q (.panic c) (a.put oi.dst v) w→Q (.panic c) a w:=by exact fun _ _ _ h=>h)(hw:Ay oi (yielded fA a.tmps)=true:=by kernel_rfl)
 (hy:∀w,S w→(execOp a.eval oi).run P w=.ok (.value v) w:=by(intro w Cj;(try dsimp only at Cj);go_simp;(first |done|with_reducible rfl)))(hS:S w:=by assumption):wpAnyH P md fA Q S (fuel+1) jN a w:=
 wpAnyH_take hi hs hf hr hQ (.inl ⟨hw,hy⟩) hS h
theorem sH(i:Nat){oi:A8}{fuel:Nat}{jN:Array Bool}{a:EI}{w:aE}(hi:fA[i]? =some oi)
 (h:wpAnyH P md fA Q S fuel (jN.setIfInBounds i true) (a.put oi.dst undef) w)
 (hs:Ku fA=true:=by kernel_rfl)(hf:T4 md fA jN i=true:=by kernel_rfl)(hr:(jQ md fA jN).contains i=true:=by kernel_rfl)
 (hQ:∀c a w,Q (.panic c) (a.put oi.dst undef) w→Q (.panic c) a w:=by exact fun _ _ _ h=>h)(hw:Ay oi (yielded fA a.tmps)=false:=by kernel_rfl)(hS:S w:=by assumption):wpAnyH P md fA Q S (fuel+1) jN a w:=
 wpAnyH_take hi hs hf hr hQ (.inr ⟨hw,rfl⟩) hS h
variable{F:Fence}{n:Nat}
theorem tI(i:Nat){oi:A8}{v:bB}{fuel:Nat}{jN:Array Bool}{a:EI}{w:aE}(hi:fA[i]? =some oi)
 (h:OJ F n P md fA Q fuel (jN.setIfInBounds i true) (a.put oi.dst v) w)(Ig:F.round=none:=by rfl)
 (hs:Ku fA=true:=by kernel_rfl)(hf:T4 md fA jN i=true:=by kernel_rfl)(hr:(jQ md fA jN).contains i=true:=by kernel_rfl)
 (hQ:∀c a w,Q (.panic c) (a.put oi.dst v) w→Q (.panic c) a w:=by exact fun _ _ _ h=>h)(hw:Ay oi (yielded fA a.tmps)=true:=by rfl)
 (hy:∀w,(execOp a.eval oi).run P w=.ok (.value v) w:=by(intro w;go_simp;(first |done|with_reducible rfl)))(hb:∀w,oi.about P w a.eval=none:=by exact fun _=>rfl):OJ F n P md fA Q (fuel+1) jN a w:=
 wpAnyIn_take Ig hi hs hf hr hQ ⟨.inl ⟨hw,hy⟩,hb⟩ h
theorem eI(i:Nat)(rs:List Nat){fuel:Nat}{jN:Array Bool}{a:EI}{w:aE}{o:A8}(ho:fA[i]? =some o)
 (h:∀K':EI→aE→Prop,(∀a w,OJ F n P md fA Q fuel (jN.setIfInBounds i true) a w→K' a w)→if Ay o (yielded fA a.tmps)=true then Oper.wpIn F n P o a w K' Q else(∀f,o.about P w a.eval=some f→F.fn f)∧K' (a.put o.dst undef) w)
 (hs:AllReadyIn F n P md fA Q fuel jN a w rs)(hr:jQ md fA jN=i::rs:=by kernel_rfl):OJ F n P md fA Q (fuel+1) jN a w:=
 wpAnyIn_ready hr (by simp) (dV ho h hs)
end
section
def Vf(F:Fence)(n:Nat)(P:X6)(gf:Nat)(lb:Array bB)(nV:Nat→Array bB)(Kp:aE→aE→Prop)(N:Nat)(w:aE):Prop:=
 ∀(l:Nat)(J Jx:Nat→aE→Prop)(W:aE),aJ w.heap.size w W→
  (∀k V,k<N→J k V→YieldAt F (n-1) P l (nV k) V fun e V'=>(e=aO (aM true)∧J (k+1) V'∧Kp V V')∨(e=aO (aM false)∧Jx (k+1) V'))→
  J 0 W→CallsIn F n P gf (#[.func (.yield l) #[] #[]]++lb) W fun e W'=>(∃v,e=aO v)∧(J N W'∨∃k,k≤N∧Jx k W')
def sM(B:Nat)(Kp:aE→aE→Prop)(I:Nat→aE→Prop)(Ix:Cz→Nat→aE→Prop)(k:Nat)(W:aE):Exit→EI→aE→Prop
 |.normal,_,V=>kC B W V∧Kp W V∧I k V
 |.ret,_,V=>kC B W V∧Ix .ret k V
 |.exit id,_,V=>kC B W V∧Ix (.exit id) k V
 |.goto t,_,V=>kC B W V∧Ix (.goto t) k V
 |.panic _,_,_=>False
 |.outgrown,_,_=>False
def dP(fn:Nat)(a:EI)(ps:Array Tmp)(assign body:Cz)(D:Nat)(st:LoopState)(pe:Option Cz):Loop:=
 {state:=st,pending:=pe,fn,tmps:=a.tmps,params:=ps,assign,body,defers:=D}
variable{F:Fence}{n:Nat}{P:X6}
theorem Gz{g:Operand}{ps:Array Tmp}{assign body:Cz}{Q:Exit→EI→aE→Prop}{a:EI}{w:aE}
 (Ig:F.round=none)(h1:1≤n){gf:Nat}{lb:Array bB}(hg:a.eval g=.func (.func gf) #[] lb)(xm:F.fn gf)(eg:∀args w,(callFunc gf args).run P w=.ok (.enter gf args) w)
 {nV:Nat→Array bB}{Kp:aE→aE→Prop}{N:Nat}{w0:aE}(BF:Vf F (n-1) P gf lb nV Kp N w0)(hb0:aJ w0.heap.size w0 w)
 (Kd:∀{A B C:aE},Kp A B→Kp B C→Kp A C)(KD:∀(W:aE)(l:Nat)(o o':Obj),w.heap.size≤l→W.heap[l]? =some o→o.isCells=false→o.isWalk=false→Kp W (W.putObj l o'))(rV:∀k,(nV k).size=ps.size)
 (I:Nat→aE→Prop)(Ix:Cz→Nat→aE→Prop)(hI:OwnFrom w.heap.size I)(DP:∀c,OwnFrom w.heap.size (Ix c))(h0:I 0 w)(vE:Nat→EI)
 (kW:∀(l:Nat)(k:Nat)(W:aE)(K:EI→aE→Prop),K (vE k) W→
  assign.wpIn (F.inRound l) (n-1-1) P (Exit.then K (fun _ _ _=>False)) {tmps:=(ps.zip (nV k)).foldl (fun t(p,v)=>t.setIfInBounds p v) a.tmps,defers:=[]} W)
 (tS:∀(l:Nat)(k:Nat)(W:aE),k<N→I k W→body.wpIn (F.inRound l) (n-1-1) P (sM w.heap.size Kp I Ix (k+1) W) (vE k) W)
 (pV:∀(D:Nat)(W:aE),w.heap.size≤D→I N W→W.heap[D]? =some (.deferred (some []))→Q .normal {a with defers:={target:=.collected D,args:= #[]}::a.defers} W)
 (tT:∀(D:Nat)(c:Cz)(k:Nat)(W:aE),w.heap.size≤D→k≤N→Ix c k W→W.heap[D]? =some (.deferred (some []))→c.wpIn F n P Q {a with defers:={target:=.collected D,args:= #[]}::a.defers} W):
 (Code.rangeFunc g ps assign body).wpIn F n P Q a w:=by
 refine wpIn_rangeFunc ?_
 intro fn YQ
 rw[Ig]
 have hD:=nL w (.deferred (some []))
 obtain⟨V,hV⟩:∃V,(w.alloc (.deferred (some []))).alloc (.loop (dP fn a ps assign body w.heap.size .ready none))=V:=⟨_,rfl⟩
 have kD:V.heap[w.heap.size]? =some (.deferred (some [])):=by rw[←hV];exact(Below.heap_alloc _ _ _ (by simp)).trans hD
 have kL:V.heap[w.heap.size+1]? =some (.loop (dP fn a ps assign body w.heap.size .ready none)):=by
  rw[←hV]
  have:=nL (w.alloc (.deferred (some []))) (.loop (dP fn a ps assign body w.heap.size .ready none))
  rwa[World.size_alloc]at this
 have kI:I 0 V:=by rw[←hV];exact hI.alloc _ (hI.alloc _ h0)
 have kB:aJ w0.heap.size w0 V:=by
  rw[←hV];exact hb0.trans ((((aI _ w).alloc (aD _) _).alloc (by simp) _).mono hb0.size)
 refine⟨w.heap.size+1,[{target:=.collected w.heap.size,args:= #[]}],V,{target:=.fn (.func gf) lb,args:= #[.func (.yield (w.heap.size+1)) #[] #[]]},V,gf,
  #[.func (.yield (w.heap.size+1)) #[] #[]]++lb,V,?_,?_,?_,?_,fun _=>h1,?_⟩
 ·rw[←hV];exact run_enterLoop_outer _ _ _ _ _
 ·simp only[resolve,hg]
  simp[go_sem]
 ·intro f hf
  simp[Target.leads]at hf
  subst hf;exact xm
 ·simp[invoke,go_sem,eg]
 ·have yR:=BF (w.heap.size+1)
   (fun k W=>I k W∧W.heap[w.heap.size+1]? =some (.loop (dP fn a ps assign body w.heap.size .ready none))∧W.heap[w.heap.size]? =some (.deferred (some [])))
   (fun k W=>∃c,Ix c k W∧W.heap[w.heap.size+1]? =some (.loop (dP fn a ps assign body w.heap.size .done (some c)))∧W.heap[w.heap.size]? =some (.deferred (some [])))
   V kB ?round ⟨kI,kL,kD⟩
  case round=>
   rintro k W hk⟨hi,hl,hd⟩
   have hlt:w.heap.size+1<W.heap.size:=(Array.getElem?_eq_some_iff.1 hl).1
   have hy:=run_yield (P:=P) (args:=nV k) hl (by exact rV k)
   refine⟨fn,_,assign,body,hy,roundIn_of_wpIn YQ (kW _ k W _ ⟨_,run_beginRound hl rfl,?_⟩)⟩
   obtain⟨U,hU⟩:∃U,W.putObj (w.heap.size+1) (.loop (dP fn a ps assign body w.heap.size .busy none))=U:=⟨_,rfl⟩
   have uL:U.heap[w.heap.size+1]? =some (.loop (dP fn a ps assign body w.heap.size .busy none)):=by rw[←hU];exact mA hlt
   have uD:U.heap[w.heap.size]? =some (.deferred (some [])):=by rw[←hU];exact(cH (by omega)).trans hd
   have uK:Kp W U:=by rw[←hU];exact KD _ _ _ _ (by omega) hl rfl rfl
   have uI:I k U:=by rw[←hU];exact hI.putObj _ hi (by omega) hl rfl
   have GA:∀(j:Option Cz)(X:aE),kC w.heap.size U X→
    X.heap[w.heap.size+1]? =some (.loop (dP fn a ps assign body w.heap.size .busy none))∧
    (Instr.endRound (w.heap.size+1) j).run P X=.ok (aM j.isNone) (X.putObj (w.heap.size+1) (.loop (dP fn a ps assign body w.heap.size (if j.isNone then .ready else .done) j)))∧
    (X.putObj (w.heap.size+1) (.loop (dP fn a ps assign body w.heap.size (if j.isNone then .ready else .done) j))).heap[w.heap.size+1]? =some (.loop (dP fn a ps assign body w.heap.size (if j.isNone then .ready else .done) j))∧
    (X.putObj (w.heap.size+1) (.loop (dP fn a ps assign body w.heap.size (if j.isNone then .ready else .done) j))).heap[w.heap.size]? =some (.deferred (some [])):=by
    intro j X hX
    have xL:=hX.same _ _ (by omega) uL rfl
    exact⟨xL,run_endRound (P:=P) j xL,mA (Array.getElem?_eq_some_iff.1 xL).1,(cH (by omega)).trans (hX.same _ _ (aD _) uD rfl)⟩
   show Code.wpIn _ _ _ _ _ _ (W.putObj (w.heap.size+1) (.loop (dP fn a ps assign body w.heap.size .busy none)))
   rw[hU]
   refine wpIn_mono (tS _ k U hk uI) ?_
   intro e a3 X hp
   have BG:∀c:Cz,kC w.heap.size U X∧Ix c (k+1) X→_:=fun c hc=>(GA (some c) X hc.1)
   cases e with
   |normal=>
    obtain⟨xL,xr,yL,yD⟩:=GA none X hp.1
    exact⟨_,_,xr,.inl ⟨rfl,⟨hI.putObj _ hp.2.2 (by omega) xL rfl,yL,yD⟩,Kd (Kd uK hp.2.1) (KD _ _ _ _ (by omega) xL rfl rfl)⟩⟩
   |ret=>
    obtain⟨xL,xr,yL,yD⟩:=BG .ret hp
    exact⟨_,_,xr,.inr ⟨rfl,.ret,(DP _).putObj _ hp.2 (by omega) xL rfl,yL,yD⟩⟩
   |exit id=>
    obtain⟨xL,xr,yL,yD⟩:=BG (.exit id) hp
    exact⟨_,_,xr,.inr ⟨rfl,.exit id,(DP _).putObj _ hp.2 (by omega) xL rfl,yL,yD⟩⟩
   |goto t=>
    obtain⟨xL,xr,yL,yD⟩:=BG (.goto t) hp
    exact⟨_,_,xr,.inr ⟨rfl,.goto t,(DP _).putObj _ hp.2 (by omega) xL rfl,yL,yD⟩⟩
   |panic ch=>exact hp.elim
   |outgrown=>exact hp.elim
  refine yR.mono ?_
  rintro e W2⟨⟨v,rfl⟩,(⟨hi,hl,hd⟩|⟨k,hk,c,hi,hl,hd⟩)⟩
  ·exact⟨none,_,run_endLoop (P:=P) hl (by simp[dP]),pV _ _ (aD _) (hI.putObj _ hi (by omega) hl rfl) ((cH (by omega)).trans hd)⟩
  ·exact⟨some c,_,run_endLoop (P:=P) hl (by simp[dP]),tT _ c k _ (aD _) hk ((DP c).putObj _ hi (by omega) hl rfl) ((cH (by omega)).trans hd)⟩
end
end
end Go.Proofs.YtcimoodjlopdaaaGreatDoor
