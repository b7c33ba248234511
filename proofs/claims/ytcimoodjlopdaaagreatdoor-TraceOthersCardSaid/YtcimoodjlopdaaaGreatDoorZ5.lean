import Derived.Test.YtcimoodjlopdaaaGreatDoorProg
import Derived.WalkKit
import Derived.WalkSpells
import Derived.WalkLawsBesides
import Derived.RegionTactic
import Derived.ChangeAlike
import Derived.Deep.QuietTactic
import Derived.BigQuiet
import Derived.Lib.Hide
import Derived.Deep.DeepCutAuto
import Derived.Test.YtcimoodjlopdaaaGreatDoorZ0
import Derived.Test.YtcimoodjlopdaaaGreatDoorZ4
namespace Go.Proofs.YtcimoodjlopdaaaGreatDoor
set_option maxRecDepth 100000
set_option maxHeartbeats 8000000
set_option linter.all false
open Go.Proofs.Tryz
open Bool renaming and_eq_true->bT
open Go renaming World->aE,Calls->aQ,below_drewN->bH,maxLen->cA,run_string_add_lists->eX
open Go.Calls renaming mono->wW
open Go.Ending renaming returned->aO
open Go.IntKind renaming i64->aG
open Go.IntWalk renaming i64_in->aP
open Go.Lib renaming itoa->bL,decDigits->bW,extract_to_end->qF
open Go.Op renaming stringOp->mP
open Go.Proofs.Tryz renaming prog->aC,ntmps88->zH,func88->AH,ntmps90->Jf,ntmps92->Jg,func90->KP,func92->KQ,ntmps153->Qt,func153->TX,ntmps93->TY,ntmps34->TZ,func93->Wo,func34->Wp
open Go.RowKit renaming Below->aJ,Hid->aY
open Go.RowKit.Below renaming refl->aI
open Go.Value renaming string->aA,int->aF,bool->aM,tuple->bO
open Int renaming natAbs_natCast->bP,natCast_mul->gZ,fdiv_eq_ediv_of_nonneg->sS,natAbs_neg->Ai,mul_nonneg->Ic
open List renaming length_cons->cO,length_append->cU,takeWhile_sublist->wM
open Nat renaming le_trans->cC,gcd->cM,lt_of_le_of_lt->dF
open Trans renaming trans->cL
section
open Go Go.RowKit Go.Lib
theorem yO(a b:ByteArray)(w:aE)(hE:eZ w)(FG:a.size≤cA)(uN:b.size≤cA):
 aQ aC 87 #[aA a,aA b] w (Rt (aF aG (dZ a.data.toList b.data.toList)) w):=by
 have Ha:=zq (sK a w hE FG);have Hb:=zq (fun(W:aE)(h:aJ w.heap.size w W)=>sK b W (hE.below h) uN);clear hE FG uN;by_cases h0:cQ a.data.toList=0
 ·have HR:aY (dZ a.data.toList b.data.toList=cQ b.data.toList):=by show _=_;rw[dZ,ip h0]
  rw[HR.out];rw[h0]at Ha;clear HR h0;go_enter func87,ntmps87;go_wp2_with fail
  refine Ha.out.mono ?_;rintro e w1⟨rfl,hb1⟩;go_wp2_with fail
  refine(Hb.out _ hb1).mono ?_;rintro e w2⟨rfl,hb2⟩;have hB:=aH hb1 hb2 hb1.size;go_wp2;go_ret;exact⟨rfl,hB⟩
 ·have HR:aY (dZ a.data.toList b.data.toList=cQ a.data.toList):=by show _=_;rw[dZ,iN h0]
  rw[HR.out];clear HR;generalize cQ a.data.toList=c at *;have h':(c !=0)=true:=by simp[h0]
  clear h0;go_enter func87,ntmps87;go_wp2_with fail
  refine Ha.out.mono ?_;rintro e w1⟨rfl,hb1⟩;go_wp2;go_ret;exact⟨rfl,hb1⟩
def dT(s:List UInt8):List UInt8:=if tM s=true then dS s else[49]
theorem ww (a : ByteArray) : nS a.data.toList = if dY a = true then 45 :: mag (nS a.data.toList) else mag (nS a.data.toList) := by
  rw [DK]
  by_cases h : (nS a.data.toList).head? = some 45
  · rw [ip (by simpa using h), mag, ip h]
    cases e : nS a.data.toList with
    | nil => rw [e] at h; cases h
    | cons c r => rw [e] at h; have : c = 45 := by simpa using h
                  subst this; rfl
  · rw [iN (by simpa using h), mag, iN h]
theorem NP(a:ByteArray)(w:aE)(FG:a.size≤8000000):
 aQ aC 90 #[aA a] w fun e w'=>e=aO (bO #[aA (bs (nS a.data.toList)),aA (bs (dT a.data.toList))])∧∃n,w'=w.drewN n:=by
 have Hsp:=zq (DJ a w (by simp only[cA];omega));unfold DI at Hsp;unfold dT;have hns:=ww a;have kN:(mag (nS a.data.toList)).length≤8000000:=by
  have hn:(nS a.data.toList).length≤a.data.toList.length:=by unfold nS;exact(wM _).length_le
  have:=gP (nS a.data.toList);have hl:a.data.toList.length=a.size:=rfl;omega
 rw[hns];clear hns FG;generalize mag (nS a.data.toList)=N at *;generalize dS a.data.toList=D at *;generalize dY a=m at *;generalize tM a.data.toList=s at *;cases m with
 |true=>
  obtain⟨N2,Uq⟩:∃N2,45::N=N2:=⟨_,rfl⟩;have cat:∀W,(mP .add {data:= #[45]} (bs N)).run aC W=.ok (aA (bs N2)) W:=by rw[←Uq];exact fun W=>eX W [45] N (by decide) (by omega)
  rw[ip rfl,Uq];clear Uq;cases s with
  |true=>
   rw[ip rfl];go_enter KP,Jf;go_wp2_with fail
   refine Hsp.out.mono ?_;rintro e w1⟨rfl,nd,rfl⟩;go_wp2;go_ret2;exact⟨rfl,nd,rfl⟩
  |false=>
   rw[iN (by decide)];go_enter KP,Jf;go_wp2_with fail
   refine Hsp.out.mono ?_;rintro e w1⟨rfl,nd,rfl⟩;go_wp2;go_ret2;exact⟨rfl,nd,rfl⟩
 |false=>
  rw[iN (by decide)];cases s with
  |true=>
   rw[ip rfl];go_enter KP,Jf;go_wp2_with fail
   refine Hsp.out.mono ?_;rintro e w1⟨rfl,nd,rfl⟩;go_wp2;go_ret2;exact⟨rfl,nd,rfl⟩
  |false=>
   rw[iN (by decide)];go_enter KP,Jf;go_wp2_with fail
   refine Hsp.out.mono ?_;rintro e w1⟨rfl,nd,rfl⟩;go_wp2;go_ret2;exact⟨rfl,nd,rfl⟩
theorem YK(n:Int):mkRat n 1=(n:Rat):=by
 apply Rat.ext
 ·rw[Rat.num_mkRat,iN (by decide),Rat.num_intCast];simp
 ·rw[Rat.den_mkRat,iN (by decide),Rat.den_intCast];simp
theorem wy(n:Int)(w:aE)(hn: -4611686018427387904<n)(hn2:n<4611686018427387904):
 aQ aC 243 #[aF aG n,aF aG 1] w (Rt (bO #[aA (bs (aV (n:Rat))),aF aG 0]) w):=by
 have Hq:=zq (AP n 1 w (by omega) (by omega) (by decide) (by decide));rw[YK]at Hq;generalize aV (n:Rat)=T at *;go_enter func243,ntmps243;go_wp2_with fail
 refine Hq.out.mono ?_;rintro e w1⟨rfl,hb1⟩;go_wp2;go_ret2;exact⟨rfl,hb1⟩
def sh9(s:List UInt8):Bool:=decide ((mag (nS s)).length≤9)&&decide ((dS s).length≤9)
theorem Xa(a:ByteArray):qN a.data.toList=if dY a=true then -(num (mag (nS a.data.toList)):Int)else(num (mag (nS a.data.toList)):Int):=by
 rw[qN,dI,DK];by_cases h:(nS a.data.toList).head? =some 45
 ·rw[ip h,ip (by simpa using h)]
 ·rw[iN h,iN (by simpa using h)]
theorem okQ_dg{s:List UInt8}(h:RV s=true):(mag (nS s)).all dG=true∧(tM s=true→(dS s).all dG=true):=by
 obtain⟨h1,h2⟩:=jZ h;exact⟨kE h1,fun e=>kH (h2 e).1⟩
theorem CS{a:ByteArray}(h:cQ a.data.toList=0):a.size≤700:=by
 obtain⟨h1,h2,-⟩:=qG h;simp only[zZ,Bool.or_eq_false_iff,decide_eq_false_iff_not]at h2;have hm:=gP (nS a.data.toList);have hf:rF (nS a.data.toList)≤1:=by unfold rF;split <;>omega
 have hl:a.data.toList.length=a.size:=rfl;by_cases hs:tM a.data.toList=true
 ·have e:=congrArg List.length (AK _ hs);rw[cU,cO]at e;omega
 ·have e:=congrArg List.length (rK _ (by simpa using hs)).1;omega
theorem Sm(a:ByteArray)(w:aE)(FG:a.size≤cA)(h:sh9 a.data.toList=false):
 aQ aC 88 #[aA a] w fun e w'=>e=aO (bO #[aF aG 0,aF aG 0,aM false])∧∃n,w'=w.drewN n:=by
 have Hsp:=zq (DJ a w FG);unfold DI at Hsp;unfold sh9 at h;have hss:(mag (nS a.data.toList)).length≤cA∧(dS a.data.toList).length≤cA:=by
  have hn:(nS a.data.toList).length≤a.data.toList.length:=by unfold nS;exact(wM _).length_le
  have hd:(dS a.data.toList).length≤a.data.toList.length:=by
   unfold dS;rw[List.length_tail];have:=(List.dropWhile_sublist (fun c=>c !=47) (l:=a.data.toList)).length_le;omega
  have:=gP (nS a.data.toList);have hl:a.data.toList.length=a.size:=rfl;omega
 generalize mag (nS a.data.toList)=N at *;generalize dS a.data.toList=D at *;generalize dY a=m at *;generalize tM a.data.toList=s at *;obtain⟨X,hX⟩:=nm (bs N);obtain⟨Y,hY⟩:=nm (bs D);have e1:X.size=N.length:=by rw[←hX,bU]
 have e2:Y.size=D.length:=by rw[←hY,bU]
 rw[hX,hY]at Hsp;obtain⟨Dx,AB⟩:=hss;rw[←e1]at Dx;rw[←e2]at AB;unfold cA at Dx AB;have hc:9<X.size∨9<Y.size:=by
  simp only[Bool.and_eq_false_iff,decide_eq_false_iff_not]at h;omega
 clear h e1 e2 hX hY FG;by_cases h1:9<X.size
 ·have h1i:(9:Int)<(X.size:Int):=by omega
  clear hc;go_enter AH,zH;go_wp2_with fail
  refine Hsp.out.mono ?_;rintro e w1⟨rfl,nd,rfl⟩;go_wp2;go_ret3;exact⟨rfl,nd,rfl⟩
 ·have h1i:¬(9:Int)<(X.size:Int):=by omega
  have h2i:(9:Int)<(Y.size:Int):=by omega
  clear hc h1;go_enter AH,zH;go_wp2_with fail
  refine Hsp.out.mono ?_;rintro e w1⟨rfl,nd,rfl⟩;go_wp2;go_ret3;exact⟨rfl,nd,rfl⟩
theorem gz(a:ByteArray)(w:aE)(FG:a.size≤cA)(hok:RV a.data.toList=true)(h:sh9 a.data.toList=true):
 aQ aC 88 #[aA a] w fun e w'=>e=aO (bO #[aF aG (qN a.data.toList),iv (qD a.data.toList),aM true])∧∃n,w'=w.drewN n:=by
 have Hsp:=zq (DJ a w FG);unfold DI at Hsp;unfold sh9 at h;obtain⟨dg1,dg2⟩:=okQ_dg hok;rw[Xa,qD];have hwh:tM a.data.toList=false→dS a.data.toList=[]:=fun h=>(rK _ h).2;generalize mag (nS a.data.toList)=N at *;generalize dS a.data.toList=D at *;generalize dY a=m at *;generalize tM a.data.toList=s at *;simp only[bT,decide_eq_true_eq]at h;obtain⟨hN,hD⟩:=h;obtain⟨X,hX⟩:=nm (bs N);obtain⟨Y,hY⟩:=nm (bs D);have e1:X.size=N.length:=by rw[←hX,bU]
 have e2:Y.size=D.length:=by rw[←hY,bU]
 have Hx:=zq (fun W=>AO X W (by omega) (by rw[←hX,aX];exact dg1));have hpb:num N<10^9:=Nat.lt_of_lt_of_le (nM N dg1) (Nat.pow_le_pow_right (by decide) hN);rw[show num X.data.toList=num N by rw[←hX,aX]]at Hx;have Hy:aY (s=true→∀W,aQ aC 131 #[aA Y] W fun e w'=>e=aO (iv (num D))∧W=w'):=by
  intro hs W;have:=AO Y W (by omega) (by rw[←hY,aX];exact dg2 hs);rwa[show num Y.data.toList=num D by rw[←hY,aX]]at this
 rw[hX,hY]at Hsp;have h1i:¬(9:Int)<(X.size:Int):=by omega
 have h2i:¬(9:Int)<(Y.size:Int):=by omega
 clear dg1 dg2 hwh hX hY e1 e2 hN hD hok FG;generalize num N=P at *;generalize num D=Q at *;have r0:IntKind.i64.wrap (-(P:Int))= -(P:Int):=aP _ (by omega);cases m<;>cases s
 ·rw[iN (by decide),iN (by decide)];go_enter AH,zH;go_wp2_with fail
  refine Hsp.out.mono ?_;rintro e w1⟨rfl,nd,rfl⟩;go_wp2_with fail
  refine kr (Hx.out _) ?_;go_wp2;go_ret3;exact⟨rfl,nd,rfl⟩
 ·rw[iN (by decide),ip rfl];have HyT:=zq (Hy.out rfl);clear Hy;go_enter AH,zH;go_wp2_with fail
  refine Hsp.out.mono ?_;rintro e w1⟨rfl,nd,rfl⟩;go_wp2_with fail
  refine kr (Hx.out _) ?_;go_wp2_with fail
  refine kr (HyT.out _) ?_;go_wp2;go_ret3;exact⟨rfl,nd,rfl⟩
 ·rw[ip rfl,iN (by decide)];go_enter AH,zH;go_wp2_with fail
  refine Hsp.out.mono ?_;rintro e w1⟨rfl,nd,rfl⟩;go_wp2_with fail
  refine kr (Hx.out _) ?_;go_wp2;go_ret3;exact⟨rfl,nd,rfl⟩
 ·rw[ip rfl,ip rfl];have HyT:=zq (Hy.out rfl);clear Hy;go_enter AH,zH;go_wp2_with fail
  refine Hsp.out.mono ?_;rintro e w1⟨rfl,nd,rfl⟩;go_wp2_with fail
  refine kr (Hx.out _) ?_;go_wp2_with fail
  refine kr (HyT.out _) ?_;go_wp2;go_ret3;exact⟨rfl,nd,rfl⟩
def yP(s:List UInt8):List UInt8×List UInt8×Int:=if cQ s=0 then(nS s,dT s,0)else([],[],cQ s)
theorem NQ(a:ByteArray)(w:aE)(hE:eZ w)(FG:a.size≤cA):
 aQ aC 104 #[aA a] w (Rt (bO #[aA (bs (yP a.data.toList).1),aA (bs (yP a.data.toList).2.1),aF aG (yP a.data.toList).2.2]) w):=by
 have Hc:=zq (sK a w hE FG);by_cases h0:cQ a.data.toList=0
 ·have Hp:=zq (fun W=>NP a W (by have:=CS h0;omega));have HR:yP a.data.toList=(nS a.data.toList,dT a.data.toList,0):=by rw[yP,ip h0]
  rw[HR];rw[h0]at Hc;clear HR h0 hE;go_enter func104,ntmps104;go_wp2_with fail
  refine ka Hc.out fun w1 hb1=>?_;go_wp2_with fail
  refine(Hp.out _).mono ?_;rintro e w2⟨rfl,nd,rfl⟩;go_wp2;go_ret3;exact⟨rfl,bH hb1 nd⟩
 ·have HR:yP a.data.toList=([],[],cQ a.data.toList):=by rw[yP,iN h0]
  rw[HR];clear HR;generalize cQ a.data.toList=c at *;have h':(c !=0)=true:=by simp[h0]
  clear h0 hE;go_enter func104,ntmps104;go_wp2_with fail
  refine ka Hc.out fun w1 hb1=>?_;go_wp2;go_ret3;exact⟨rfl,hb1⟩
theorem E7{s:List UInt8}(h:cQ s=0):nS s=bL (cF s).num:=by
 obtain⟨h1,-⟩:=jZ (qG h).1;rw[(rU h).1,qN,Dt _ h1]
theorem E8{s:List UInt8}(h:cQ s=0):dT s=bL (((cF s).den:Nat):Int):=by
 obtain⟨-,h2⟩:=jZ (qG h).1;rw[(rU h).2,iT,dT,qD];by_cases hs:tM s=true
 ·rw[ip hs,ip hs,oX _ (h2 hs).1]
 ·rw[iN hs,iN hs,rL]
theorem vD{n:Int}(h:n.natAbs<10^300):jE (bL n)=0:=Yg.2 ⟨n,rfl,h⟩
theorem NR{x y:Int}(hx:x.natAbs<10^300)(hy:y.natAbs<10^300):F9 (bL x) (bL y)=iY (x*y):=by
 rw[F9,ip (by rw[dK,ip (vD hx)];exact vD hy),iA,iA]
theorem NS{x y:Int}(hx:x.natAbs<10^300)(hy:y.natAbs<10^300):F8 (bL x) (bL y)=iY (x+y):=by
 rw[F8,ip (by rw[dK,ip (vD hx)];exact vD hy),iA,iA]
theorem NT{x y:Int}(hx:x.natAbs<10^300)(hy:y.natAbs<10^300):Ga (bL x) (bL y)=(uO (x-y),0):=by
 rw[Ga,ip (by rw[dK,ip (vD hx)];exact vD hy),iA,iA]
theorem NU{x y:Int}(hx:x.natAbs<10^300)(hy:y.natAbs<10^300):CI (bL x) (bL y)=(bL ((cM x.natAbs y.natAbs:Nat):Int),0):=by
 rw[CI,ip (by rw[dK,ip (vD hx)];exact vD hy),iA,iA]
theorem Iz{x y:Int}(hx:x.natAbs<10^300)(hy:y.natAbs<10^300)(h0:y≠0):xE (bL x) (bL y)=(bL (x.fdiv y),bL (x.fmod y),0):=by
 rw[Pc (by rw[dK,ip (vD hx)];exact vD hy) (by rw[iA];exact h0),iA,iA]
theorem tQ{n:Int}(h:lW n=true):iY n=(bL n,0):=by rw[iY,ip (of_decide_eq_true h)]
theorem tR{n:Int}(h:lW n=false):iY n=([],4):=by rw[iY,iN (of_decide_eq_false h)]
theorem eH{n:Int}(h:n.natAbs<10^300):(bs (bL n)).size≤301:=by
 rw[bU];exact yK (vD h)
theorem NV(x y:Int)(w:aE)(hE:eZ w)(hx:x.natAbs<10^300)(hy:y.natAbs<10^300):
 aQ aC 212 #[aA (bs (bL x)),aA (bs (bL y))] w (Rt (bO #[aA (bs (iY (x*y)).1),aF aG (iY (x*y)).2]) w):=by
 have:=wg (bs (bL x)) (bs (bL y)) w hE (by have:=eH hx;simp only[cA];omega) (by have:=eH hy;simp only[cA];omega);rwa[aX,aX,NR hx hy]at this
theorem xH(x y u v:Int)(w:aE)(hE:eZ w)(hx:x.natAbs<10^300)(hy:y.natAbs<10^300)(hu:u.natAbs<10^300)(hv:v.natAbs<10^300):
 aQ aC 153 #[aA (bs (bL x)),aA (bs (bL y)),aA (bs (bL u)),aA (bs (bL v))] w fun e w'=>
  (∃A B c,e=aO (bO #[aA A,aA B,aF aG c])∧((lW (x*y)=true∧lW (u*v)=true∧A=bs (bL (x*y))∧B=bs (bL (u*v))∧c=0)∨((lW (x*y)=false∨lW (u*v)=false)∧c=4)))∧aJ w.heap.size w w':=by
 have H1:=zq (NV x y w hE hx hy);have H2:=zq (fun(W:aE)(hb:aJ w.heap.size w W)=>NV u v W (hE.below hb) hu hv);obtain⟨X,hX⟩:∃X,bs (bL x)=X:=⟨_,rfl⟩;obtain⟨Y,hY⟩:∃Y,bs (bL y)=Y:=⟨_,rfl⟩;obtain⟨U,hU⟩:∃U,bs (bL u)=U:=⟨_,rfl⟩;obtain⟨V,hV⟩:∃V,bs (bL v)=V:=⟨_,rfl⟩;rw[hX,hY]at H1;rw[hU,hV]at H2;rw[hX,hY,hU,hV];clear hX hY hU hV hx hy hu hv hE;by_cases ok1:lW (x*y)=true
 ·rw[tQ ok1]at H1;by_cases ok2:lW (u*v)=true
  ·have HR:∀P:(Ending→aE→Prop),(∀W',aJ w.heap.size w W'→P (aO (bO #[aA (bs (bL (x*y))),aA (bs (bL (u*v))),aF aG 0])) W')→
    ∀e W',e=aO (bO #[aA (bs (bL (x*y))),aA (bs (bL (u*v))),aF aG 0])∧aJ w.heap.size w W'→P e W':=by
    rintro P h e W'⟨rfl,hb⟩;exact h W' hb
   have H2':aY (∀W,aJ w.heap.size w W→aQ aC 212 #[aA U,aA V] W (Rt (bO #[aA (bs (bL (u*v))),aF aG 0]) W)):=by
    intro W hb;have:=H2.out W hb;rwa[tQ ok2]at this
   refine wW (R:=fun e W'=>e=aO (bO #[aA (bs (bL (x*y))),aA (bs (bL (u*v))),aF aG 0])∧aJ w.heap.size w W') ?_ (HR _ fun W' hb=>⟨⟨_,_,0,rfl,.inl ⟨ok1,ok2,rfl,rfl,rfl⟩⟩,hb⟩);clear HR H2 ok1 ok2;generalize bL (x*y)=S at *;generalize bL (u*v)=T at *;go_enter TX,Qt;go_wp2_with fail
   refine H1.out.mono ?_;rintro e w1⟨rfl,hb1⟩;go_wp2_with fail
   refine(H2'.out _ hb1).mono ?_;rintro e w2⟨rfl,hb2⟩;have hB:=aH hb1 hb2 hb1.size;go_wp2;go_ret3;exact⟨rfl,hB⟩
  ·have Ly:lW (u*v)=false:=by simpa using ok2
   have H2':aY (∀W,aJ w.heap.size w W→aQ aC 212 #[aA U,aA V] W (Rt (bO #[aA (bs []),aF aG 4]) W)):=by
    intro W hb;have:=H2.out W hb;rwa[tR Ly]at this
   refine wW (R:=fun e W'=>e=aO (bO #[aA (bs (bL (x*y))),aA (bs []),aF aG 4])∧aJ w.heap.size w W') ?_ (by rintro e W' ⟨rfl,hb⟩;exact⟨⟨_,_,4,rfl,.inr ⟨.inr Ly,rfl⟩⟩,hb⟩);clear H2 ok1 ok2 Ly;generalize bL (x*y)=S at *;go_enter TX,Qt;go_wp2_with fail
   refine H1.out.mono ?_;rintro e w1⟨rfl,hb1⟩;go_wp2_with fail
   refine(H2'.out _ hb1).mono ?_;rintro e w2⟨rfl,hb2⟩;have hB:=aH hb1 hb2 hb1.size;go_wp2;go_ret3;exact⟨rfl,hB⟩
 ·have Lz:lW (x*y)=false:=by simpa using ok1
  rw[tR Lz]at H1;refine wW (R:=fun e W'=>e=aO (bO #[aA {data:= #[]},aA {data:= #[]},aF aG 4])∧aJ w.heap.size w W') ?_ (by rintro e W' ⟨rfl,hb⟩;exact⟨⟨_,_,4,rfl,.inr ⟨.inl Lz,rfl⟩⟩,hb⟩);clear H2 ok1 Lz;go_enter TX,Qt;go_wp2_with fail
  refine H1.out.mono ?_;rintro e w1⟨rfl,hb1⟩;go_wp2;go_ret3;exact⟨rfl,hb1⟩
theorem DN(z:Int):dY (bs (bL z))=decide (z<0):=by
 have h:=rG (bs (bL z));rw[aX]at h;unfold rF at h;by_cases hz:z<0
 ·rw[ip ((sG z).2 hz)]at h;rw[decide_eq_true hz];by_cases k:dY (bs (bL z))=true
  ·exact k
  ·rw[iN k]at h;cases h
 ·rw[iN (mt (sG z).1 hz)]at h;rw[decide_eq_false hz];by_cases k:dY (bs (bL z))=true
  ·rw[ip k]at h;cases h
  ·simpa using k
theorem vM(z:Int):0<(bs (bL z)).size:=by
 rw[bU];have:=uX (yA z);omega
theorem DO{z:Int}(h:z<0):(bs (bL z)).extract 1 (bs (bL z)).size=bs (bL (-z)):=by
 refine Em ?_;rw[qF,aX,rE h,gO (by omega),Ai];rfl
theorem E9{z:Int}(h:0<z):45::bL z=bL (-z):=by
 have e1:bL (-z)=45::bW (-z).natAbs:=rE (by omega);have e2:bL z=bW z.natAbs:=gO (by omega);rw[e1,e2,Ai]
theorem An(z:Int):(bL z==[48])=decide (z=0):=by
 by_cases h:z=0
 ·subst h;rw[show(0:Int)=((0:Nat):Int)from rfl,iT,jR];decide
 ·rw[decide_eq_false h,beq_eq_false_iff_ne];intro e;have:=congrArg dI e;rw[iA]at this;exact h (this.trans (by decide))
def wN(x y:Int):Int:=if y<0 then -x else x
theorem NW(x y:Int)(w:aE)(hE:eZ w)(hx:x.natAbs<10^300)(hy:y.natAbs<10^300)(h0:y≠0):
 aQ aC 154 #[aA (bs (bL x)),aA (bs (bL y))] w fun e w'=>e=aO (bO #[aA (bs (aV (mkRat (wN x y) y.natAbs))),aF aG 0])∧aJ w.heap.size w w':=by
 have lx:=eH hx;have ly:=eH hy;have px:=vM x;have py:=vM y;have nx:=DN x;have ny:=DN y;rw[pE _ px]at nx;rw[pE _ py]at ny;have Fa:aY (0<x→∀W,(mP .add {data:= #[45]} (bs (bL x))).run aC W=.ok (aA (bs (bL (-x)))) W):=by
  intro h W;have:=eX (P:=aC) W [45] (bL x) (by decide) (by rw[bU]at lx;omega);rw[show[45]++bL x=bL (-x)from E9 h]at this;exact this
 have Hz:aY (((bs (bL x)).toList==[48])=decide (x=0)):=by show _=_;rw[vC];exact An x
 have Htx:aY (x<0→(bs (bL x)).extract 1 (bs (bL x)).size=bs (bL (-x))):=fun h=>DO h;have Hty:aY (y<0→(bs (bL y)).extract 1 (bs (bL y)).size=bs (bL (-y))):=fun h=>DO h;generalize hX:bs (bL x)=X at *;generalize hY:bs (bL y)=Y at *;have HX:=zq hX;have HY:=zq hY;clear hX hY;go_enter func154,ntmps154;go_upto_if 11 with fail;go_cut[0,1] (fun n d w'=>n=aA (bs (bL (wN x y)))∧d=aA (bs (bL ((y.natAbs:Nat):Int)))∧w=w');case first =>
  by_cases hy0:y<0
  ·rw[decide_eq_true hy0]at ny;have e1:=Hty.out hy0;have eY:bL (-y)=bL ((y.natAbs:Nat):Int):=by congr 1;omega
   rw[eY]at e1;have EX:aY (wN x y= -x):=ip hy0;have yl:(1:Int)≤(Y.size:Int):=by omega
   have xl:(1:Int)≤(X.size:Int):=by omega
   by_cases hx0:x<0
   ·rw[decide_eq_true hx0]at nx;have e2:=Htx.out hx0;clear Fa Hz eY;go_wp2;go_meet;case rel=>exact⟨by rw[EX.out],rfl,rfl⟩
   ·rw[decide_eq_false hx0]at nx;by_cases hxz:x=0
    ·have z:=Hz.out;rw[decide_eq_true hxz]at z;have z2:(X.toList !=[48])=false:=by rw[bne,z];rfl
     have HXX:aY (X=bs (bL (-x))):=by show _=_;rw[←HX.out,hxz];rfl
     clear Fa Hz eY;go_wp2;go_meet;case rel=>exact⟨by rw[EX.out,←HXX.out],rfl,rfl⟩
    ·have z:=Hz.out;rw[decide_eq_false hxz]at z;have z2:(X.toList !=[48])=true:=by rw[bne,z];rfl
     have hc:=Fa.out (by omega);clear Fa Hz eY;go_wp2;go_meet;case rel=>exact⟨by rw[EX.out],rfl,rfl⟩
  ·rw[decide_eq_false hy0]at ny;have EX:aY (wN x y=x):=iN hy0;have EY:aY (((y.natAbs:Nat):Int)=y):=by show _=_;omega
   clear Fa Hz;go_wp2;go_meet;case rel=>exact⟨by rw[EX.out,HX.out],by rw[EY.out,HY.out],rfl⟩
 case rest=>
  obtain⟨rfl,rfl,rfl⟩:=hcut;have hv:y.natAbs≠0:=by omega
  have hu:(wN x y).natAbs<10^300:=by unfold wN;split <;>omega
  have hE:=hE;clear Fa Hz Htx Hty HX HY lx ly px py nx ny hx h0;generalize hEU:wN x y=u at *;generalize hEV:y.natAbs=v at *;have tg:=zq hEU;have th:=zq hEV;clear hEU hEV;have lP:=eH hu;have lQ:=eH (n:=((v:Nat):Int)) (by rw[bP];exact hy);have pP:=vM u;have nP:=DN u;rw[pE _ pP]at nP;have hsP:(bs (bL u)).size≤18→u.natAbs<10^18:=fun h=>by rw[←iA u];exact rI (yA u) (by rw[bU]at h;exact h)|>fun k=>by rw[gR];exact k
  have hsQ:(bs (bL ((v:Nat):Int))).size≤18→v<10^18:=fun h=>by
   have:=rI (yA ((v:Nat):Int)) (by rw[bU]at h;exact h);rw[←gR,iA,bP]at this;exact this
  have Hty:aY (u<0→(bs (bL u)).extract 1 (bs (bL u)).size=bs (bL (-u))):=fun h=>DO h;have ia:∀z:Int,0≤z→(bs (bL z)).data.toList.all dG=true∧num (bs (bL z)).data.toList=z.natAbs:=by
   intro z hz;rw[aX,gO hz];exact⟨lD _,iR _⟩
  have Hsm:=zq (fun(z:Int)(hz:0≤z)(W:aE)(h:(bs (bL z)).size≤18)=>(ia z hz).2▸AO (bs (bL z)) W h (ia z hz).1);by_cases hsh:(bs (bL u)).size≤18∧(bs (bL ((v:Nat):Int))).size≤18
  ·have hub:=hsP hsh.1;have ti:=hsQ hsh.2;have Hq:=zq (fun W=>AP u v W (by omega) (by omega) hv (by omega));have HQs:=zq (fun W=>Hsm.out ((v:Nat):Int) (by omega) W hsh.2);have i1:((bs (bL u)).size:Int)≤18:=by omega
   have i2:((bs (bL ((v:Nat):Int))).size:Int)≤18:=by omega
   by_cases hneg:u<0
   ·rw[decide_eq_true hneg]at nP;have e1:=Hty.out hneg;have hl1:(bs (bL (-u))).size≤18:=by
     rw[←e1];have:=hsh.1;have e9:((bs (bL u)).extract 1 (bs (bL u)).size).size=((bs (bL u)).extract 1 (bs (bL u)).size).data.toList.length:=rfl;rw[e9,qF,List.length_drop];have e8:(bs (bL u)).data.toList.length=(bs (bL u)).size:=rfl;omega
    have HPs:=zq (fun W=>Hsm.out (-u) (by omega) W hl1);obtain⟨p,hp⟩:=nm ((-u).natAbs);rw[hp]at HPs;have r0:IntKind.i64.wrap (-(p:Int))=u:=by rw[show -(p:Int)=u by omega];exact aP _ (by omega)
    have pi:(1:Int)≤((bs (bL u)).size:Int):=by omega
    clear hp hub ti hsP hsQ ia Hsm hsh hu hy hv;go_wp2_with fail
    refine kr (HPs.out _) ?_;go_wp2_with fail
    refine kr (HQs.out _) ?_;rw[bP];go_wp2_with fail
    refine ka (Hq.out _) fun w1 hb1=>?_;go_wp2;go_ret2;exact⟨by rw[tg.out,th.out];rfl,hb1⟩
   ·rw[decide_eq_false hneg]at nP;have HPs:=zq (fun W=>Hsm.out u (by omega) W hsh.1);have eu:iv u.natAbs=aF aG u:=by show aF aG _=_;congr 1;omega
    rw[eu]at HPs;clear eu hub ti hsP hsQ ia Hsm hsh hu hy hv;go_wp2_with fail
    refine kr (HPs.out _) ?_;go_wp2_with fail
    refine kr (HQs.out _) ?_;rw[bP];go_wp2_with fail
    refine ka (Hq.out _) fun w1 hb1=>?_;go_wp2;go_ret2;exact⟨by rw[tg.out,th.out];rfl,hb1⟩
  ·have hshI:¬(((bs (bL u)).size:Int)≤18∧((bs (bL ((v:Nat):Int))).size:Int)≤18):=by omega
   obtain⟨q1,q2⟩:=vY u v hv;have Jr:0<cM u.natAbs v:=Nat.gcd_pos_of_pos_right _ (by omega);have Us:cM u.natAbs v≤v:=Nat.gcd_le_right _ (by omega);obtain⟨vq,WI⟩:=vZ u v hv;have hvz:((v:Nat):Int).natAbs<10^300:=by rw[bP];exact hy
   have hG:=NU hu hvz;rw[bP]at hG;have hT:aV (mkRat u v)=if(mkRat u v).den=1 then bL (mkRat u v).num else bL (mkRat u v).num++47::bW (mkRat u v).den:=rfl
   obtain⟨g,hg⟩:=nm (cM u.natAbs v);rw[hg]at hG q1 q2 Jr Us;have hgz:((g:Nat):Int).natAbs<10^300:=by rw[bP];exact dF Us hy
   have hD1:=Iz hu hgz (by omega);have hD2:=Iz hvz hgz (by omega);rw[sS _ (by omega),←q1]at hD1;rw[sS _ (by omega),←Int.natCast_ediv,←q2]at hD2;have HG:aY (∀W,eZ W→aQ aC 132 #[aA (bs (bL u)),aA (bs (bL ((v:Nat):Int)))] W fun e w'=>e=aO (bO #[aA (bs (bL ((g:Nat):Int))),aF aG 0])∧aJ W.heap.size W w'):=by
    intro W hW;have:=WQ (bs (bL u)) (bs (bL ((v:Nat):Int))) W hW (by simp only[cA];omega) (by simp only[cA];omega);rwa[aX,aX,hG]at this
   have lg:=eH hgz;have Fb:aY (∀W,eZ W→aQ aC 213 #[aA (bs (bL u)),aA (bs (bL ((g:Nat):Int)))] W fun e w'=>e=aO (bO #[aA (bs (bL (mkRat u v).num)),aA (bs (bL (u.fmod g))),aF aG 0])∧aJ W.heap.size W w'):=by
    intro W hW;have:=Lj (bs (bL u)) (bs (bL ((g:Nat):Int))) W hW (by simp only[cA];omega) (by simp only[cA];omega);rwa[aX,aX,hD1]at this
   have Ew:aY (∀W,eZ W→aQ aC 213 #[aA (bs (bL ((v:Nat):Int))),aA (bs (bL ((g:Nat):Int)))] W fun e w'=>e=aO (bO #[aA (bs (bL (((mkRat u v).den:Nat):Int))),aA (bs (bL (((v:Nat):Int).fmod g))),aF aG 0])∧aJ W.heap.size W w'):=by
    intro W hW;have:=Lj (bs (bL ((v:Nat):Int))) (bs (bL ((g:Nat):Int))) W hW (by simp only[cA];omega) (by simp only[cA];omega);rwa[aX,aX,hD2]at this
   have HT:=zq hT;clear hT hG hD1 hD2 q1 q2 hsP hsQ ia Hsm hg hshI;generalize(mkRat u v).num=n at *;generalize(mkRat u v).den=d at *;have hn3:n.natAbs<10^300:=dF vq hu;have hd3:((d:Nat):Int).natAbs<10^300:=by rw[bP];exact dF WI hy
   have ln:=eH hn3;have ld:(bs (bL ((d:Nat):Int))).size≤300:=by
    rw[bU,iT,cJ _ _ (by decide)];rw[bP]at hd3;exact hd3
   have ldi:¬(300:Int)<((bs (bL ((d:Nat):Int))).size:Int):=by omega
   have pn:=vM n;have nn:=DN n;rw[pE _ pn]at nn;have Hsh:=zq hsh;have ic:aY (∀W,(mP .add (bs (bL n)) {data:= #[47]}).run aC W=.ok (aA (bs (bL n++[47]))) W):=fun W=>eX W (bL n) [47] (by rw[bU]at ln;omega) (by decide);have Va:aY (∀W,(mP .add (bs (bL n++[47])) (bs (bL ((d:Nat):Int)))).run aC W=.ok (aA (bs (bL n++[47]++bL ((d:Nat):Int)))) W):=fun W=>eX W (bL n++[47]) (bL ((d:Nat):Int)) (by rw[bU]at ln;rw[cU];simp only[cO,List.length_nil];omega) (by rw[bU]at ld;omega);have YL:((bs (bL ((d:Nat):Int))).toList==[49])=decide (d=1):=by rw[vC];exact CR d
   have hl18:(18:Int)<((bs (bL u)).size:Int)∨(((bs (bL u)).size:Int)≤18∧(18:Int)<((bs (bL ((v:Nat):Int))).size:Int)):=by omega
   have Htn:aY (n<0→(bs (bL n)).extract 1 (bs (bL n)).size=bs (bL (-n))∧¬(300:Int)<((bs (bL (-n))).size:Int)):=fun h=>⟨DO h,by have e:=cJ n.natAbs 300 (by decide);rw[bU,gO (by omega),Ai];have:=e.2 hn3;omega⟩;have Hpn:aY (¬n<0→¬(300:Int)<((bs (bL n)).size:Int)):=fun h=>by have e:=cJ n.natAbs 300 (by decide);rw[bU,gO (by omega)];have:=e.2 hn3;omega
   have pni:(1:Int)≤((bs (bL n)).size:Int):=by omega
   clear hsh hgz Jr Us vq WI hn3 hd3 hu hy hvz lg;generalize hDD:bs (bL ((d:Nat):Int))=D at *;have HDD:=zq hDD;clear hDD;rcases hl18 with a1|⟨a1,a2⟩
   ·have a1':¬((bs (bL u)).size:Int)≤18:=by omega
    go_wp2_with fail
    refine ka (HG.out _ hE) fun w1 hb1=>?_;go_wp2_with fail
    refine ka (Fb.out _ (hE.below hb1)) fun w2 hb2=>?_;go_wp2_with fail
    refine ka (Ew.out _ ((hE.below hb1).below hb2)) fun w3 hb3=>?_;have hB:aJ w.heap.size w w3:=aH (aH hb1 hb2 hb1.size) hb3 (cC hb1.size hb2.size);clear hb1 hb2 hb3;by_cases hn:n<0
    ·rw[decide_eq_true hn]at nn;obtain⟨e1,e2⟩:=Htn.out hn;have e2':((bs (bL (-n))).size:Int)≤300:=by omega
     by_cases hd:d=1
     ·rw[decide_eq_true hd]at YL;go_wp2;go_ret2;exact⟨by rw[tg.out,th.out,HT.out,ip hd];rfl,hB⟩
     ·rw[decide_eq_false hd]at YL;have c1:=ic.out;have c2:=Va.out;go_wp2;go_ret2;exact⟨by rw[tg.out,th.out,HT.out,iN hd,←iT d];rfl,hB⟩
    ·rw[decide_eq_false hn]at nn;have e2':((bs (bL n)).size:Int)≤300:=by have:=Hpn.out (by omega);omega
     by_cases hd:d=1
     ·rw[decide_eq_true hd]at YL;go_wp2;go_ret2;exact⟨by rw[tg.out,th.out,HT.out,ip hd];rfl,hB⟩
     ·rw[decide_eq_false hd]at YL;have c1:=ic.out;have c2:=Va.out;go_wp2;go_ret2;exact⟨by rw[tg.out,th.out,HT.out,iN hd,←iT d];rfl,hB⟩
   ·have a2':¬((bs (bL ((v:Nat):Int))).size:Int)≤18:=by omega
    go_wp2_with fail
    refine ka (HG.out _ hE) fun w1 hb1=>?_;go_wp2_with fail
    refine ka (Fb.out _ (hE.below hb1)) fun w2 hb2=>?_;go_wp2_with fail
    refine ka (Ew.out _ ((hE.below hb1).below hb2)) fun w3 hb3=>?_;have hB:aJ w.heap.size w w3:=aH (aH hb1 hb2 hb1.size) hb3 (cC hb1.size hb2.size);clear hb1 hb2 hb3;by_cases hn:n<0
    ·rw[decide_eq_true hn]at nn;obtain⟨e1,e2⟩:=Htn.out hn;have e2':((bs (bL (-n))).size:Int)≤300:=by omega
     by_cases hd:d=1
     ·rw[decide_eq_true hd]at YL;go_wp2;go_ret2;exact⟨by rw[tg.out,th.out,HT.out,ip hd];rfl,hB⟩
     ·rw[decide_eq_false hd]at YL;have c1:=ic.out;have c2:=Va.out;go_wp2;go_ret2;exact⟨by rw[tg.out,th.out,HT.out,iN hd,←iT d];rfl,hB⟩
    ·rw[decide_eq_false hn]at nn;have e2':((bs (bL n)).size:Int)≤300:=by have:=Hpn.out (by omega);omega
     by_cases hd:d=1
     ·rw[decide_eq_true hd]at YL;go_wp2;go_ret2;exact⟨by rw[tg.out,th.out,HT.out,ip hd];rfl,hB⟩
     ·rw[decide_eq_false hd]at YL;have c1:=ic.out;have c2:=Va.out;go_wp2;go_ret2;exact⟨by rw[tg.out,th.out,HT.out,iN hd,←iT d];rfl,hB⟩
theorem Gv{q:Rat}(h:q.num<0):45::aV (-q)=aV q:=by
 have e1:(-q).num= -q.num:=rfl;have e2:(-q).den=q.den:=rfl;have e3:=E9 (z:= -q.num) (by omega);rw[Int.neg_neg]at e3;unfold aV;rw[e1,e2];by_cases k:q.den=1
 ·rw[ip k,ip k,e3]
 ·rw[iN k,iN k,←e3];rfl
theorem Pf{q:Rat}(h:0<q.num):aV (-q)=45::aV q:=by
 have e1:(-q).num= -q.num:=rfl;have:=Gv (q:= -q) (by rw[e1];omega);rw[←this,show - -q=q by rw[Rat.neg_neg]]
theorem sL:aV 0=[48]:=by
 rw[aV,ip (show(0:Rat).den=1 from rfl)];exact(iT 0).trans jR
theorem Ao(q:Rat):(aV q==[48])=decide (q.num=0):=by
 by_cases h:q.num=0
 ·have:q=0:=Rat.num_eq_zero.1 h;subst this;rw[sL];decide
 ·rw[decide_eq_false h,beq_eq_false_iff_ne];intro e;rw[←sL]at e;exact h (by rw[fv e];rfl)
theorem NX(q:Rat):dY (bs (aV q))=decide (q.num<0):=by
 rw[DK,aX,(vB q).1];by_cases h:q.num<0
 ·rw[decide_eq_true h,(sG q.num).2 h];rfl
 ·rw[decide_eq_false h];exact decide_eq_false (mt (sG q.num).1 h)
theorem AT{q:Rat}(h1:q.num.natAbs<10^300)(h2:q.den<10^300):1≤(bs (aV q)).size∧(bs (aV q)).size≤700:=by
 refine⟨?_,CS (by rw[show(bs (aV q)).data.toList=aV q from rfl];exact CL q h1 h2)⟩;rw[bU,aV];have:=uX (yA q.num);split
 ·omega
 ·rw[cU];omega
theorem Pg(q:Rat)(w:aE)(h1:q.num.natAbs<10^300)(h2:q.den<10^300):
 aQ aC 93 #[aA (bs (aV q))] w fun e w'=>e=aO (aA (bs (aV (-q))))∧w'=w:=by
 obtain⟨s1,s2⟩:=AT h1 h2;have hz:((bs (aV q)).toList==[48])=decide (q.num=0):=by rw[vC];exact Ao q
 have hn:=NX q;rw[pE _ s1]at hn;have Fa:aY (0<q.num→∀W,(mP .add {data:= #[45]} (bs (aV q))).run aC W=.ok (aA (bs (aV (-q)))) W):=by
  intro h W;have:=eX (P:=aC) W [45] (aV q) (by decide) (by rw[bU]at s2;omega);rw[show[45]++aV q=aV (-q)from(Pf h).symm]at this;exact this
 have Ht:aY (q.num<0→(bs (aV q)).extract 1 (bs (aV q)).size=bs (aV (-q))):=by
  intro h;refine Em ?_;rw[qF,aX,←Gv h];rfl
 have H0:aY (q.num=0→bs (aV q)=bs (aV (-q))):=by
  intro h;rw[Rat.num_eq_zero.1 h];rfl
 have si:(1:Int)≤((bs (aV q)).size:Int):=by omega
 generalize bs (aV q)=A at *;generalize bs (aV (-q))=B at *;by_cases c0:q.num=0
 ·rw[decide_eq_true c0]at hz;have E1:=zq (H0.out c0);clear Fa Ht hn c0 h1 h2 H0;go_enter Wo,TY;go_wp2;go_ret;exact⟨by rw[←E1.out];rfl,rfl⟩
 ·rw[decide_eq_false c0]at hz;by_cases cn:q.num<0
  ·rw[decide_eq_true cn]at hn;have e1:=Ht.out cn;clear Fa H0 c0 cn h1 h2;go_enter Wo,TY;go_wp2;go_ret;exact⟨rfl,rfl⟩
  ·rw[decide_eq_false cn]at hn;have e1:=Fa.out (by omega);clear Ht H0 c0 cn h1 h2;go_enter Wo,TY;go_wp2;go_ret;exact⟨rfl,rfl⟩
def CU(x:Rat):Bool:=decide (x.num.natAbs<10^9)&&decide (x.den<10^9)
theorem Sn(x:Rat):sh9 (aV x)=CU x:=by
 obtain⟨h1,-,-,h4,h5⟩:=vB x;unfold sh9 CU;rw[h1,oM];congr 1
 ·exact decide_eq_decide.2 (cJ _ 9 (by decide))
 ·by_cases hs:tM (aV x)=true
  ·rw[(h5 hs).1];exact decide_eq_decide.2 (cJ _ 9 (by decide))
  ·rw[h4 (by simpa using hs),(rK _ (by simpa using hs)).2];decide
theorem qW{x:Rat}(h:CU x=true):HQ 9 x:=by
 unfold CU at h;rw[bT,decide_eq_true_eq,decide_eq_true_eq]at h;exact h
theorem Vb{x:Rat}(h:HQ 300 x):cQ (aV x)=0:=CL x h.1 h.2
theorem lR(x:Rat)(w:aE)(h:HQ 300 x)(hs:CU x=true):
 aQ aC 88 #[aA (bs (aV x))] w fun e w'=>e=aO (bO #[aF aG x.num,iv x.den,aM true])∧∃n,w'=w.drewN n:=by
 have s:=(AT h.1 h.2).2;have:=gz (bs (aV x)) w (by simp only[cA];omega) (qG (Vb h)).1 (by rw[show(bs (aV x)).data.toList=aV x from rfl,Sn];exact hs);rw[show(bs (aV x)).data.toList=aV x from rfl,(vB x).2.1,(vB x).2.2.1]at this;exact this
theorem yQ(x:Rat)(w:aE)(h:HQ 300 x)(hs:CU x=false):
 aQ aC 88 #[aA (bs (aV x))] w fun e w'=>e=aO (bO #[aF aG 0,aF aG 0,aM false])∧∃n,w'=w.drewN n:=by
 have s:=(AT h.1 h.2).2;exact Sm (bs (aV x)) w (by simp only[cA];omega) (by rw[show(bs (aV x)).data.toList=aV x from rfl,Sn];exact hs)
theorem oC(x:Rat)(w:aE)(h:HQ 300 x):
 aQ aC 90 #[aA (bs (aV x))] w fun e w'=>e=aO (bO #[aA (bs (bL x.num)),aA (bs (bL ((x.den:Nat):Int)))])∧∃n,w'=w.drewN n:=by
 have s:=(AT h.1 h.2).2;have:=NP (bs (aV x)) w (by omega);rw[show(bs (aV x)).data.toList=aV x from rfl,E7 (Vb h),E8 (Vb h),kT]at this;exact this
theorem YM(x y:Int)(w:aE)(hE:eZ w)(hx:x.natAbs<10^300)(hy:y.natAbs<10^300):
 aQ aC 155 #[aA (bs (bL x)),aA (bs (bL y))] w (Rt (bO #[aA (bs (iY (x+y)).1),aF aG (iY (x+y)).2]) w):=by
 have:=we (bs (bL x)) (bs (bL y)) w hE (by have:=eH hx;simp only[cA];omega) (by have:=eH hy;simp only[cA];omega);rwa[aX,aX,NS hx hy]at this
theorem YN(x y:Rat):mkRat (wN (x.num*y.den+y.num*x.den) ((x.den:Int)*y.den)) ((x.den:Int)*y.den).natAbs=x+y:=by
 have h1:(0:Int)≤(x.den:Int)*y.den:=Ic (by omega) (by omega);rw[wN,iN (by omega),←xR];congr 1
def Gw(x y:Rat):List UInt8×Int:=if Et x y=true then(aV (x+y),0)else([],4)
theorem qI{a b:Int}(ha:a.natAbs<10^9)(hb:b.natAbs<10^9):(a*b).natAbs<10^18:=lN ha hb
theorem Ph(x y:Rat)(w:aE)(hE:eZ w)(hx:HQ 300 x)(hy:HQ 300 y):
 aQ aC 92 #[aA (bs (aV x)),aA (bs (aV y))] w (Rt (bO #[aA (bs (Gw x y).1),aF aG (Gw x y).2]) w):=by
 by_cases hs:CU x=true∧CU y=true
 ·have Ha:aY (Gw x y=(aV (x+y),0)):=by
   show _=_;rw[Gw,ip (Ln (qW hs.1) (qW hs.2) (by decide))]
  have H1:=zq (fun W=>lR x W hx hs.1);have H2:=zq (fun W=>lR y W hy hs.2);obtain⟨n1,d1⟩:=qW hs.1;obtain⟨n2,d2⟩:=qW hs.2;have b1:=qI (b:=(y.den:Int)) n1 (by omega);have b2:=qI (b:=(x.den:Int)) n2 (by omega);have b3:=qI (a:=(x.den:Int)) (b:=(y.den:Int)) (by omega) (by omega);have hd:x.den*y.den≠0:=rQ x y;have HM:aY (mkRat (x.num*y.den+y.num*x.den) (x.den*y.den)=x+y):=xR x y;have Hq:=zq (fun W=>AP (x.num*y.den+y.num*x.den) (x.den*y.den) W (by omega) (by omega) hd (by have e:((x.den*y.den:Nat):Int)=(x.den:Int)*y.den:=gZ _ _;omega));have w1:IntKind.i64.wrap (x.num*(y.den:Int))=x.num*y.den:=aP _ (by omega);have w2:IntKind.i64.wrap (y.num*(x.den:Int))=y.num*x.den:=aP _ (by omega);have w3:IntKind.i64.wrap (x.num*y.den+y.num*x.den)=x.num*y.den+y.num*x.den:=aP _ (by omega);have w4:IntKind.i64.wrap ((x.den:Int)*(y.den:Int))=((x.den*y.den:Nat):Int):=by rw[gZ];exact aP _ (by omega)
  clear hs b1 b2 b3 hd n1 n2 d1 d2 hx hy hE;unfold iv at H1 H2 Hq;go_enter KQ,Jg;go_wp2_with fail
  refine(H1.out _).mono ?_;rintro e W1⟨rfl,k1,rfl⟩;go_wp2_with fail
  refine(H2.out _).mono ?_;rintro e W2⟨rfl,k2,rfl⟩;go_wp2_with fail
  refine(Hq.out _).mono ?_;rintro e W3⟨rfl,hb⟩;go_wp2;go_ret2;exact⟨by rw[Ha.out,←HM.out];rfl,(bH (aI _ w) _).trans hb⟩
 ·have P1:=zq (fun W=>oC x W hx);have P2:=zq (fun W=>oC y W hy);have dx:((x.den:Nat):Int).natAbs<10^300:=hx.d;have dy:((y.den:Nat):Int).natAbs<10^300:=hy.d;have YO:=zq (fun(W:aE)(hb:aJ w.heap.size w W)=>xH x.num y.den y.num x.den W (hE.below hb) hx.1 dy hy.1 dx);have Xb:=zq (fun(W:aE)(hb:aJ w.heap.size w W)=>xH x.den y.den 1 1 W (hE.below hb) dx dy (OP 300 (by decide)) (OP 300 (by decide)));have i1:bs (bL 1)={data:= #[49]}:=by rw[show bL 1=[49]from(iT 1).trans rL];rfl
  have o1:lW (1*1)=true:=BD (k:=1) (by decide) (by decide);rw[show(1:Int)*1=1 from rfl,i1]at Xb;have HA:=zq (fun(a1:lW (x.num*y.den)=true)(a2:lW (y.num*x.den)=true)(W:aE)(hb:aJ w.heap.size w W)=>YM (x.num*y.den) (y.num*x.den) W (hE.below hb) (of_decide_eq_true a1) (of_decide_eq_true a2));have hz:(x.den:Int)*y.den≠0:=by rw[←gZ];have:=rQ x y;omega
  have HM:=zq (fun(a1:lW (x.num*y.den+y.num*x.den)=true)(a2:lW ((x.den:Int)*y.den)=true)(W:aE)(hb:aJ w.heap.size w W)=>NW (x.num*y.den+y.num*x.den) ((x.den:Int)*y.den) W (hE.below hb) (of_decide_eq_true a1) (of_decide_eq_true a2) hz);rw[YN]at HM;have Uu:aY (lW (x.num*y.den)=true→lW (y.num*x.den)=true→lW ((x.den:Int)*y.den)=true→lW (x.num*y.den+y.num*x.den)=true→Gw x y=(aV (x+y),0)):=by
   intro a b c d;rw[Gw,Et,iS,a,b,c,d];rfl
  have No:aY ((lW (x.num*y.den)&&lW (y.num*x.den)&&lW (x.num*y.den+y.num*x.den)&&lW ((x.den:Int)*y.den))=false→Gw x y=([],4)):=by
   intro a;rw[Gw,Et,iS,a];rfl
  clear dx dy hz i1;rcases(by revert hs;cases CU x<;>cases CU y<;>simp:(CU x=true∧CU y=false)∨(CU x=false∧CU y=true)∨(CU x=false∧CU y=false))with⟨h1,h2⟩|⟨h1,h2⟩|⟨h1,h2⟩
  ·have H1:=zq (fun W=>lR x W hx h1);have H2:=zq (fun W=>yQ y W hy h2);unfold iv at H1 H2;clear h1 h2 hs hx hy hE;go_enter KQ,Jg;go_wp2_with fail
   refine(H1.out _).mono ?_;rintro e W1⟨rfl,k1,rfl⟩;go_wp2_with fail
   refine(H2.out _).mono ?_;rintro e W2⟨rfl,k2,rfl⟩;go_wp2_with fail
   refine(P1.out _).mono ?_;rintro e W3⟨rfl,k3,rfl⟩;go_wp2_with fail
   refine(P2.out _).mono ?_;rintro e W4⟨rfl,k4,rfl⟩;go_wp2_with fail
   refine(YO.out _ (bH (aI _ w) _)).mono ?_;rintro e W5⟨⟨A,B,c,rfl,(⟨a1,a2,rfl,rfl,rfl⟩|⟨a1,rfl⟩)⟩,hb5⟩
   ·have B5:aJ w.heap.size w W5:=(bH (aI _ w) _).trans hb5;clear hb5;go_wp2_with fail
    refine(Xb.out _ B5).mono ?_;rintro e W6⟨⟨A,B,c,rfl,(⟨a3,a4,rfl,rfl,rfl⟩|⟨a3,rfl⟩)⟩,hb6⟩
    ·have B6:aJ w.heap.size w W6:=aH B5 hb6 B5.size;clear hb6;go_wp2_with fail
     refine(HA.out a1 a2 _ B6).mono ?_;rintro e W7⟨rfl,hb7⟩;have B7:aJ w.heap.size w W7:=aH B6 hb7 B6.size;clear hb7;by_cases a5:lW (x.num*y.den+y.num*x.den)=true
     ·rw[tQ a5];go_wp2_with fail
      refine(HM.out a5 a3 _ B7).mono ?_;rintro e W8⟨rfl,hb8⟩;go_wp2;go_ret2;exact⟨by rw[Uu.out a1 a2 a3 a5];rfl,aH B7 hb8 B7.size⟩
     ·rw[tR (by simpa using a5)];go_wp2;go_ret2;exact⟨by rw[No.out (by simp[a5])];rfl,B7⟩
    ·go_wp2;go_ret2;exact⟨by rw[No.out (by rcases a3 with a3|a3<;>simp_all)];rfl,aH B5 hb6 B5.size⟩
   ·go_wp2;go_ret2;exact⟨by rw[No.out (by rcases a1 with a1|a1<;>simp[a1])];rfl,(bH (aI _ w) _).trans hb5⟩
  ·have H1:=zq (fun W=>yQ x W hx h1);have H2:=zq (fun W=>lR y W hy h2);unfold iv at H1 H2;clear h1 h2 hs hx hy hE;go_enter KQ,Jg;go_wp2_with fail
   refine(H1.out _).mono ?_;rintro e W1⟨rfl,k1,rfl⟩;go_wp2_with fail
   refine(H2.out _).mono ?_;rintro e W2⟨rfl,k2,rfl⟩;go_wp2_with fail
   refine(P1.out _).mono ?_;rintro e W3⟨rfl,k3,rfl⟩;go_wp2_with fail
   refine(P2.out _).mono ?_;rintro e W4⟨rfl,k4,rfl⟩;go_wp2_with fail
   refine(YO.out _ (bH (aI _ w) _)).mono ?_;rintro e W5⟨⟨A,B,c,rfl,(⟨a1,a2,rfl,rfl,rfl⟩|⟨a1,rfl⟩)⟩,hb5⟩
   ·have B5:aJ w.heap.size w W5:=(bH (aI _ w) _).trans hb5;clear hb5;go_wp2_with fail
    refine(Xb.out _ B5).mono ?_;rintro e W6⟨⟨A,B,c,rfl,(⟨a3,a4,rfl,rfl,rfl⟩|⟨a3,rfl⟩)⟩,hb6⟩
    ·have B6:aJ w.heap.size w W6:=aH B5 hb6 B5.size;clear hb6;go_wp2_with fail
     refine(HA.out a1 a2 _ B6).mono ?_;rintro e W7⟨rfl,hb7⟩;have B7:aJ w.heap.size w W7:=aH B6 hb7 B6.size;clear hb7;by_cases a5:lW (x.num*y.den+y.num*x.den)=true
     ·rw[tQ a5];go_wp2_with fail
      refine(HM.out a5 a3 _ B7).mono ?_;rintro e W8⟨rfl,hb8⟩;go_wp2;go_ret2;exact⟨by rw[Uu.out a1 a2 a3 a5];rfl,aH B7 hb8 B7.size⟩
     ·rw[tR (by simpa using a5)];go_wp2;go_ret2;exact⟨by rw[No.out (by simp[a5])];rfl,B7⟩
    ·go_wp2;go_ret2;exact⟨by rw[No.out (by rcases a3 with a3|a3<;>simp_all)];rfl,aH B5 hb6 B5.size⟩
   ·go_wp2;go_ret2;exact⟨by rw[No.out (by rcases a1 with a1|a1<;>simp[a1])];rfl,(bH (aI _ w) _).trans hb5⟩
  ·have H1:=zq (fun W=>yQ x W hx h1);have H2:=zq (fun W=>yQ y W hy h2);unfold iv at H1 H2;clear h1 h2 hs hx hy hE;go_enter KQ,Jg;go_wp2_with fail
   refine(H1.out _).mono ?_;rintro e W1⟨rfl,k1,rfl⟩;go_wp2_with fail
   refine(H2.out _).mono ?_;rintro e W2⟨rfl,k2,rfl⟩;go_wp2_with fail
   refine(P1.out _).mono ?_;rintro e W3⟨rfl,k3,rfl⟩;go_wp2_with fail
   refine(P2.out _).mono ?_;rintro e W4⟨rfl,k4,rfl⟩;go_wp2_with fail
   refine(YO.out _ (bH (aI _ w) _)).mono ?_;rintro e W5⟨⟨A,B,c,rfl,(⟨a1,a2,rfl,rfl,rfl⟩|⟨a1,rfl⟩)⟩,hb5⟩
   ·have B5:aJ w.heap.size w W5:=(bH (aI _ w) _).trans hb5;clear hb5;go_wp2_with fail
    refine(Xb.out _ B5).mono ?_;rintro e W6⟨⟨A,B,c,rfl,(⟨a3,a4,rfl,rfl,rfl⟩|⟨a3,rfl⟩)⟩,hb6⟩
    ·have B6:aJ w.heap.size w W6:=aH B5 hb6 B5.size;clear hb6;go_wp2_with fail
     refine(HA.out a1 a2 _ B6).mono ?_;rintro e W7⟨rfl,hb7⟩;have B7:aJ w.heap.size w W7:=aH B6 hb7 B6.size;clear hb7;by_cases a5:lW (x.num*y.den+y.num*x.den)=true
     ·rw[tQ a5];go_wp2_with fail
      refine(HM.out a5 a3 _ B7).mono ?_;rintro e W8⟨rfl,hb8⟩;go_wp2;go_ret2;exact⟨by rw[Uu.out a1 a2 a3 a5];rfl,aH B7 hb8 B7.size⟩
     ·rw[tR (by simpa using a5)];go_wp2;go_ret2;exact⟨by rw[No.out (by simp[a5])];rfl,B7⟩
    ·go_wp2;go_ret2;exact⟨by rw[No.out (by rcases a3 with a3|a3<;>simp_all)];rfl,aH B5 hb6 B5.size⟩
   ·go_wp2;go_ret2;exact⟨by rw[No.out (by rcases a1 with a1|a1<;>simp[a1])];rfl,(bH (aI _ w) _).trans hb5⟩
theorem fT{a:ByteArray}(h:cQ a.data.toList=0):a=bs (aV (cF a.data.toList))∧HQ 300 (cF a.data.toList):=
 ⟨Em (Iw h).symm,YE h⟩
theorem IA{s t:List UInt8}(h:dZ s t=0):tN s t=Gw (cF s) (cF t):=by rw[tN,ip h];rfl
theorem xd(a b:ByteArray)(w:aE)(hE:eZ w)(FG:a.size≤cA)(uN:b.size≤cA):
 aQ aC 244 #[aA a,aA b] w (Rt (bO #[aA (bs (tN a.data.toList b.data.toList).1),aF aG (tN a.data.toList b.data.toList).2]) w):=by
 have H1:=zq (yO a b w hE FG uN);by_cases h:dZ a.data.toList b.data.toList=0
 ·obtain⟨ga,gb⟩:=lM h;obtain⟨ea,ha⟩:=fT ga;obtain⟨eb,hb⟩:=fT gb;have H2:=zq (fun(W:aE)(hB:aJ w.heap.size w W)=>Ph _ _ W (hE.below hB) ha hb);rw[←ea,←eb]at H2;rw[IA h];rw[h]at H1;clear h ga gb ea eb ha hb;go_enter func244,ntmps244;go_wp2_with fail
  refine H1.out.mono ?_;rintro e W1⟨rfl,hb1⟩;go_wp2_with fail
  refine(H2.out _ hb1).mono ?_;rintro e W2⟨rfl,hb2⟩;go_wp2;go_ret2;exact⟨rfl,aH hb1 hb2 hb1.size⟩
 ·rw[tN,iN h];generalize dZ a.data.toList b.data.toList=c at *;go_enter func244,ntmps244;go_wp2_with fail
  refine H1.out.mono ?_;rintro e W1⟨rfl,hb1⟩;go_wp2;go_ret2;exact⟨rfl,hb1⟩
theorem xe(n:Int):lW (-n)=lW n:=by rw[lW,lW,Ai]
theorem hq_neg{k:Nat}{x:Rat}(h:HQ k x):HQ k (-x):=⟨by rw[show(-x).num= -x.num from rfl,Ai];exact h.1,h.2⟩
theorem So(x y:Rat):Gw x (-y)=if Jv x y=true then(aV (x-y),0)else([],4):=by
 have e1:(-y).num= -y.num:=rfl;have e2:(-y).den=y.den:=rfl;rw[Gw,Et,Jv,iS,iS,e1,e2,Int.neg_mul,xe,←Int.sub_eq_add_neg,←Rat.sub_eq_add_neg]
theorem NY{s t:List UInt8}(h:dZ s t=0):tO s t=Gw (cF s) (-(cF t)):=by rw[tO,ip h,So]
theorem Xc(a b:ByteArray)(w:aE)(hE:eZ w)(FG:a.size≤cA)(uN:b.size≤cA):
 aQ aC 35 #[aA a,aA b] w (Rt (bO #[aA (bs (tO a.data.toList b.data.toList).1),aF aG (tO a.data.toList b.data.toList).2]) w):=by
 have H1:=zq (yO a b w hE FG uN);by_cases h:dZ a.data.toList b.data.toList=0
 ·obtain⟨ga,gb⟩:=lM h;obtain⟨ea,ha⟩:=fT ga;obtain⟨eb,hb⟩:=fT gb;have H2:=zq (fun(W:aE)(hB:aJ w.heap.size w W)=>Ph _ (-(cF b.data.toList)) W (hE.below hB) ha (hq_neg hb));have H3:=zq (fun W=>Pg _ W hb.1 hb.2);rw[←ea]at H2;rw[←eb]at H3;rw[NY h];rw[h]at H1;clear h ga gb ea eb ha hb;go_enter func35,ntmps35;go_wp2_with fail
  refine H1.out.mono ?_;rintro e W1⟨rfl,hb1⟩;go_wp2_with fail
  refine(H3.out _).mono ?_;rintro e W5⟨rfl,rfl⟩;go_wp2_with fail
  refine(H2.out _ hb1).mono ?_;rintro e W2⟨rfl,hb2⟩;go_wp2;go_ret2;exact⟨rfl,aH hb1 hb2 hb1.size⟩
 ·rw[tO,iN h];generalize dZ a.data.toList b.data.toList=c at *;go_enter func35,ntmps35;go_wp2_with fail
  refine H1.out.mono ?_;rintro e W1⟨rfl,hb1⟩;go_wp2;go_ret2;exact⟨rfl,hb1⟩
theorem qJ(x:Rat)(w:aE)(h:HQ 300 x):
 aQ aC 88 #[aA (bs (aV x))] w fun e w'=>(∃n d:Int,e=aO (bO #[aF aG n,aF aG d,aM (CU x)]))∧∃n,w'=w.drewN n:=by
 by_cases hs:CU x=true
 ·refine(lR x w h hs).mono ?_;rintro e w'⟨rfl,k⟩;exact⟨⟨_,_,by rw[hs]⟩,k⟩
 ·have hs:CU x=false:=by simpa using hs
  refine(yQ x w h hs).mono ?_;rintro e w'⟨rfl,k⟩;exact⟨⟨_,_,by rw[hs]⟩,k⟩
theorem IB{x y:Rat}(hs:¬(CU x=true∧CU y=true)):(CU x=true∧CU y=false)∨(CU x=false∧CU y=true)∨(CU x=false∧CU y=false):=by
 revert hs;cases CU x<;>cases CU y<;>simp
def M5(n d m c:Int):List UInt8×Int:=if(lW (n*m)&&lW (d*c))=true then(aV (mkRat (wN (n*m) (d*c)) (d*c).natAbs),0)else([],4)
theorem Xd(n d m c:Int)(w:aE)(hE:eZ w)(hn:n.natAbs<10^300)(hd:d.natAbs<10^300)(hm:m.natAbs<10^300)(hc:c.natAbs<10^300)(h0:d*c≠0):
 aQ aC 91 #[aA (bs (bL n)),aA (bs (bL d)),aA (bs (bL m)),aA (bs (bL c))] w (Rt (bO #[aA (bs (M5 n d m c).1),aF aG (M5 n d m c).2]) w):=by
 have HP:=zq (xH n m d c w hE hn hm hd hc);have HM:=zq (fun(a1:lW (n*m)=true)(a2:lW (d*c)=true)(W:aE)(hb:aJ w.heap.size w W)=>NW (n*m) (d*c) W (hE.below hb) (of_decide_eq_true a1) (of_decide_eq_true a2) h0);clear hE hn hd hm hc h0;have Uu:aY (lW (n*m)=true→lW (d*c)=true→M5 n d m c=(aV (mkRat (wN (n*m) (d*c)) (d*c).natAbs),0)):=by
  intro a b;rw[M5,a,b];rfl
 have No:aY ((lW (n*m)&&lW (d*c))=false→M5 n d m c=([],4)):=by
  intro a;rw[M5,a];rfl
 go_enter func91,ntmps91;go_wp2_with fail
 refine HP.out.mono ?_;rintro e W1⟨⟨A,B,k,rfl,(⟨a1,a2,rfl,rfl,rfl⟩|⟨a1,rfl⟩)⟩,hb1⟩
 ·go_wp2_with fail
  refine(HM.out a1 a2 _ hb1).mono ?_;rintro e W2⟨rfl,hb2⟩;go_wp2;go_ret2;exact⟨by rw[Uu.out a1 a2];rfl,aH hb1 hb2 hb1.size⟩
 ·go_wp2;go_ret2;exact⟨by rw[No.out (by rcases a1 with a1|a1<;>simp[a1])];rfl,hb1⟩
def IC(x y:Rat):List UInt8×Int:=if Lm x y=true then(aV (x*y),0)else([],4)
theorem NZ{s t:List UInt8}(h:dZ s t=0):lF s t=IC (cF s) (cF t):=by rw[lF,ip h];rfl
theorem LA(x y:Rat):mkRat (wN (x.num*y.num) ((x.den:Int)*y.den)) ((x.den:Int)*y.den).natAbs=x*y:=by
 have h1:(0:Int)≤(x.den:Int)*y.den:=Ic (by omega) (by omega);rw[wN,iN (by omega),←AN];congr 1
theorem mulZ_T(x y:Rat):M5 x.num x.den y.num y.den=IC x y:=by
 rw[M5,LA];rfl
theorem Xe(a b:ByteArray)(w:aE)(hE:eZ w)(FG:a.size≤cA)(uN:b.size≤cA):
 aQ aC 34 #[aA a,aA b] w (Rt (bO #[aA (bs (lF a.data.toList b.data.toList).1),aF aG (lF a.data.toList b.data.toList).2]) w):=by
 have HC:=zq (yO a b w hE FG uN);by_cases h:dZ a.data.toList b.data.toList=0
 ·obtain⟨ga,gb⟩:=lM h;obtain⟨ea,hx⟩:=fT ga;obtain⟨eb,hy⟩:=fT gb;rw[NZ h];rw[h]at HC;clear h ga gb FG uN;generalize cF a.data.toList=x at *;generalize cF b.data.toList=y at *;by_cases hs:CU x=true∧CU y=true
  ·have Ha:aY (IC x y=(aV (x*y),0)):=by
    show _=_;rw[IC,ip (Lr (qW hs.1) (qW hs.2) (by decide))]
   have H1:=zq (fun W=>lR x W hx hs.1);have H2:=zq (fun W=>lR y W hy hs.2);rw[←ea]at H1;rw[←eb]at H2;obtain⟨n1,d1⟩:=qW hs.1;obtain⟨n2,d2⟩:=qW hs.2;have b1:=qI n1 n2;have b3:=qI (a:=(x.den:Int)) (b:=(y.den:Int)) (by omega) (by omega);have hd:x.den*y.den≠0:=rQ x y;have HM:aY (mkRat (x.num*y.num) (x.den*y.den)=x*y):=AN x y;have Hq:=zq (fun W=>AP (x.num*y.num) (x.den*y.den) W (by omega) (by omega) hd (by have e:((x.den*y.den:Nat):Int)=(x.den:Int)*y.den:=gZ _ _;omega));have w1:IntKind.i64.wrap (x.num*y.num)=x.num*y.num:=aP _ (by omega);have w4:IntKind.i64.wrap ((x.den:Int)*(y.den:Int))=((x.den*y.den:Nat):Int):=by rw[gZ];exact aP _ (by omega)
   clear hs b1 b3 hd n1 n2 d1 d2 hx hy hE ea eb;unfold iv at H1 H2 Hq;go_enter Wp,TZ;go_wp2_with fail
   refine HC.out.mono ?_;rintro e W0⟨rfl,hb0⟩;go_wp2_with fail
   refine(H1.out _).mono ?_;rintro e W1⟨rfl,k1,rfl⟩;go_wp2_with fail
   refine(H2.out _).mono ?_;rintro e W2⟨rfl,k2,rfl⟩;go_wp2_with fail
   refine(Hq.out _).mono ?_;rintro e W3⟨rfl,hb⟩;go_wp2;go_ret2;exact⟨by rw[Ha.out,←HM.out];rfl,aH (bH hb0 _) hb hb0.size⟩
  ·have P1:=zq (fun W=>oC x W hx);have P2:=zq (fun W=>oC y W hy);have H1:=zq (fun W=>qJ x W hx);have H2:=zq (fun W=>qJ y W hy);rw[←ea]at P1 H1;rw[←eb]at P2 H2;have hz:(x.den:Int)*y.den≠0:=by rw[←gZ];have:=rQ x y;omega
   have HM:=zq (fun(W:aE)(hb:aJ w.heap.size w W)=>Xd x.num x.den y.num y.den W (hE.below hb) hx.1 hx.d hy.1 hy.d hz);rw[mulZ_T]at HM;clear hz hx hy hE ea eb;rcases IB hs with⟨h1,h2⟩|⟨h1,h2⟩|⟨h1,h2⟩;all_goals
    rw[h1]at H1;rw[h2]at H2;clear h1 h2 hs;go_enter Wp,TZ;go_wp2_with fail
    refine HC.out.mono ?_;rintro e W0⟨rfl,hb0⟩;go_wp2_with fail
    refine(H1.out _).mono ?_;rintro e W1⟨⟨_,_,rfl⟩,k1,rfl⟩;go_wp2_with fail
    refine(H2.out _).mono ?_;rintro e W2⟨⟨_,_,rfl⟩,k2,rfl⟩;go_wp2_with fail
    refine(P1.out _).mono ?_;rintro e W3⟨rfl,k3,rfl⟩;go_wp2_with fail
    refine(P2.out _).mono ?_;rintro e W4⟨rfl,k4,rfl⟩;go_wp2_with fail
    refine(HM.out _ (bH hb0 _)).mono ?_;rintro e W5⟨rfl,hb5⟩;go_wp2;go_ret2;exact⟨rfl,aH (bH hb0 _) hb5 hb0.size⟩
 ·rw[lF,iN h];generalize dZ a.data.toList b.data.toList=c at *;go_enter Wp,TZ;go_wp2_with fail
  refine HC.out.mono ?_;rintro e W1⟨rfl,hb1⟩;go_wp2;go_ret2;exact⟨rfl,hb1⟩
end
end Go.Proofs.YtcimoodjlopdaaaGreatDoor
