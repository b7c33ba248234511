import Derived.Test.YtcimoodjlopdaaaGreatDoorProg
import Derived.WalkKit
import Derived.WalkSpells
import Derived.WalkLawsBesides
import Derived.RegionTactic
import Derived.ChangeAlike
import Derived.Deep.QuietTactic
import Derived.BigQuiet
import Derived.Lib.Hide
import Derived.Deep.DeepCutAuto
import Derived.Deep.RegionHeld3
import Derived.OwnWalk
import Derived.Test.YtcimoodjlopdaaaGreatDoorZ0
import Derived.Test.YtcimoodjlopdaaaGreatDoorZ2
namespace Go.Proofs.YtcimoodjlopdaaaGreatDoor
set_option maxRecDepth 100000
set_option maxHeartbeats 8000000
set_option linter.all false
open Go.Proofs.Tryz
open Bool renaming and_eq_true->bT,or_eq_false_iff->fM,or_eq_true->iB,false_eq_true->mN,not_false->oK,not_true->pQ,not_eq_true'->Ko
open Go renaming World->aE,Calls->aQ,Value->bB,below_drewN->bH,maxLen->cA,TypeId->Ii
open Go.ByteArray renaming toList_eq->cI
open Go.Ending renaming returned->aO
open Go.IntKind renaming i64->aG
open Go.IntWalk renaming i64_in->aP
open Go.Lib renaming itoa->bL,decDigits->bW
open Go.Obj renaming cells->aL
open Go.Proofs.Tryz renaming prog->aC,ntmps161->Bb,func161->Cq,ntmps212->FN,ntmps213->FO,func212->Jb,func213->Jc,ntmps186->Qp,ntmps155->Qq,ntmps132->Qr,func186->TT,func155->TU,func132->TV
open Go.RowKit renaming Below->aJ,intOf->aK,Hid->aY
open Go.Value renaming string->aA,slice->aB,int->aF,bool->aM,tuple->bO
open Go.World renaming size_alloc->aS
open Int renaming natCast_mul->gZ,mul_comm->sC,fdiv_eq_ediv_of_nonneg->sS,natAbs_tmod->MR,natCast_add->MS,fmod_eq_emod_of_nonneg->OH,lt_or_le->OI,neg_mul->X2,ediv_emod_unique->X7,sub_mul->X8
open List renaming eq_nil_of_length_eq_zero->dD,cons_append->fX,mem_cons_of_mem->Fy,mem_cons_self->I3,range->rv
open Nat renaming le_refl->aD,pow_le_pow_right->bN,lt_of_lt_of_le->bQ,le_trans->cC,gcd->cM,lt_of_le_of_lt->dF,pow_succ->dN,mod_lt->fW,div_add_mod->jU,div_le_self->lZ,mul_le_mul_left->mT,gcd_comm->qZ,pow_add->qU,le_of_lt->I4,mul_lt_mul''->Nr
open Rat renaming divInt->dv
section
open Go Go.Lib
def dK(s t:List UInt8):Int:=if jE s=0 then jE t else jE s
def F8(s t:List UInt8):List UInt8×Int:=if dK s t=0 then iY (dI s+dI t)else([],dK s t)
def U3(s t:List UInt8):List UInt8×Int:=if dK s t=0 then iY (dI s-dI t)else([],dK s t)
def F9(s t:List UInt8):List UInt8×Int:=if dK s t=0 then iY (dI s*dI t)else([],dK s t)
def uO(n:Int):Int:=if n<0 then -1 else if 0<n then 1 else 0
def Ga(s t:List UInt8):Int×Int:=if dK s t=0 then(uO (dI s-dI t),0)else(0,dK s t)
def CI(s t:List UInt8):List UInt8×Int:=if dK s t=0 then(bL (cM (dI s).natAbs (dI t).natAbs),0)else([],dK s t)
def xE(s t:List UInt8):List UInt8×List UInt8×Int:=
 if dK s t=0 then(if dI t=0 then([],[],12)else(bL ((dI s).fdiv (dI t)),bL ((dI s).fmod (dI t)),0))else([],[],dK s t)
theorem pY{s t:List UInt8}(h:dK s t=0):jE s=0∧jE t=0:=by
 unfold dK at h;split at h
 ·exact⟨‹_›,h⟩
 ·exact absurd h ‹_›
theorem vL{s:List UInt8}(h:jE s=0):wS s=true∧(mag s).length≤300:=by
 unfold jE at h;split at h
 ·split at h
  ·cases h
  ·exact⟨‹_›,by omega⟩
 ·cases h
theorem yK{s:List UInt8}(h:jE s=0):s.length≤301:=by
 have:=(vL h).2;rw[gP]at this;have:rF s≤1:=by unfold rF;split <;>omega
 omega
theorem gR(s:List UInt8):(dI s).natAbs=num (mag s):=by unfold dI;split <;>simp
theorem uZ{s:List UInt8}(h:jE s=0):num (mag s)<10^300:=by
 obtain⟨h1,h2⟩:=vL h;exact OO 300 (nM _ (kE h1)) h2
theorem rI{s:List UInt8}(h:wS s=true){k:Nat}(hk:s.length≤k):num (mag s)<10^k:=by
 have:=gP s;exact bQ (nM _ (kE h)) (bN (by decide) (by omega))
theorem Gb{n:Int}{k:Nat}(h:n.natAbs<10^k)(hk:k≤300):iY n=(bL n,0):=by
 rw[iY,ip (bQ h (bN (by decide) hk))]
theorem zX{x y q r:Int}(h:x=q*y+r)(hr:(0≤r∧r<y)∨(y<r∧r≤0)):x.fdiv y=q∧x.fmod y=r:=by
 rcases hr with⟨h1,h2⟩|⟨h1,h2⟩
 ·have hy:0<y:=by omega
  rw[sS _ (by omega),OH _ (by omega)];exact(X7 hy).2 ⟨by rw[h,sC];omega,h1,h2⟩
 ·have hy:0< -y:=by omega
  have e:=(X7 (a:= -x) (r:= -r) (q:=q) hy).2 ⟨by rw[h,X2,Int.neg_add,sC];omega,by omega,by omega⟩;rw[←Int.neg_fdiv_neg,←Int.neg_neg (x.fmod y),←Int.neg_fmod_neg,sS _ (by omega),OH _ (by omega)];omega
theorem Bv(x y:Int)(hy:y≠0):x=x.tdiv y*y+x.tmod y∧(x.tmod y).natAbs<y.natAbs∧(x.tdiv y).natAbs≤x.natAbs:=by
 refine⟨?_,?_,?_⟩
 ·have:=Int.mul_tdiv_add_tmod x y;rw[sC]at this;exact this.symm
 ·rw[MR];exact fW _ (by omega)
 ·rw[Int.natAbs_tdiv];exact lZ _ _
theorem NH{x y:Int}(hy:y≠0)(h:x.tmod y=0∨(x.tmod y<0↔y<0)):x.fdiv y=x.tdiv y∧x.fmod y=x.tmod y:=by
 obtain⟨h1,h2,-⟩:=Bv x y hy;exact zX h1 (by omega)
theorem NI{x y:Int}(hy:y≠0)(h0:x.tmod y≠0)(h:¬(x.tmod y<0↔y<0)):x.fdiv y=x.tdiv y-1∧x.fmod y=x.tmod y+y:=by
 obtain⟨h1,h2,-⟩:=Bv x y hy;refine zX ?_ (by omega);rw[X8];omega
theorem By(b:Bool){M N:Nat}(hN:0<N):(eE b M).fdiv (eE b N)=((M/N:Nat):Int)∧(eE b M).fmod (eE b N)=eE b (M%N):=by
 have h1:=jU M N;have h2:=fW M hN;have h3:((N*(M/N)+M%N:Nat):Int)=M:=by rw[h1]
 rw[MS,gZ,sC]at h3;cases b
 ·simp only[eE,mN,if_false];exact zX h3.symm (by omega)
 ·simp only[eE,if_true];exact zX (by rw[Int.mul_neg];omega) (by omega)
theorem Bz(b:Bool){M N:Nat}(hN:0<N)(h0:M%N=0):(eE b M).fdiv (eE (!b) N)= -((M/N:Nat):Int)∧(eE b M).fmod (eE (!b) N)=0:=by
 have h1:=jU M N;have h3:((N*(M/N)+M%N:Nat):Int)=M:=by rw[h1]
 rw[MS,gZ,sC,h0]at h3;cases b
 ·simp only[eE,oK,mN,if_false,if_true];exact zX (by rw[Int.neg_mul_neg];omega) (by omega)
 ·simp only[eE,pQ,mN,if_false,if_true];exact zX (by rw[X2];omega) (by omega)
theorem BB(b:Bool){M N:Nat}(hN:0<N)(h0:M%N≠0):(eE b M).fdiv (eE (!b) N)= -((M/N:Nat):Int)-1∧(eE b M).fmod (eE (!b) N)=eE b (M%N)+eE (!b) N:=by
 have h1:=jU M N;have h2:=fW M hN;have h3:((N*(M/N)+M%N:Nat):Int)=M:=by rw[h1]
 rw[MS,gZ,sC]at h3;cases b
 ·simp only[eE,oK,mN,if_false,if_true];exact zX (by rw[X8,Int.neg_mul_neg];omega) (by omega)
 ·simp only[eE,pQ,mN,if_false,if_true];exact zX (by rw[X8,X2];omega) (by omega)
end
section
open Go Go.RowKit
theorem jG(s:ByteArray):dI s.data.toList=eE (dY s) (num (mag s.data.toList)):=by
 unfold dI eE;have:=rG s;unfold rF at this;by_cases h:dY s=true
 ·rw[ip h]at this⊢;rw[ip (by
   by_cases e:s.data.toList.head? =some 45
   ·exact e
   ·rw[iN e]at this;cases this)]
 ·rw[iN h]at this⊢;rw[iN (by intro e;rw[ip e]at this;cases this)]
theorem xQ{B:Nat}(hB:2≤B){s:List UInt8}{k j:Nat}(hBk:B=10^k)(hj:300≤k*j)(h:jE s=0):(bM B (num (mag s))).length≤j:=by
 refine fD hB ?_;rw[hBk,←Nat.pow_mul];exact bQ (uZ h) (ee 300 _ hj)
theorem oY(s t:ByteArray)(w:aE)(hs:s.size≤17)(ht:t.size≤17)(h1:wS s.data.toList=true)(h2:wS t.data.toList=true):
 aQ aC 186 #[aA s,aA t] w fun e w'=>e=aO (bO #[aF aG (dI s.data.toList),aF aG (dI t.data.toList),aM true])∧w=w':=by
 have c1:=zq (Iu s w hs h1);have c2:=zq (Iu t w ht h2);clear h1 h2;go_enter TT,Qp;go_wp2_with fail
 refine c1.out.mono ?_;rintro e w1⟨rfl,rfl⟩;go_wp2_with fail
 refine c2.out.mono ?_;rintro e w1⟨rfl,rfl⟩;go_wp2;go_ret3;exact⟨rfl,rfl⟩
theorem tL(s t:ByteArray)(w:aE)(hs:s.size≤cA)(ht:t.size≤cA)(h1:wS s.data.toList=true)(hl:17<s.size∨17<t.size):
 aQ aC 186 #[aA s,aA t] w fun e w'=>∃x y,e=aO (bO #[aF aG x,aF aG y,aM false])∧w=w':=by
 by_cases h:17<s.size
 ·have c1:=zq (CH s w h hs);clear h1 hl;go_enter TT,Qp;go_wp2_with fail
  refine c1.out.mono ?_;rintro e w1⟨rfl,rfl⟩;go_wp2;go_ret3;exact⟨_,_,rfl,rfl⟩
 ·have c1:=zq (Iu s w (by omega) h1);have c2:=zq (CH t w (by omega) ht);clear h1 hl;go_enter TT,Qp;go_wp2_with fail
  refine c1.out.mono ?_;rintro e w1⟨rfl,rfl⟩;go_wp2_with fail
  refine c2.out.mono ?_;rintro e w1⟨rfl,rfl⟩;go_wp2;go_ret3;exact⟨_,_,rfl,rfl⟩
theorem we(s t:ByteArray)(w:aE)(hE:eZ w)(hs:s.size≤cA)(ht:t.size≤cA):
 aQ aC 155 #[aA s,aA t] w (Rt (bO #[aA (bs (F8 s.data.toList t.data.toList).1),aF aG (F8 s.data.toList t.data.toList).2]) w):=by
 have hb:=vV s t w hs ht;change aQ _ _ _ _ fun e w'=>e=aO (aF aG (dK s.data.toList t.data.toList))∧_ at hb;have Hb:=zq hb;clear hb;by_cases h0:dK s.data.toList t.data.toList=0
 ·obtain⟨k1,k2⟩:=pY h0;have pJ:=(vL k1).1;have pO:=(vL k2).1;have hr:F8 s.data.toList t.data.toList=iY (dI s.data.toList+dI t.data.toList):=by rw[F8,ip h0]
  rw[hr];rw[h0]at Hb;have Hk:=zq (And.intro k1 k2);clear k1 k2 hr h0;have HE:=zq hE;clear hE;by_cases hl:s.size≤17∧t.size≤17
  ·have hn1:=rI pJ (show s.data.toList.length≤17 from hl.1);have hn2:=rI pO (show t.data.toList.length≤17 from hl.2);rw[←gR]at hn1 hn2;have U4:=zq (Gb (n:=dI s.data.toList+dI t.data.toList) (k:=18) (by omega) (by decide));have Hc:=zq (fun W=>oY s t W hl.1 hl.2 pJ pO);clear pJ pO;generalize dI s.data.toList=x at *;generalize dI t.data.toList=y at *;have hx: -100000000000000000<x∧x<100000000000000000:=by omega
   have hy: -100000000000000000<y∧y<100000000000000000:=by omega
   clear hn1 hn2;go_enter TU,Qq;go_wp2_with fail
   refine Hb.out.mono ?_;rintro e w1⟨rfl,hb1⟩;go_wp2_with fail
   refine(Hc.out w1).mono ?_;rintro e w2⟨rfl,rfl⟩;go_wp2_with fail
   refine(eM _ _ (HE.out.below hb1) (by omega) (by omega)).mono ?_;rintro e w3⟨rfl,hb3⟩;have hB:=aH hb1 hb3 hb1.size;go_wp2;go_ret2;rw[U4.out];exact⟨rfl,hB⟩
  ·have uY:s.size≤3000:=by have:=yK Hk.out.1;have e:s.data.toList.length=s.size:=rfl;omega
   have hz2:t.size≤3000:=by have:=yK Hk.out.2;have e:t.data.toList.length=t.size:=rfl;omega
   have Hc:=zq (fun W=>tL s t W hs ht pJ (by omega));have r1:=zq (fun W=>rH s W uY pJ);have r2:=zq (fun W=>rH t W hz2 pO);have l1:=xQ cN (k:=6) (j:=50) rfl (by decide) Hk.out.1;have l2:=xQ cN (k:=6) (j:=50) rfl (by decide) Hk.out.2;rw[jG s,jG t];clear pJ pO hl;generalize num (mag s.data.toList)=M at *;generalize num (mag t.data.toList)=N at *;have Hl:=zq (And.intro l1 l2);clear l1 l2;go_enter TU,Qq;go_wp2_with fail
   refine Hb.out.mono ?_;rintro e w1⟨rfl,hb1⟩;go_wp2_with fail
   refine(Hc.out w1).mono ?_;rintro e w2⟨x,y,rfl,rfl⟩;go_wp2_with fail
   refine(r1.out w1).mono ?_;rintro e w2⟨v1,rfl,uU,hb2⟩;have eQ:=aH hb1 hb2 hb1.size;clear hb1 hb2;go_wp2_with fail
   refine(r2.out w2).mono ?_;rintro e w3⟨v2,rfl,vX,hb3⟩;have rJ:=uU.below hb3;have fN:=aH eQ hb3 eQ.size;clear eQ hb3 uU;go_wp2_with fail
   refine(KB _ _ v1 v2 M N w3 rJ.inL vX.inL (by have:=Hl.out.1;omega) (by have:=Hl.out.2;omega)).mono ?_;rintro e w4⟨c,v,K,rfl,hsg,ow,hb4⟩;have hB4:=aH fN hb4 fN.size;have hK:(bM RB K).length≤1000:=by
    have e1:=cS cN M;have e2:=cS cN N;have e3:M<RB^50:=bQ e1 (bN (by decide) Hl.out.1);have e4:N<RB^50:=bQ e2 (bN (by decide) Hl.out.2);have e5:K≤M+N:=by
     have:=congrArg Int.natAbs hsg;have q1:=kG c K;have q2:=kG (dY s) M;have q3:=kG (dY t) N;omega
    have:=fD cN (n:=K) (k:=51) (by rw[dN];have:2≤RB:=cN;have:RB^50*2≤RB^50*RB:=mT _ this;omega);omega
   have HK:=zq hK;have HS:=zq hsg;clear hK hsg fN hb4;go_wp2_with fail
   refine(yJ c v K w4 ow.inL HK.out).mono ?_;rintro e w5⟨rfl,hb5⟩;have yH:=aH hB4 hb5 hB4.size;go_wp2;go_ret2;rw[←HS.out];exact⟨rfl,yH⟩
 ·have hr:F8 s.data.toList t.data.toList=([],dK s.data.toList t.data.toList):=by rw[F8,iN h0]
  rw[hr];clear hr;generalize dK s.data.toList t.data.toList=c at *;have h':(c !=0)=true:=by simp[h0]
  clear h0;go_enter TU,Qq;go_wp2_with fail
  refine Hb.out.mono ?_;rintro e w1⟨rfl,hb1⟩;go_wp2;go_ret2;exact⟨rfl,hb1⟩
theorem AJ{s t:ByteArray}(h:dK s.data.toList t.data.toList=0):
 wS s.data.toList=true∧wS t.data.toList=true∧s.size≤3000∧t.size≤3000∧(bM RB (num (mag s.data.toList))).length≤50∧(bM RB (num (mag t.data.toList))).length≤50:=by
 obtain⟨k1,k2⟩:=pY h;have q1:=yK k1;have q2:=yK k2;exact⟨(vL k1).1,(vL k2).1,by show s.data.toList.length≤3000;omega,by show t.data.toList.length≤3000;omega,xQ cN (k:=6) (j:=50) rfl (by decide) k1,xQ cN (k:=6) (j:=50) rfl (by decide) k2⟩
theorem vA{B M N a b:Nat}(hB:2≤B)(h1:(bM B M).length≤a)(h2:(bM B N).length≤b):(bM B (M*N)).length≤a+b:=by
 have e1:=cS hB M;have e2:=cS hB N;have e3:M<B^a:=bQ e1 (bN (by omega) h1);have e4:N<B^b:=bQ e2 (bN (by omega) h2);exact fD hB (by rw[qU];exact Nr e3 e4)
theorem nT{B K M N a:Nat}(hB:2≤B)(h1:(bM B M).length≤a)(h2:(bM B N).length≤a)(h:K≤M+N):(bM B K).length≤a+1:=by
 have e1:=cS hB M;have e2:=cS hB N;have e3:M<B^a:=bQ e1 (bN (by omega) h1);have e4:N<B^a:=bQ e2 (bN (by omega) h2);refine fD hB ?_;rw[dN];have:B^a*2≤B^a*B:=mT _ hB;omega
theorem yM{c b1 b2:Bool}{K M N:Nat}(h:eE c K=eE b1 M+eE b2 N):K≤M+N:=by
 have:=congrArg Int.natAbs h;have q1:=kG c K;have q2:=kG b1 M;have q3:=kG b2 N;omega
theorem kO{s:ByteArray}(h:wS s.data.toList=true){k:Nat}(hk:s.size≤k):(dI s.data.toList).natAbs<10^k:=by
 rw[gR];exact rI h hk
theorem NJ{x y:Int}{a b:Nat}(h1:x.natAbs<10^a)(h2:y.natAbs<10^b)(h:a+b≤18):(x*y).natAbs<10^18:=by
 rw[Int.natAbs_mul];exact bQ (Nr h1 h2) (by rw[←qU];exact bN (by decide) h)
theorem Gc(s t:ByteArray)(w:aE)(b:Bool)(hb:b=true→18<s.size+t.size)
 (hboth:aQ aC 185 #[aA s,aA t] w (Rt (aF aG 0) w))
 (hc:∀W,aQ aC 186 #[aA s,aA t] W fun e w'=>∃x y,e=aO (bO #[aF aG x,aF aG y,aM b])∧W=w')
 (h0:dK s.data.toList t.data.toList=0):
 aQ aC 212 #[aA s,aA t] w (Rt (bO #[aA (bs (iY (dI s.data.toList*dI t.data.toList)).1),aF aG (iY (dI s.data.toList*dI t.data.toList)).2]) w):=by
 obtain⟨pJ,pO,uY,hz2,l1,l2⟩:=AJ h0;have Hb:=zq hboth;clear hboth;have Hc:=zq hc;clear hc;have r1:=zq (fun W=>rH s W uY pJ);have r2:=zq (fun W=>rH t W hz2 pO);rw[jG s,jG t];clear pJ pO h0;generalize num (mag s.data.toList)=M at *;generalize num (mag t.data.toList)=N at *;have Hl:=zq (And.intro l1 l2);have Hk:=zq (vA cN l1 l2);clear l1 l2;cases b with
 |true=>
  have hbig:=hb rfl;clear hb;go_enter Jb,FN;go_wp2_with fail
  refine ka Hb.out fun w1 hb1=>?_;go_wp2_with fail
  refine(Hc.out w1).mono ?_;rintro e w2⟨x,y,rfl,rfl⟩;go_wp2_with fail
  refine(r1.out w1).mono ?_;rintro e w2⟨v1,rfl,uU,hb2⟩;have eQ:=aH hb1 hb2 hb1.size;clear hb1 hb2;go_wp2_with fail
  refine(r2.out w2).mono ?_;rintro e w3⟨v2,rfl,vX,hb3⟩;have rJ:=uU.below hb3;have fN:=aH eQ hb3 eQ.size;clear eQ hb3 uU;go_wp2_with fail
  refine(WN _ _ v1 v2 M N w3 rJ.inL vX.inL (by have:=Hl.out.1;omega) (by have:=Hl.out.2;omega)).mono ?_;rintro e w4⟨c,v,rfl,hsg,ow,hb4⟩;have hB4:=aH fN hb4 fN.size;have HS:=zq hsg;clear hsg fN hb4;go_wp2_with fail
  refine ka (yJ c v (M*N) w4 ow.inL (by have:=Hk.out;omega)) fun w5 hb5=>?_;have yH:=aH hB4 hb5 hB4.size;go_wp2;go_ret2;rw[←HS.out];exact⟨rfl,yH⟩
 |false=>
  clear hb;go_enter Jb,FN;go_wp2_with fail
  refine ka Hb.out fun w1 hb1=>?_;go_wp2_with fail
  refine(Hc.out w1).mono ?_;rintro e w2⟨x,y,rfl,rfl⟩;go_wp2_with fail
  refine(r1.out w1).mono ?_;rintro e w2⟨v1,rfl,uU,hb2⟩;have eQ:=aH hb1 hb2 hb1.size;clear hb1 hb2;go_wp2_with fail
  refine(r2.out w2).mono ?_;rintro e w3⟨v2,rfl,vX,hb3⟩;have rJ:=uU.below hb3;have fN:=aH eQ hb3 eQ.size;clear eQ hb3 uU;go_wp2_with fail
  refine(WN _ _ v1 v2 M N w3 rJ.inL vX.inL (by have:=Hl.out.1;omega) (by have:=Hl.out.2;omega)).mono ?_;rintro e w4⟨c,v,rfl,hsg,ow,hb4⟩;have hB4:=aH fN hb4 fN.size;have HS:=zq hsg;clear hsg fN hb4;go_wp2_with fail
  refine ka (yJ c v (M*N) w4 ow.inL (by have:=Hk.out;omega)) fun w5 hb5=>?_;have yH:=aH hB4 hb5 hB4.size;go_wp2;go_ret2;rw[←HS.out];exact⟨rfl,yH⟩
theorem wg(s t:ByteArray)(w:aE)(hE:eZ w)(hs:s.size≤cA)(ht:t.size≤cA):
 aQ aC 212 #[aA s,aA t] w (Rt (bO #[aA (bs (F9 s.data.toList t.data.toList).1),aF aG (F9 s.data.toList t.data.toList).2]) w):=by
 have hb:=vV s t w hs ht;change aQ _ _ _ _ fun e w'=>e=aO (aF aG (dK s.data.toList t.data.toList))∧_ at hb;by_cases h0:dK s.data.toList t.data.toList=0
 ·obtain⟨k1,k2⟩:=pY h0;have pJ:=(vL k1).1;have pO:=(vL k2).1;have hr:F9 s.data.toList t.data.toList=iY (dI s.data.toList*dI t.data.toList):=by rw[F9,ip h0]
  rw[hr];rw[h0]at hb;by_cases hl:s.size≤17∧t.size≤17
  ·by_cases h18:s.size+t.size≤18
   ·have Hb:=zq hb;clear hb;have hbd:=NJ (kO pJ (aD _)) (kO pO (aD _)) h18;have U4:=zq (Gb hbd (by decide));have Hc:=zq (fun W=>oY s t W hl.1 hl.2 pJ pO);clear pJ pO k1 k2 hr h0;have HE:=zq hE;clear hE;generalize dI s.data.toList=x at *;generalize dI t.data.toList=y at *;obtain⟨p,hp⟩:=nm (x*y);have q1:IntKind.i64.wrap (x*y)=p:=by rw[hp];exact aP _ (by omega)
    rw[hp]at U4 hbd;rw[hp];clear hp;go_enter Jb,FN;go_wp2_with fail
    refine ka Hb.out fun w1 hb1=>?_;go_wp2_with fail
    refine kr (Hc.out w1) ?_;go_wp2_with fail
    refine ka (eM _ _ (HE.out.below hb1) (by omega) (by omega)) fun w3 hb3=>?_;have hB:=aH hb1 hb3 hb1.size;go_wp2;go_ret2;rw[U4.out];exact⟨rfl,hB⟩
   ·exact Gc s t w true (fun _=>by omega) hb (fun W=>(oY s t W hl.1 hl.2 pJ pO).mono fun e w' h=>⟨_,_,h.1,h.2⟩) h0
  ·exact Gc s t w false (by simp) hb (fun W=>tL s t W hs ht pJ (by omega)) h0
 ·have Hb:=zq hb;clear hb;have hr:F9 s.data.toList t.data.toList=([],dK s.data.toList t.data.toList):=by rw[F9,iN h0]
  rw[hr];clear hr;generalize dK s.data.toList t.data.toList=c at *;have h':(c !=0)=true:=by simp[h0]
  clear h0;go_enter Jb,FN;go_wp2_with fail
  refine ka Hb.out fun w1 hb1=>?_;go_wp2;go_ret2;exact⟨rfl,hb1⟩
theorem Gd{n:Int}(h:n<0):uO n= -1:=by rw[uO,ip h]
theorem Ge{n:Int}(h:0<n):uO n=1:=by rw[uO,iN (by omega),ip h]
theorem DA{n:Int}(h:n=0):uO n=0:=by rw[uO,iN (by omega),iN (by omega)]
theorem RI(s t:ByteArray)(w:aE)(hs:s.size≤cA)(ht:t.size≤cA):
 aQ aC 161 #[aA s,aA t] w (Rt (bO #[aF aG (Ga s.data.toList t.data.toList).1,aF aG (Ga s.data.toList t.data.toList).2]) w):=by
 have hb:=vV s t w hs ht;change aQ _ _ _ _ fun e w'=>e=aO (aF aG (dK s.data.toList t.data.toList))∧_ at hb;have Hb:=zq hb;clear hb;by_cases h0:dK s.data.toList t.data.toList=0
 ·have hr:Ga s.data.toList t.data.toList=(uO (dI s.data.toList-dI t.data.toList),0):=by rw[Ga,ip h0]
  rw[hr];rw[h0]at Hb;obtain⟨pJ,pO,uY,hz2,l1,l2⟩:=AJ h0;clear hr h0;by_cases hl:s.size≤17∧t.size≤17
  ·have Hc:=zq (fun W=>oY s t W hl.1 hl.2 pJ pO);clear pJ pO l1 l2;generalize dI s.data.toList=x at *;generalize dI t.data.toList=y at *;rcases Int.lt_trichotomy x y with hxy|hxy|hxy
   ·rw[Gd (by omega)];go_enter Cq,Bb;go_wp2_with fail
    refine ka Hb.out fun w1 hb1=>?_;go_wp2_with fail
    refine kr (Hc.out w1) ?_;go_wp2;go_ret2;exact⟨rfl,hb1⟩
   ·rw[DA (by omega)];have q1:¬x<y:=by omega
    have q2:¬y<x:=by omega
    clear hxy;go_enter Cq,Bb;go_wp2_with fail
    refine ka Hb.out fun w1 hb1=>?_;go_wp2_with fail
    refine kr (Hc.out w1) ?_;go_wp2;go_ret2;exact⟨rfl,hb1⟩
   ·rw[Ge (by omega)];have q1:¬x<y:=by omega
    go_enter Cq,Bb;go_wp2_with fail
    refine ka Hb.out fun w1 hb1=>?_;go_wp2_with fail
    refine kr (Hc.out w1) ?_;go_wp2;go_ret2;exact⟨rfl,hb1⟩
  ·have Hc:=zq (fun W=>tL s t W hs ht pJ (by omega));have r1:=zq (fun W=>rH s W uY pJ);have r2:=zq (fun W=>rH t W hz2 pO);rw[jG s,jG t];clear pJ pO hl;generalize num (mag s.data.toList)=M at *;generalize num (mag t.data.toList)=N at *;have Hl:=zq (And.intro l1 l2);clear l1 l2;go_enter Cq,Bb;go_wp2_with fail
   refine ka Hb.out fun w1 hb1=>?_;go_wp2_with fail
   refine(Hc.out w1).mono ?_;rintro e w2⟨x,y,rfl,rfl⟩;go_wp2_with fail
   refine(r1.out w1).mono ?_;rintro e w2⟨v1,rfl,uU,hb2⟩;have eQ:=aH hb1 hb2 hb1.size;clear hb1 hb2;go_wp2_with fail
   refine(r2.out w2).mono ?_;rintro e w3⟨v2,rfl,vX,hb3⟩;have rJ:=uU.below hb3;have fN:=aH eQ hb3 eQ.size;clear eQ hb3 uU;go_wp2_with fail
   refine(O6 _ v2 N w3 vX.inL).mono ?_;rintro e w4⟨c2,rfl,AB,hb4⟩;have uU:=rJ.below hb4;have ow2':=vX.below hb4;have hB4:=aH fN hb4 fN.size;clear fN hb4 rJ vX;have WP:=zq AB;clear AB;go_wp2_with fail
   refine(KB _ _ v1 v2 M N w4 uU.inL ow2'.inL (by have:=Hl.out.1;omega) (by have:=Hl.out.2;omega)).mono ?_;rintro e w5⟨c,v,K,rfl,hsg,ow,hb5⟩;have yH:=aH hB4 hb5 hB4.size;clear hB4 hb5 uU ow2';have HS:aY (eE c K=eE (dY s) M-eE (dY t) N):=by
    show _=_;have:=WP.out;omega
   clear hsg;obtain⟨g,n,cap,rfl,ow⟩:=ow;have kN:(bM RB K).length=n:=by have:=ow.1;simpa using this
   have Gf:n=0↔K=0:=by
    rw[←kN,List.length_eq_zero_iff,eB cN]
   have Hn0:=zq Gf;clear Gf kN ow;have Cu:aJ w.heap.size w (w5.alloc (aL #[aM c,aB (some ⟨g,0,none⟩) n cap] 216)):=yH.alloc yH.size _;by_cases hz:n=0
   ·have hK:=Hn0.out.1 hz;subst hz;have HQ:=zq (DA (n:=eE (dY s) M-eE (dY t) N) (by rw[←HS.out,hK];cases c<;>rfl));clear hK HS;go_wp2;go_ret2;rw[HQ.out];exact⟨rfl,Cu⟩
   ·have hK:K≠0:=fun e=>hz (Hn0.out.2 e);have Ut:((n:Int)==0)=false:=by simp;omega
    cases c with
    |true=>
     have HQ:=zq (Gd (n:=eE (dY s) M-eE (dY t) N) (by rw[←HS.out];simp only[eE,if_true];omega));clear hK hz HS;go_wp2;go_ret2;rw[HQ.out];exact⟨rfl,Cu⟩
    |false=>
     have HQ:=zq (Ge (n:=eE (dY s) M-eE (dY t) N) (by rw[←HS.out];simp only[eE,mN,if_false];omega));clear hK hz HS;go_wp2;go_ret2;rw[HQ.out];exact⟨rfl,Cu⟩
 ·have hr:Ga s.data.toList t.data.toList=(0,dK s.data.toList t.data.toList):=by rw[Ga,iN h0]
  rw[hr];clear hr;generalize dK s.data.toList t.data.toList=c at *;have h':(c !=0)=true:=by simp[h0]
  clear h0;go_enter Cq,Bb;go_wp2_with fail
  refine ka Hb.out fun w1 hb1=>?_;go_wp2;go_ret2;exact⟨rfl,hb1⟩
end
section
open Go Go.RowKit Go.Lib
theorem RJ(x y:Int):cM y.natAbs (x.tmod y).natAbs=cM x.natAbs y.natAbs:=by
 rw[MR,qZ x.natAbs,Nat.gcd_rec y.natAbs x.natAbs,qZ]
theorem Lf(b:Bool)(a:Option Addr)(n c:Nat)(w:aE):(Instr.field 216 (.agg #[aM b,aB a n c]) 1).run aC w=.ok (aB a n c) w:=by kernel_rfl
def O7:Option bB→Nat
 |some (aF _ x)=>x.toNat
 |_=>0
def RK(B:Nat)(w:aE):bB→Nat
 |aB (some ⟨b,off,_⟩) n _=>bS B ((rv n).map fun i=>O7 (w.cell? ⟨b,off+i,none⟩))
 |_=>0
theorem Gg{B N:Nat}{w:aE}{v:bB}(hB:2≤B)(h:nR w v B N):RK B w v=N:=by
 obtain⟨a,n,cap,rfl,hn,-,-,-,hr⟩:=h;by_cases h0:n=0
 ·subst h0;have hN:N=0:=(eB hB).1 (dD hn);subst hN;cases a with
  |none=>rfl
  |some a=>simp[RK,bS]
 ·obtain⟨b,off,rfl,-⟩:=hr 0 (by omega);unfold RK;have e:((rv n).map fun i=>O7 (w.cell? ⟨b,off+i,none⟩))=bM B N:=by
   apply List.ext_getElem
   ·simp[hn]
   ·intro i h1 h2;obtain⟨b',fm,e,hc⟩:=hr i h2;injection e with e;injection e with e1 e2;subst e1 e2;rw[List.getElem_map,List.getElem_range,hc];simp[O7,List.getD_eq_getElem?_getD,h2]
  simp only[e];exact cY hB N
theorem gcd_zero_right(x:Int):cM x.natAbs (0:Int).natAbs=x.natAbs:=by simp
theorem WQ(s t:ByteArray)(w:aE)(hE:eZ w)(hs:s.size≤cA)(ht:t.size≤cA):
 aQ aC 132 #[aA s,aA t] w (Rt (bO #[aA (bs (CI s.data.toList t.data.toList).1),aF aG (CI s.data.toList t.data.toList).2]) w):=by
 have hb:=vV s t w hs ht;change aQ _ _ _ _ fun e w'=>e=aO (aF aG (dK s.data.toList t.data.toList))∧_ at hb;have Hb:=zq hb;clear hb;by_cases h0:dK s.data.toList t.data.toList=0
 ·have hr:CI s.data.toList t.data.toList=(bL (cM (dI s.data.toList).natAbs (dI t.data.toList).natAbs),0):=by rw[CI,ip h0]
  rw[hr];rw[h0]at Hb;obtain⟨pJ,pO,uY,hz2,l1,l2⟩:=AJ h0;clear hr h0;by_cases hl:s.size≤17∧t.size≤17
  ·have hx:=kO pJ hl.1;have hy:=kO pO hl.2;have Hc:=zq (fun W=>oY s t W hl.1 hl.2 pJ pO);clear pJ pO l1 l2;have HE:=zq hE;clear hE;generalize dI s.data.toList=x at *;generalize dI t.data.toList=y at *;go_enter TV,Qr;go_wp2_with fail
   refine Hb.out.mono ?_;rintro e w1⟨rfl,hb1⟩;go_wp2_with fail
   refine(Hc.out w1).mono ?_;rintro e w2⟨rfl,rfl⟩;go_wp2;go_loopw[7,8] (fun a b wr=>∃X Y:Int,a=aF aG X∧b=aF aG Y∧X.natAbs<10^17∧Y.natAbs<10^17∧aY (cM X.natAbs Y.natAbs=cM x.natAbs y.natAbs)∧aJ w.heap.size w wr)
    (fun _ b _=>(aK b).natAbs)
   case atStart=>exact⟨x,y,rfl,rfl,hx,hy,rfl,hb1⟩
   case round=>
    obtain⟨X,Y,rfl,rfl,hX,hY,hg,F4⟩:=hrel;clear hb1;by_cases hy0:Y=0
    ·subst hy0;have hm:aY (max X (-X)=((cM x.natAbs y.natAbs:Nat):Int)):=by
      show _=_;rw[←hg.out,gcd_zero_right];omega
     have q1:IntKind.i64.wrap (-X)= -X:=aP _ (by omega);clear hg;go_wp2_with fail
     refine(eM _ _ (HE.out.below F4) (by omega) (by omega)).mono ?_;rintro e w3⟨rfl,hb3⟩;have hB:=aH F4 hb3 F4.size;go_wp2;go_ret2;rw[hm.out];exact⟨rfl,hB⟩
    ·have hlt:(X.tmod Y).natAbs<Y.natAbs:=by rw[MR];exact fW _ (by omega)
     have US:=zq ((RJ X Y).trans hg.out);have q1:IntKind.i64.wrap (X.tmod Y)=X.tmod Y:=aP _ (by omega);go_wp2;go_region;go_wp2;go_roundw;case rel=>exact⟨Y,X.tmod Y,rfl,rfl,hY,by omega,US.out,bH F4 1⟩
     case measure=>simp only[aK];omega
  ·have Hc:=zq (fun W=>tL s t W hs ht pJ (by omega));have r1:=zq (fun W=>rH s W uY pJ);have r2:=zq (fun W=>rH t W hz2 pO);rw[gR,gR];clear pJ pO hl;generalize num (mag s.data.toList)=M at *;generalize num (mag t.data.toList)=N at *;have Hl:=zq (And.intro l1 l2);clear l1 l2;go_enter TV,Qr;go_wp2_with fail
   refine Hb.out.mono ?_;rintro e w1⟨rfl,hb1⟩;go_wp2_with fail
   refine(Hc.out w1).mono ?_;rintro e w2⟨x,y,rfl,rfl⟩;go_wp2_with fail
   refine(r1.out w1).mono ?_;rintro e w2⟨v1,rfl,uU,hb2⟩;have ow0:=uU;obtain⟨g1,m1,d1,rfl,-⟩:=ow0;have ff:=Lf (dY s) (some ⟨g1,0,none⟩) m1 d1;have eQ:=aH hb1 hb2 hb1.size;clear hb1 hb2;go_wp2_with fail
   refine(r2.out w2).mono ?_;rintro e w3⟨v2,rfl,vX,hb3⟩;have ow0:=vX;obtain⟨g2,m2,d2,rfl,-⟩:=ow0;have hf2:=Lf (dY t) (some ⟨g2,0,none⟩) m2 d2;have rJ:=uU.below hb3;have fN:=aH eQ hb3 eQ.size;clear eQ hb3 uU;go_wp2;go_loopw[10,11] (fun a b wr=>∃X Y:Nat,nR wr a RB X∧nR wr b RB Y∧(bM RB X).length≤50∧(bM RB Y).length≤50∧aY (cM X Y=cM M N)∧aJ w.heap.size w wr)
    (fun _ b wr=>RK RB wr b)
   case atStart=>exact⟨M,N,rJ.inL,vX.inL,Hl.out.1,Hl.out.2,rfl,fN⟩
   case round=>
    obtain⟨X,Y,hX,hY,lX,lY,hg,F4⟩:=hrel;clear fN rJ vX;have hX':=hX;have hY':=hY;obtain⟨a1,n1,c1,rfl,-⟩:=hX';obtain⟨a2,n2,c2,rfl,hn2,-⟩:=hY';have HX:=zq hX;clear hX;have HY:=zq hY;clear hY;by_cases hz:n2=0
    ·have bj:Y=0:=(eB cN).1 (dD (by omega));have hgX:aY (cM M N=X):=by
      show _=_;rw[←hg.out,bj];simp
     subst hz;clear hn2 bj hg lY HY;go_wp2_with fail
     refine(Dz false _ X wr HX.out (by omega)).mono ?_;rintro e w4⟨rfl,hb4⟩;have hB4:=aH F4 hb4 F4.size;go_wp2;go_ret2;rw[hgX.out];exact⟨rfl,hB4⟩
    ·have bj:0<Y:=by
      rcases Nat.eq_zero_or_pos Y with e|e
      ·rw[e,dO]at hn2;simp at hn2;omega
      ·exact e
     have US:aY (cM Y (X%Y)=cM M N):=by
      show _=_;rw[←hg.out,qZ X,Nat.gcd_rec Y X,qZ]
     have hlt:X%Y<Y:=fW _ bj;have hle:(bM RB (X%Y)).length≤(bM RB Y).length:=eP cN (I4 hlt);have Ut:0<n2:=by omega
     go_wp2_with fail
     refine(La _ _ X Y wr HX.out HY.out (by omega) (by omega) bj).mono ?_;rintro e w4⟨v,u,rfl,-,ow,hb4⟩;have hB4:=aH F4 hb4 F4.size;have hY4:=HY.out.below hb4;have hsl:=ow.inL;go_wp2;go_roundw;case rel=>exact⟨Y,X%Y,hY4,hsl,lY,by omega,US,hB4⟩
     case measure=>rw[Gg cN HY.out,Gg cN hsl];exact hlt
 ·have hr:CI s.data.toList t.data.toList=([],dK s.data.toList t.data.toList):=by rw[CI,iN h0]
  rw[hr];clear hr;generalize dK s.data.toList t.data.toList=c at *;have h':(c !=0)=true:=by simp[h0]
  clear h0;go_enter TV,Qr;go_wp2_with fail
  refine Hb.out.mono ?_;rintro e w1⟨rfl,hb1⟩;go_wp2;go_ret2;exact⟨rfl,hb1⟩
theorem CJ{t:List UInt8}(h:wS t=true):dI t=0↔t=[48]:=by
 constructor
 ·intro e;have:=Dt t h;rw[e]at this;rw[←this];exact Ny false
 ·rintro rfl;rfl
theorem RM{t:ByteArray}(h:wS t.data.toList=true):dI t.data.toList=0↔t={data:= #[48]}:=by
 rw[CJ h];constructor
 ·intro e;exact Em e
 ·rintro rfl;rfl
abbrev DC(s t:ByteArray)(w:aE):Prop:=
 aQ aC 213 #[aA s,aA t] w (Rt (bO #[aA (bs (xE s.data.toList t.data.toList).1),aA (bs (xE s.data.toList t.data.toList).2.1),aF aG (xE s.data.toList t.data.toList).2.2]) w)
theorem Lg(s t:ByteArray)(w:aE)(hs:s.size≤cA)(ht:t.size≤cA)(h0:dK s.data.toList t.data.toList≠0):DC s t w:=by
 have hb:=vV s t w hs ht;change aQ _ _ _ _ fun e w'=>e=aO (aF aG (dK s.data.toList t.data.toList))∧_ at hb;have Hb:=zq hb;clear hb;have hr:xE s.data.toList t.data.toList=([],[],dK s.data.toList t.data.toList):=by rw[xE,iN h0]
 unfold DC;rw[hr];clear hr;generalize dK s.data.toList t.data.toList=c at *;have h':(c !=0)=true:=by simp[h0]
 clear h0;go_enter Jc,FO;go_wp2_with fail
 refine Hb.out.mono ?_;rintro e w1⟨rfl,hb1⟩;go_wp2;go_ret3;exact⟨rfl,hb1⟩
theorem Ka(s t:ByteArray)(w:aE)(hs:s.size≤cA)(ht:t.size≤cA)(h0:dK s.data.toList t.data.toList=0)(hz:dI t.data.toList=0):DC s t w:=by
 have hb:=vV s t w hs ht;change aQ _ _ _ _ fun e w'=>e=aO (aF aG (dK s.data.toList t.data.toList))∧_ at hb;have hr:xE s.data.toList t.data.toList=([],[],12):=by rw[xE,ip h0,ip hz]
 unfold DC;rw[hr];clear hr;obtain rfl:=(RM (AJ h0).2.1).1 hz;rw[h0]at hb;have Hb:=zq hb;clear hb;clear h0 hz;go_enter Jc,FO;go_wp2_with fail
 refine Hb.out.mono ?_;rintro e w1⟨rfl,hb1⟩;go_wp2;go_ret3;exact⟨rfl,hb1⟩
theorem Iv(s t:ByteArray)(w:aE)(hE:eZ w)(hs:s.size≤17)(ht:t.size≤17)(h0:dK s.data.toList t.data.toList=0)(hz:dI t.data.toList≠0):DC s t w:=by
 have hb:=vV s t w (by simp only[cA];omega) (by simp only[cA];omega);change aQ _ _ _ _ fun e w'=>e=aO (aF aG (dK s.data.toList t.data.toList))∧_ at hb;have hr:xE s.data.toList t.data.toList=(bL ((dI s.data.toList).fdiv (dI t.data.toList)),bL ((dI s.data.toList).fmod (dI t.data.toList)),0):=by rw[xE,ip h0,iN hz]
 unfold DC;rw[hr];clear hr;obtain⟨pJ,pO,-⟩:=AJ h0;have fp:(t.toList==[48])=false:=by
  rw[cI];exact beq_false_of_ne fun e=>hz ((CJ pO).2 e)
 rw[h0]at hb;have Hb:=zq hb;clear hb;have Hc:=zq (fun W=>oY s t W hs ht pJ pO);have hx:=kO pJ hs;have hy:=kO pO ht;clear pJ pO h0;have HE:=zq hE;clear hE;generalize dI s.data.toList=x at *;generalize dI t.data.toList=y at *;obtain⟨-,f2,f3⟩:=Bv x y hz;have h1:=zq (fun h=>NH (x:=x) hz h);have h2:=zq (fun h=>NI (x:=x) hz h);have q1:IntKind.i64.wrap (x.tdiv y)=x.tdiv y:=aP _ (by omega);have q2:IntKind.i64.wrap (x.tmod y)=x.tmod y:=aP _ (by omega);go_enter Jc,FO;go_wp2_with fail
 refine Hb.out.mono ?_;rintro e w1⟨rfl,hb1⟩;go_wp2_with fail
 refine(Hc.out w1).mono ?_;rintro e w2⟨rfl,rfl⟩;go_wp2;go_region;have hb2:=bH hb1 1;change aJ w.heap.size w w1.drew at hb2;have hE2:=HE.out.below hb2;have Ju:=zq hE2;clear hE2 HE hb1;clear q1 q2;generalize x.tdiv y=q at *;generalize x.tmod y=r at *;by_cases hr0:r=0
 ·obtain⟨g1,g2⟩:=h1.out (.inl hr0);have G1:=zq g1;have G2:=zq g2;subst hr0;clear g1 g2 h1 h2 f2;go_wp2_with fail
  refine(eM _ _ Ju.out (by omega) (by omega)).mono ?_;rintro e w3⟨rfl,hb3⟩;have fN:=aH hb2 hb3 hb2.size;have O9:=Ju.out.below hb3;go_wp2_with fail
  refine(eM _ _ O9 (by omega) (by omega)).mono ?_;rintro e w4⟨rfl,hb4⟩;have hB4:=aH fN hb4 fN.size;go_wp2;go_ret3;rw[G1.out,G2.out];exact⟨rfl,hB4⟩
 ·rcases OI r 0 with k1|k1<;>rcases OI y 0 with k2|k2
  ·obtain⟨g1,g2⟩:=h1.out (.inr (by omega));have G1:=zq g1;have G2:=zq g2;have b1:(r !=0)=true:=by simp[hr0]
   clear g1 g2 h1 h2 hr0;go_wp2_with fail
   refine(eM _ _ Ju.out (by omega) (by omega)).mono ?_;rintro e w3⟨rfl,hb3⟩;have fN:=aH hb2 hb3 hb2.size;have O9:=Ju.out.below hb3;go_wp2_with fail
   refine(eM _ _ O9 (by omega) (by omega)).mono ?_;rintro e w4⟨rfl,hb4⟩;have hB4:=aH fN hb4 fN.size;go_wp2;go_ret3;rw[G1.out,G2.out];exact⟨rfl,hB4⟩
  ·obtain⟨g1,g2⟩:=h2.out hr0 (by omega);have G1:=zq g1;have G2:=zq g2;have k2n:¬y<0:=by omega
   have b1:(r !=0)=true:=by simp[hr0]
   clear g1 g2 h1 h2 hr0;go_wp2_with fail
   refine(eM _ _ Ju.out (by omega) (by omega)).mono ?_;rintro e w3⟨rfl,hb3⟩;have fN:=aH hb2 hb3 hb2.size;have O9:=Ju.out.below hb3;go_wp2_with fail
   refine(eM _ _ O9 (by omega) (by omega)).mono ?_;rintro e w4⟨rfl,hb4⟩;have hB4:=aH fN hb4 fN.size;go_wp2;go_ret3;rw[G1.out,G2.out];exact⟨rfl,hB4⟩
  ·obtain⟨g1,g2⟩:=h2.out hr0 (by omega);have G1:=zq g1;have G2:=zq g2;have k1n:¬r<0:=by omega
   have b1:(r !=0)=true:=by simp[hr0]
   clear g1 g2 h1 h2 hr0;go_wp2_with fail
   refine(eM _ _ Ju.out (by omega) (by omega)).mono ?_;rintro e w3⟨rfl,hb3⟩;have fN:=aH hb2 hb3 hb2.size;have O9:=Ju.out.below hb3;go_wp2_with fail
   refine(eM _ _ O9 (by omega) (by omega)).mono ?_;rintro e w4⟨rfl,hb4⟩;have hB4:=aH fN hb4 fN.size;go_wp2;go_ret3;rw[G1.out,G2.out];exact⟨rfl,hB4⟩
  ·obtain⟨g1,g2⟩:=h1.out (.inr (by omega));have G1:=zq g1;have G2:=zq g2;have k1n:¬r<0:=by omega
   have k2n:¬y<0:=by omega
   have b1:(r !=0)=true:=by simp[hr0]
   clear g1 g2 h1 h2 hr0;go_wp2_with fail
   refine(eM _ _ Ju.out (by omega) (by omega)).mono ?_;rintro e w3⟨rfl,hb3⟩;have fN:=aH hb2 hb3 hb2.size;have O9:=Ju.out.below hb3;go_wp2_with fail
   refine(eM _ _ O9 (by omega) (by omega)).mono ?_;rintro e w4⟨rfl,hb4⟩;have hB4:=aH fN hb4 fN.size;go_wp2;go_ret3;rw[G1.out,G2.out];exact⟨rfl,hB4⟩
abbrev RO(s t:ByteArray)(M N:Nat)(c1 c2:Bool)(w:aE):Prop:=
 aQ aC 213 #[aA s,aA t] w (Rt (bO #[aA (bs (bL ((eE c1 M).fdiv (eE c2 N)))),aA (bs (bL ((eE c1 M).fmod (eE c2 N)))),aF aG 0]) w)
theorem DD:bM RB 1=[1]:=by rw[bM];simp[RB,dO]
theorem wh{W:aE}{b:Nat}(h:bZ W b #[aF aG 1] 3):nR W (aB (some ⟨b,0,none⟩) 1 1) RB 1:=by
 refine⟨_,1,1,rfl,by rw[DD];rfl,aD _,by simp[cA],by simp,?_⟩;intro i hi;rw[DD]at hi⊢;have hi:i<1:=hi;obtain rfl:i=0:=by omega
 exact⟨b,0,rfl,h.cell 0⟩
theorem RP{M N:Nat}(hN:0<N)(hR:M%N≠0){K:Nat}(hM:M<K):M/N+1<K:=by
 have h1:=jU M N;have h2:2≤N:=by
  rcases Nat.lt_or_ge N 2 with h|h
  ·obtain rfl:N=1:=by omega
   exact absurd (Nat.mod_one M) hR
  ·exact h
 have h3:2*(M/N)≤N*(M/N):=Nat.mul_le_mul_right _ h2;omega
theorem Pa{a b:Bool}(h:¬a=b):a= !b:=by cases a<;>cases b<;>simp_all
theorem aW{P:Program}{f:FuncId}{ar:Array bB}{W:aE}{Q:Ending→aE→Prop}(k:∀V,W=V→aQ P f ar V Q):aQ P f ar W Q:=k W rfl
theorem Pb{w W:aE}{c1 c2:Array bB}{T1 T2:Ii}(h:(w.alloc (aL c1 T1)).alloc (aL c2 T2)=W):
 bZ W w.heap.size c1 T1∧bZ W (w.heap.size+1) c2 T2∧aJ w.heap.size w W:=by
 subst h;have:=bZ.new (w.alloc (aL c1 T1)) c2 T2;rw[aS]at this;exact⟨(bZ.new w _ _).alloc _,this,((Below.refl _ _).alloc (aD _) _).alloc (by simp) _⟩
theorem YD{w W:aE}{c1 c2 c3:Array bB}{T1 T2 T3:Ii}(h:((w.alloc (aL c1 T1)).alloc (aL c2 T2)).alloc (aL c3 T3)=W):
 bZ W w.heap.size c1 T1∧bZ W (w.heap.size+1) c2 T2∧bZ W (w.heap.size+2) c3 T3∧aJ w.heap.size w W∧W.heap.size=w.heap.size+3:=by
 subst h;obtain⟨a,b,c⟩:=Pb (w:=w) (c1:=c1) (c2:=c2) (T1:=T1) (T2:=T2) rfl;have:=bZ.new ((w.alloc (aL c1 T1)).alloc (aL c2 T2)) c3 T3;rw[aS,aS]at this;exact⟨a.alloc _,b.alloc _,this,c.alloc (by simp;omega) _,by simp⟩
theorem WR{w W:aE}{b:Nat}{x y u v:bB}{T:Ii}(h:(w.setCell ⟨b,0,none⟩ u).setCell ⟨b,1,none⟩ v=W)(hb:bZ w b #[x,y] T):
 bZ W b #[u,v] T∧(∀c cs T',c≠b→bZ w c cs T'→bZ W c cs T')∧(∀B a,B≤b→aJ B a w→aJ B a W)∧∀base s B K,b<base→mI w base s B K→mI W base s B K:=by
 subst h;exact⟨(hb.set 0 _).set 1 _,fun _ _ _ hc k=>(k.other _ hc).other _ hc,fun _ _ hB k=>(k.setCell (p:=⟨b,0,none⟩) hB _).setCell (p:=⟨b,1,none⟩) hB _,fun _ _ _ _ hB k=>(k.set_other (a:=⟨b,0,none⟩) hB _).set_other (a:=⟨b,1,none⟩) hB _⟩
theorem dv1{p:Prop}(h:p:=by
 go_wp2_with fail
 refine aW fun W2 RU=>?_;obtain⟨-,m2,hb5⟩:=Pb RU;refine ka (yJ _ _ (M/N) W2 (Iq.out.below hb5) (by have:=hlq.out;omega)) fun w5 hb6=>?_;rw[E.out.2];have m3:=m2.below hb6 m2.lt;have c5:=m3.ce 0;have c6:=m3.ce 1;have yH:=aH (aH hB4 hb5 hB4.size) hb6 (aH hB4 hb5 hB4.size).size;have Ir5:=(Ir.out.below hb5).below hb6;clear hb5 hb6 m2 m3 RU hB4;go_wp2_with fail
 refine ka (Dz _ _ (M%N) w5 Ir5 (by have:=hlr.out;omega)) fun w6 hb7=>?_;have Cu:=aH yH hb7 yH.size;go_wp2;go_ret3;rw[E.out.1,E2.out];exact⟨rfl,Cu⟩):p:=h
theorem dv2{p:Prop}(h:p:=by
 go_wp2_with fail
 refine aW fun W2 RU=>?_;obtain⟨m1,m2,m3,hb5,AB⟩:=YD RU;refine(KB _ _ _ _ (M/N) 1 W2 (Iq.out.below hb5) (wh m3) (by have:=hlq.out;omega) (by rw[DD];simp)).mono ?_;rintro e w5⟨c,v,K,rfl,hs,ow,hb6⟩;have n1':=m1.below hb6 m1.lt;have n2':=m2.below hb6 m2.lt;have p5:=(p2.below hb5 p2.lt).below hb6 (bQ p2.lt hb5.size);have hb45:=hb5.trans (hb6.mono hb5.size);have ow':=ow;obtain⟨gk,nk,dk,rfl,-⟩:=ow';have s1:=n1'.ce 0;have s2:=n1'.ce 1;have s3:=n1'.fz 0;have s4:=n1'.fz 1;have hgl:=p2.lt;have Hs:=zq hs;clear hs k1 k2;go_upto_region 17 with fail
 obtain⟨w6,hw6⟩:=nm ((w5.setCell ⟨w4.heap.size,0,none⟩ (aM c)).setCell ⟨w4.heap.size,1,none⟩ (aB (some ⟨gk,0,none⟩) nk dk));rw[hw6];obtain⟨o1,z2,z3,z4⟩:=WR hw6 n1';have o2:=z2 _ _ _ (by omega) n2';have o3:=z2 _ _ _ (by omega) p5;have wk:=z3 _ _ (aD _) hb45;have ow6:=z4 _ _ _ _ (by omega) ow;have Cu:=aH hB4 wk hB4.size;have i26:=i2w.below wk;have s5:=o2.ce 0;have s6:=o2.ce 1;have s7:=o3.ce 0;have s8:=o3.ce 1;clear s1 s2 s3 s4 hw6 RU n1' n2' p5 hb45 hb5 hb6 ow m1 m2 m3 hB4 p2 z2 z3 z4;go_wp2_with fail
 refine(KB _ _ _ _ (M%N) N w6 (Ir.out.below wk) i26 (by have:=hlr.out;omega) (by have:=Hl.out.2;omega)).mono ?_;rintro e w7⟨c',v',K',rfl,hs',ow',hb7⟩;have x1:=o1.below hb7 o1.lt;have x2:=o2.below hb7 o2.lt;have ow'':=ow';obtain⟨gl,nl,dl,rfl,-⟩:=ow'';have s1:=x2.ce 0;have s2:=x2.ce 1;have s3:=x2.fz 0;have s4:=x2.fz 1;have Hs':=zq hs';clear hs' s5 s6 s7 s8 i26 wk i2w;have hlt6:=o2.lt;go_upto_region 18 with fail
 obtain⟨w8,hw8⟩:=nm ((w7.setCell ⟨w4.heap.size+1,0,none⟩ (aM c')).setCell ⟨w4.heap.size+1,1,none⟩ (aB (some ⟨gl,0,none⟩) nl dl));rw[hw8];obtain⟨o5,z2,z3,z4⟩:=WR hw8 x2;have o4:=z2 _ _ _ (by omega) x1;have ow8:=z4 _ _ _ _ hlt6 ow';have owk:=z4 _ _ _ _ (by omega) (ow6.below hb7);have te:=z3 _ _ (by have:=hle4;omega) (aH Cu hb7 Cu.size);have s5:=o4.ce 0;have s6:=o4.ce 1;clear s1 s2 s3 s4 hw8 o1 o2 o3 x1 x2 ow' Cu hb7 ow6 z2 z3 z4;have hK:K≤M/N+1:=yM Hs.out;have hK':K'≤M%N+N:=yM Hs'.out;have Hv:=zq (Hs.out.trans E.out);have Hv2:=zq (Hs'.out.trans E2.out);have Hres:aY (iY (eE c K)=(bL (eE c K),0)):=by show _=_;rw[iY,ip (by rw[kG];exact dF hK (RP hN.out hR.out hM.out))]
 have Rm:=nT cN hlq.out (show(bM RB 1).length≤51 by rw[DD];simp) hK;have Hk2:=zq (nT cN hlr.out (show(bM RB N).length≤51 by have:=Hl.out.2;omega) hK');clear hK hK';go_wp2_with fail
 refine ka (yJ _ _ K w8 owk.inL (by omega)) fun w9 QM=>?_;rw[Hres.out];have y5:=o5.below QM o5.lt;have s7:=y5.ce 0;have s8:=y5.ce 1;have hB9:=aH te QM te.size;have ow9:=(ow8.below QM).inL;clear s5 s6 QM te ow8 o4 o5 owk y5 Rm;go_wp2_with fail
 refine ka (Dz _ _ K' w9 ow9 (by have:=Hk2.out;omega)) fun w10 Kb=>?_;have Lh:=aH hB9 Kb hB9.size;go_wp2;go_ret3;rw[Hv.out,Hv2.out];exact⟨rfl,Lh⟩):p:=h
theorem fu(s t:ByteArray)(w:aE)(M N:Nat)(c1 c2:Bool)(fp:(t.toList==[48])=false)
 (Hb:aY (aQ aC 185 #[aA s,aA t] w (Rt (aF aG 0) w)))
 (Hc:aY (∀W,aQ aC 186 #[aA s,aA t] W fun e w'=>∃x y,e=aO (bO #[aF aG x,aF aG y,aM false])∧W=w'))
 (r1:aY (∀W,aQ aC 187 #[aA s] W fun e w'=>∃v,e=aO (.agg #[aM c1,v])∧mI w' W.heap.size v RB M∧aJ W.heap.size W w'))
 (r2:aY (∀W,aQ aC 187 #[aA t] W fun e w'=>∃v,e=aO (.agg #[aM c2,v])∧mI w' W.heap.size v RB N∧aJ W.heap.size W w'))
 (Hl:aY ((bM RB M).length≤50∧(bM RB N).length≤50))(hN:aY (0<N))(hM:aY (M<10^300)):
 RO s t M N c1 c2 w:=by
 unfold RO;go_enter Jc,FO;go_wp2_with fail
 refine Hb.out.mono ?_;rintro e w1⟨rfl,hb1⟩;go_wp2_with fail
 refine(Hc.out w1).mono ?_;rintro e w2⟨x,y,rfl,rfl⟩;go_wp2_with fail
 refine(r1.out w1).mono ?_;rintro e w2⟨v1,rfl,uU,hb2⟩;have eQ:=aH hb1 hb2 hb1.size;clear hb1 hb2;go_wp2_with fail
 refine(r2.out w2).mono ?_;rintro e w3⟨v2,rfl,vX,hb3⟩;have rJ:=uU.below hb3;have fN:=aH eQ hb3 eQ.size;clear eQ hb3 uU;have i1:=rJ.inL;have i2:=vX.inL;clear rJ vX;have i1':=i1;have i2':=i2;obtain⟨a1,n1,d1,rfl,-⟩:=i1';obtain⟨a2,n2,d2,rfl,-⟩:=i2';go_wp2_with fail
 generalize hg:w3.heap.size=g at *;have Hg:=zq hg;refine aW fun W hW=>?_;obtain⟨q1,q2,hBW⟩:=Pb hW;rw[hg]at q1 q2;have U5:aJ w.heap.size w W:=aH fN hBW fN.size;have j1:=i1.below hBW;have j2:=i2.below hBW;clear fN hBW i1 i2 hW hg;refine(La _ _ M N W j1 j2 (by have:=Hl.out.1;omega) (by have:=Hl.out.2;omega) hN.out).mono ?_;rintro e w4⟨v,u,rfl,oq,or,hb4⟩;have p1:=q1.below hb4 q1.lt;have p2:=q2.below hb4 q2.lt;have hB4:=aH U5 hb4 U5.size;have i2w:=j2.below hb4;have hle4:w.heap.size≤w4.heap.size:=hB4.size;clear j1 j2 U5 hb4 q1 q2;have Iq:=zq oq.inL;have Ir:=zq or.inL;obtain⟨gq,nq,dq,rfl,oq⟩:=oq;obtain⟨gr,nr,dr,rfl,or⟩:=or;have su:(bM RB (M%N)).length=nr:=by have:=or.1;simpa using this
 have hnq:(bM RB (M/N)).length=nq:=by have:=oq.1;simpa using this
 clear oq or;have hg4:g+1<w4.heap.size:=p2.lt;have hg3:g<w4.heap.size:=by omega
 have k1:=p1.ce 0;have k2:=p2.ce 0;have hlq:aY ((bM RB (M/N)).length≤51):=cC (eP cN (lZ _ _)) (by have:=Hl.out.1;omega);have hlr:aY ((bM RB (M%N)).length≤51):=cC (eP cN (I4 (fW _ hN.out))) (by have:=Hl.out.2;omega);clear p1;have wl:aY (nq=0→M/N=0):=fun h=>(eB cN).1 (dD (by omega));have hr0:aY (nr=0→M%N=0):=fun h=>(eB cN).1 (dD (by omega));have hrn:aY (M%N=0→nr=0):=fun h=>by show _=_;rw[←su,h,dO];rfl
 have Hnq:=zq hnq;clear su hnq;have Li:∀b,eE b (M/N)=(eE c1 M).fdiv (eE c2 N)→aY ((iY (eE b (M/N))).1=bL ((eE c1 M).fdiv (eE c2 N))∧(iY (eE b (M/N))).2=0):=fun b hb=>by
  rw[←hb,iY,ip (by rw[kG];exact dF (lZ _ _) hM.out)];exact⟨rfl,rfl⟩
 by_cases hc:c2=c1
 ·subst hc;have hd:=By c2 hN.out (M:=M);have E:=Li false (by rw[hd.1];rfl);have E2:aY (bL (eE c2 (M%N))=bL ((eE c2 M).fmod (eE c2 N))):=(congrArg bL hd.2).symm;clear Li hd;by_cases hz:nr=0
  ·have E2:aY (bL (eE false (M%N))=bL ((eE c2 M).fmod (eE c2 N))):=by show _=_;rw[←E2.out,hr0.out hz];cases c2<;>rfl
   subst hz;cases c2<;>exact dv1
  ·have hr2:0<nr:=by omega
   have hr1:(0:Int)<nr:=by omega
   cases c2<;>exact dv1
 obtain rfl:=Pa hc;clear hc;by_cases hz:nr=0
 ·have hR:=hr0.out hz;have hd:=Bz c1 hN.out hR;have E2:aY (bL (eE false (M%N))=bL ((eE c1 M).fmod (eE (!c1) N))):=by show _=_;rw[hd.2,hR];rfl
  subst hz;by_cases hq:nq=0
  ·have E:=Li false (by rw[hd.1,wl.out hq];rfl);subst hq;clear Li hd hR;cases c1<;>simp only[pQ,oK]at * <;>exact dv1
  ·have E:=Li true (by rw[hd.1];rfl);have Ut:0<nq:=by omega
   have hz2:(0:Int)<nq:=by omega
   clear Li hd hR;cases c1<;>simp only[pQ,oK]at * <;>exact dv1
 ·have hR:aY (M%N≠0):=fun h=>hz (hrn.out h);have hd:=BB c1 hN.out hR.out;have hr2:0<nr:=by omega
  have hr1:(0:Int)<nr:=by omega
  have E2:aY (eE c1 (M%N)+eE (!c1) N=(eE c1 M).fmod (eE (!c1) N)):=hd.2.symm;clear Li;by_cases hq:nq=0
  ·have E:aY (eE false (M/N)+eE true 1=(eE c1 M).fdiv (eE (!c1) N)):=by show _=_;rw[hd.1,wl.out hq];rfl
   subst hq;clear hd;cases c1<;>simp only[pQ,oK]at * <;>exact dv2
  ·have E:aY (eE true (M/N)+eE true 1=(eE c1 M).fdiv (eE (!c1) N)):=by show _=_;rw[hd.1];rfl
   have Ut:0<nq:=by omega
   have hz2:(0:Int)<nq:=by omega
   clear hd;cases c1<;>simp only[pQ,oK]at * <;>exact dv2
theorem Pc{s t:List UInt8}(h:dK s t=0)(hz:dI t≠0):xE s t=(bL ((dI s).fdiv (dI t)),bL ((dI s).fmod (dI t)),0):=by rw[xE,ip h,iN hz]
theorem Lj(s t:ByteArray)(w:aE)(hE:eZ w)(hs:s.size≤cA)(ht:t.size≤cA):
 aQ aC 213 #[aA s,aA t] w (Rt (bO #[aA (bs (xE s.data.toList t.data.toList).1),aA (bs (xE s.data.toList t.data.toList).2.1),aF aG (xE s.data.toList t.data.toList).2.2]) w):=by
 by_cases h0:dK s.data.toList t.data.toList=0
 ·by_cases hz:dI t.data.toList=0
  ·exact Ka s t w hs ht h0 hz
  ·by_cases hl:s.size≤17∧t.size≤17
   ·exact Iv s t w hE hl.1 hl.2 h0 hz
   ·have hb:=vV s t w hs ht;change aQ _ _ _ _ fun e w'=>e=aO (aF aG (dK s.data.toList t.data.toList))∧_ at hb;rw[h0]at hb;obtain⟨pJ,pO,uY,hz2,l1,l2⟩:=AJ h0;have fp:(t.toList==[48])=false:=by
     rw[cI];exact beq_false_of_ne fun e=>hz ((CJ pO).2 e)
    have hN:0<num (mag t.data.toList):=by rw[←gR];omega
    have hM:=uZ (pY h0).1;have hc:=fun W=>tL s t W hs ht pJ (by omega);have r1:=fun W=>rH s W uY pJ;have r2:=fun W=>rH t W hz2 pO;rw[Pc h0 hz,jG s,jG t];exact fu s t w _ _ _ _ fp hb hc r1 r2 ⟨l1,l2⟩ hN hM
 ·exact Lg s t w hs ht h0
end
section
open Go Go.Lib
def nS(s:List UInt8):List UInt8:=s.takeWhile (·!=47)
def dS(s:List UInt8):List UInt8:=(s.dropWhile (·!=47)).tail
def tM(s:List UInt8):Bool:=s.any (·==47)
theorem zY(c:UInt8)(s:List UInt8)(h:c≠47):nS (c::s)=c::nS s∧dS (c::s)=dS s∧tM (c::s)=tM s:=by
 have h1:(c !=47)=true:=by simpa using h
 have h2:(c==47)=false:=by simpa using h
 simp[nS,dS,tM,h1,h2]
theorem yN(s:List UInt8):nS (47::s)=[]∧dS (47::s)=s∧tM (47::s)=true:=by
 simp[nS,dS,tM]
theorem U6:∀(n d:List UInt8),(∀c∈n,c≠47)→nS (n++47::d)=n∧dS (n++47::d)=d∧tM (n++47::d)=true
 |[],d,_=>yN d
 |c::n,d,h=>by
  obtain⟨h1,h2,h3⟩:=zY c (n++47::d) (h c (I3 ..))
  obtain⟨i1,i2,i3⟩:=U6 n d fun x hx=>h x (Fy _ hx)
  rw[fX,h1,h2,h3,i1,i2,i3]
  exact⟨rfl,rfl,rfl⟩
theorem Lk:∀(n:List UInt8),(∀c∈n,c≠47)→nS n=n∧dS n=[]∧tM n=false
 |[],_=>⟨rfl,rfl,rfl⟩
 |c::n,h=>by
  obtain⟨h1,h2,h3⟩:=zY c n (h c (I3 ..))
  obtain⟨i1,i2,i3⟩:=Lk n fun x hx=>h x (Fy _ hx)
  rw[h1,h2,h3,i1,i2,i3]
  exact⟨rfl,rfl,rfl⟩
theorem AK:∀(s:List UInt8),tM s=true→s=nS s++47::dS s
 |[],h=>by cases h
 |c::s,h=>by
  by_cases e:c=47
  ·subst e
   obtain⟨h1,h2,_⟩:=yN s
   rw[h1,h2];rfl
  ·obtain⟨h1,h2,h3⟩:=zY c s e
   rw[h1,h2,fX,←AK s (by rw[←h3];exact h)]
theorem rK:∀(s:List UInt8),tM s=false→nS s=s∧dS s=[]
 |[],_=>⟨rfl,rfl⟩
 |c::s,h=>by
  by_cases e:c=47
  ·subst e;rw[(yN s).2.2]at h;cases h
  ·obtain⟨h1,h2,h3⟩:=zY c s e
   obtain⟨i1,i2⟩:=rK s (by rw[←h3];exact h)
   rw[h1,h2,i1,i2];exact⟨rfl,rfl⟩
def RV(s:List UInt8):Bool:=wS (nS s)&&(!tM s||(nZ (dS s)&&dS s !=[48]&&dS s !=[49]))
def zZ(s:List UInt8):Bool:=decide (300<(mag (nS s)).length)||decide (300<(dS s).length)
def qN(s:List UInt8):Int:=dI (nS s)
def qD(s:List UInt8):Nat:=if tM s=true then num (dS s)else 1
def cQ(s:List UInt8):Int:=
 if RV s=true then(if zZ s=true then 4 else if cM (qN s).natAbs (qD s)=1 then 0 else 11)else 11
def cF(s:List UInt8):Rat:=mkRat (qN s) (qD s)
def aV(q:Rat):List UInt8:=if q.den=1 then bL q.num else bL q.num++47::bW q.den
theorem RW{c:UInt8}(h:dG c=true):c≠47:=by rintro rfl;revert h;decide
theorem Cc{l:List UInt8}(h:l.all dG=true):∀c∈l,c≠47:=fun c hc=>RW (List.all_eq_true.1 h c hc)
theorem Es(n:Int):∀c∈bL n,c≠47:=by
 intro c hc;by_cases h:n<0
 ·rw[rE h]at hc;rcases List.mem_cons.1 hc with rfl|hc
  ·decide
  ·exact Cc (lD _) c hc
 ·rw[gO (by omega)]at hc;exact Cc (lD _) c hc
theorem qG{s:List UInt8}(h:cQ s=0):RV s=true∧zZ s=false∧cM (qN s).natAbs (qD s)=1:=by
 unfold cQ at h;split at h
 ·split at h
  ·cases h
  ·split at h
   ·exact⟨‹_›,by simpa using‹¬zZ s=true›,‹_›⟩
   ·cases h
 ·cases h
theorem jZ{s:List UInt8}(h:RV s=true):wS (nS s)=true∧(tM s=true→nZ (dS s)=true∧dS s≠[48]∧dS s≠[49]):=by
 simp only[RV,bT,iB,Ko,bne_iff_ne,ne_eq]at h;refine⟨h.1,fun e=>?_⟩;rcases h.2 with h|h
 ·rw[e]at h;cases h
 ·exact⟨h.1.1,h.1.2,h.2⟩
theorem kH{l:List UInt8}(h:nZ l=true):l.all dG=true:=by
 simp only[nZ,bT]at h;exact h.1.2
theorem CK{l:List UInt8}(h:nZ l=true)(h0:l≠[48]):num l≠0:=by
 intro e;have:=oX l h;rw[e,jR]at this;exact h0 this.symm
theorem rL:bW 1=[49]:=by rw[jA (by decide)];rfl
theorem Ll{l:List UInt8}(h:nZ l=true)(h0:l≠[49]):num l≠1:=by
 intro e;have:=oX l h;rw[e,rL]at this;exact h0 this.symm
theorem qD_pos{s:List UInt8}(h:RV s=true):qD s≠0:=by
 unfold qD;split
 ·obtain⟨h1,h2,-⟩:=(jZ h).2 ‹_›;exact CK h1 h2
 ·decide
theorem MZ{n:Int}{d:Nat}(hd:d≠0)(h:cM n.natAbs d=1):(mkRat n d).num=n∧(mkRat n d).den=d:=by
 rw[Rat.num_mkRat,Rat.den_mkRat,iN hd,iN hd,qZ,h];exact⟨by simp,by simp⟩
theorem rU{s:List UInt8}(h:cQ s=0):(cF s).num=qN s∧(cF s).den=qD s:=
 MZ (qD_pos (qG h).1) (qG h).2.2
theorem Iw{s:List UInt8}(h:cQ s=0):aV (cF s)=s:=by
 obtain⟨h1,h2⟩:=rU h;obtain⟨k1,k2⟩:=jZ (qG h).1;rw[aV,h1,h2,qN,Dt _ k1,qD];by_cases hs:tM s=true
 ·obtain⟨e1,e2,e3⟩:=k2 hs;rw[ip hs,iN (Ll e1 e3),oX _ e1];exact(AK s hs).symm
 ·rw[iN hs,ip rfl];exact(rK s (by simpa using hs)).1
theorem wm{n:Int}(h:n.natAbs<10^300):(mag (bL n)).length≤300:=by
 rw[oM,cJ _ _ (by decide)];exact h
theorem vB(q:Rat):nS (aV q)=bL q.num∧qN (aV q)=q.num∧qD (aV q)=q.den∧(tM (aV q)=false→q.den=1)∧(tM (aV q)=true→dS (aV q)=bW q.den∧q.den≠1):=by
 unfold aV;by_cases h:q.den=1
 ·rw[ip h];obtain⟨h1,h2,h3⟩:=Lk _ (Es q.num);refine⟨h1,by rw[qN,h1,iA],by rw[qD,h3,iN (by decide),h],fun _=>h,fun e=>?_⟩;rw[h3]at e;cases e
 ·rw[iN h];obtain⟨h1,h2,h3⟩:=U6 _ (bW q.den) (Es q.num);refine⟨h1,by rw[qN,h1,iA],by rw[qD,h3,ip rfl,h2,iR],fun e=>?_,fun _=>⟨h2,h⟩⟩;rw[h3]at e;cases e
theorem CL(q:Rat)(h1:q.num.natAbs<10^300)(h2:q.den<10^300):cQ (aV q)=0:=by
 obtain⟨e1,e2,e3,e4,e5⟩:=vB q;have hok:RV (aV q)=true:=by
  simp only[RV,bT,iB,Ko,bne_iff_ne,ne_eq];refine⟨by rw[e1];exact yA _,?_⟩;by_cases hs:tM (aV q)=true
  ·obtain⟨d1,d2⟩:=e5 hs;right;rw[d1];refine⟨⟨Ej _,fun e=>?_⟩,fun e=>?_⟩
   ·have:=congrArg num e;rw[iR]at this;exact q.den_nz this
   ·have:=congrArg num e;rw[iR]at this;exact d2 this
  ·left;simpa using hs
 have hl:zZ (aV q)=false:=by
  simp only[zZ,fM,decide_eq_false_iff_not];refine⟨by rw[e1];have:=wm h1;omega,?_⟩;by_cases hs:tM (aV q)=true
  ·rw[(e5 hs).1];have:=(cJ q.den 300 (by decide)).2 h2;omega
  ·rw[(rK _ (by simpa using hs)).2];decide
 rw[cQ,ip hok,iN (by rw[hl];decide),e2,e3,ip q.reduced]
theorem kT(q:Rat):cF (aV q)=q:=by
 obtain⟨e1,e2,e3,-⟩:=vB q;rw[cF,e2,e3,Rat.mkRat_self]
theorem fv{p q:Rat}(h:aV p=aV q):p=q:=by rw[←kT p,←kT q,h]
theorem YE{s:List UInt8}(h:cQ s=0):(cF s).num.natAbs<10^300∧(cF s).den<10^300:=by
 obtain⟨h1,h2⟩:=rU h;obtain⟨k0,kl,-⟩:=qG h;obtain⟨k1,k2⟩:=jZ k0;simp only[zZ,fM,decide_eq_false_iff_not]at kl;rw[h1,h2];constructor
 ·rw[qN,gR];exact OO 300 (nM _ (kE k1)) (by omega)
 ·unfold qD;split
  ·exact OO 300 (nM _ (kH (k2 ‹_›).1)) (by omega)
  ·exact OP 300 (by decide)
def dZ(s t:List UInt8):Int:=if cQ s=0 then cQ t else cQ s
def lW(n:Int):Bool:=decide (n.natAbs<10^300)
def iS(x y:Rat):Bool:=lW (x.num*y.den)&&lW (y.num*x.den)
def Et(x y:Rat):Bool:=iS x y&&lW (x.num*y.den+y.num*x.den)&&lW (x.den*y.den)
def Jv(x y:Rat):Bool:=iS x y&&lW (x.num*y.den-y.num*x.den)&&lW (x.den*y.den)
def Lm(x y:Rat):Bool:=lW (x.num*y.num)&&lW (x.den*y.den)
def mJ(x y:Rat):Int:=if x<y then -1 else if y<x then 1 else 0
def tN(s t:List UInt8):List UInt8×Int:=if dZ s t=0 then(if Et (cF s) (cF t)=true then(aV (cF s+cF t),0)else([],4))else([],dZ s t)
def tO(s t:List UInt8):List UInt8×Int:=if dZ s t=0 then(if Jv (cF s) (cF t)=true then(aV (cF s-cF t),0)else([],4))else([],dZ s t)
def lF(s t:List UInt8):List UInt8×Int:=if dZ s t=0 then(if Lm (cF s) (cF t)=true then(aV (cF s*cF t),0)else([],4))else([],dZ s t)
def qH(s t:List UInt8):List UInt8×Int:=
 if dZ s t=0 then(if cF t=0 then([],12)else if iS (cF s) (cF t)=true then(aV (cF s/cF t),0)else([],4))else([],dZ s t)
def gY(s t:List UInt8):Int×Int:=if dZ s t=0 then(if iS (cF s) (cF t)=true then(mJ (cF s) (cF t),0)else(0,4))else(0,dZ s t)
theorem lM{s t:List UInt8}(h:dZ s t=0):cQ s=0∧cQ t=0:=by
 unfold dZ at h;split at h
 ·exact⟨‹_›,h⟩
 ·exact absurd h ‹_›
theorem xR(x y:Rat):mkRat (x.num*y.den+y.num*x.den) (x.den*y.den)=x+y:=(Rat.add_def' x y).symm
theorem DE(x y:Rat):mkRat (x.num*y.den-y.num*x.den) (x.den*y.den)=x-y:=(Rat.sub_def' x y).symm
theorem AN(x y:Rat):mkRat (x.num*y.num) (x.den*y.den)=x*y:=(Rat.mul_def' x y).symm
theorem BC(x y:Rat):dv (x.num*y.den) (y.num*x.den)=x/y:=by
 have h:x/y=dv x.num x.den*dv y.den y.num:=by rw[Rat.div_def,Rat.inv_def,Rat.num_divInt_den]
 rw[h,Rat.divInt_mul_divInt,sC y.num]
theorem CN(x y:Rat):mJ x y=uO (x.num*y.den-y.num*x.den):=by
 have h1:=Rat.lt_iff x y;have h2:=Rat.lt_iff y x;generalize x.num*y.den=a at *;generalize y.num*x.den=b at *;unfold mJ uO;by_cases h:x<y
 ·have:=h1.1 h;rw[ip h,ip (by omega)]
 ·have k:¬a<b:=fun e=>h (h1.2 e);have k0:¬a-b<0:=by omega
  rw[iN h,iN k0];by_cases g:y<x
  ·have:=h2.1 g;rw[ip g,ip (by omega)]
  ·have k2:¬b<a:=fun e=>g (h2.2 e);have k3:¬0<a-b:=by omega
   rw[iN g,iN k3]
theorem vY(n:Int)(d:Nat)(hd:d≠0):(mkRat n d).num=n/(cM n.natAbs d:Nat)∧(mkRat n d).den=d/cM n.natAbs d:=by
 rw[Rat.num_mkRat,Rat.den_mkRat,iN hd,iN hd,qZ];exact⟨rfl,rfl⟩
end
end Go.Proofs.YtcimoodjlopdaaaGreatDoor
