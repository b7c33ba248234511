import Derived.Test.YtcimoodjlopdaaaGreatDoorProg
import Derived.WalkKit
import Derived.WalkSpells
import Derived.WalkLawsBesides
import Derived.RegionTactic
import Derived.ChangeAlike
import Derived.Deep.QuietTactic
import Derived.BigQuiet
import Derived.Lib.Hide
import Derived.Deep.DeepCutAuto
import Derived.OwnWalk
import Derived.Lib.Strings
import Derived.Lib.SlTrimSet
import Derived.Lib.Atoi
import Derived.Lib.Repeat
import Derived.Test.YtcimoodjlopdaaaGreatDoorZ0
import Derived.Test.YtcimoodjlopdaaaGreatDoorZ1
import Derived.Test.YtcimoodjlopdaaaGreatDoorZ3
namespace Go.Proofs.YtcimoodjlopdaaaGreatDoor
set_option maxRecDepth 100000
set_option maxHeartbeats 8000000
set_option linter.all false
open Go.Proofs.Tryz
open Bool renaming and_eq_true->bT,or_eq_true->iB,true_and->xW
open Go renaming World->aE,Calls->aQ,below_drewN->bH,maxLen->cA,bodyPost_ret->cD,run_string_add_lists->eX,undef->iZ
open Go.ByteArray renaming toList_eq->cI
open Go.Ending renaming returned->aO
open Go.IntKind renaming i64->aG
open Go.IntWalk renaming i64_in->aP
open Go.Lib renaming itoa->bL,decDigits->bW,extract_to_end->qF,hasPrefix->Ba,trimPrefix->JX,atoi->TS,digitVal->dw,decFrom->sa,decNat->ve
open Go.Op renaming stringOp->mP
open Go.Proofs.Tryz renaming prog->aC,results128->Cy,ntmps89->Jd,ntmps70->Je,func89->KN,func70->KO,ntmps129->Qs,func129->TW
open Go.RowKit renaming Below->aJ,intOf->aK,Hid->aY
open Go.RowKit.Below renaming refl->aI,trans->iD
open Go.Value renaming string->aA,int->aF,bool->aM,tuple->bO
open Go.World.ownsRow renaming frozenAt->eO
open Int renaming natAbs_natCast->bP,natCast_mul->gZ,tdiv_eq_ediv_of_nonneg->jO,natCast_nonneg->pM,mul_comm->sC,tmod_eq_emod_of_nonneg->sT,natCast_ediv->Nv,mul_ediv_cancel->bd
open List renaming getD_eq_getElem?_getD->aN,replicate->bY,length_cons->cO,length_append->cU,length_nil->eW,length_set->fS,getElem_of_mem->fV,drop_of_length_le->jK,length_drop->kK,all_cons->mG,append_nil->nX,all_eq_true->oT,drop_eq_getElem_cons->rS,takeWhile_sublist->wM,append_assoc->Ch,dropWhile_cons->Fz,drop_zero->H4,all_append->Nq,replicate_succ->X3
open Nat renaming le_refl->aD,pow_le_pow_right->bN,lt_of_lt_of_le->bQ,zero_le->bR,le_trans->cC,mul_comm->cK,gcd->cM,lt_of_le_of_lt->dF,pow_succ->dN,mul_le_mul_right->eG,lt_or_ge->fC,mod_lt->fW,eq_zero_or_pos->jL,div_le_self->lZ,mul_le_mul_left->mT,gcd_comm->qZ,pow_add->qU,add_comm->FL,not_lt_zero->Ib,mul_lt_mul''->Nr,gcd_pos_of_pos_right->QZ,gcd_dvd_left->uz
open Option.some renaming injEq->uH
open Trans renaming trans->cL
section
open Go Go.Lib
def HQ(k:Nat)(q:Rat):Prop:=q.num.natAbs<10^k∧q.den<10^k
theorem HQ.mono{j k:Nat}{q:Rat}(h:HQ j q)(hk:j≤k):HQ k q:=
 ⟨bQ h.1 (bN (by decide) hk),bQ h.2 (bN (by decide) hk)⟩
theorem vZ(n:Int)(d:Nat)(hd:d≠0):(mkRat n d).num.natAbs≤n.natAbs∧(mkRat n d).den≤d:=by
 obtain⟨h1,h2⟩:=vY n d hd;rw[h1,h2];refine⟨?_,lZ _ _⟩;have hg:((cM n.natAbs d:Nat):Int)∣n:=Int.natAbs_dvd_natAbs.1 (by rw[bP];exact uz _ _);have:=Int.ediv_mul_cancel hg;by_cases h0:n=0
 ·subst h0;simp
 ·have hd':(n/((cM n.natAbs d:Nat):Int))∣n:=⟨_,this.symm⟩;exact Nat.le_of_dvd (by omega) (Int.natAbs_dvd_natAbs.2 hd')
theorem lN{x y:Int}{a b:Nat}(h1:x.natAbs<10^a)(h2:y.natAbs<10^b):(x*y).natAbs<10^(a+b):=by
 rw[Int.natAbs_mul,qU];exact Nr h1 h2
theorem BD{n:Int}{k:Nat}(h:n.natAbs<10^k)(hk:k≤300):lW n=true:=by
 simp only[lW,decide_eq_true_eq];exact OO 300 h hk
theorem CO{x y:Int}{k:Nat}(h1:x.natAbs<10^k)(h2:y.natAbs<10^k):(x+y).natAbs<10^(k+1):=by
 rw[dN];omega
theorem CP{x y:Int}{k:Nat}(h1:x.natAbs<10^k)(h2:y.natAbs<10^k):(x-y).natAbs<10^(k+1):=by
 rw[dN];omega
section
variable{a b:Nat}{x y:Rat}
theorem HQ.n(h:HQ a x):x.num.natAbs<10^a:=h.1
theorem HQ.d(h:HQ a x):((x.den:Nat):Int).natAbs<10^a:=by rw[bP];exact h.2
theorem HQ.cross(h1:HQ a x)(h2:HQ b y):(x.num*y.den).natAbs<10^(a+b)∧(y.num*x.den).natAbs<10^(a+b):=
 ⟨lN h1.n h2.d,by rw[FL];exact lN h2.n h1.d⟩
theorem HQ.dens(h1:HQ a x)(h2:HQ b y):((x.den:Int)*y.den).natAbs<10^(a+b):=lN h1.d h2.d
theorem oG(h1:HQ a x)(h2:HQ b y)(h:a+b≤300):iS x y=true:=by
 simp only[iS,bT];exact⟨BD (h1.cross h2).1 h,BD (h1.cross h2).2 h⟩
theorem Ln(h1:HQ a x)(h2:HQ b y)(h:a+b+1≤300):Et x y=true:=by
 simp only[Et,bT];exact⟨⟨oG h1 h2 (by omega),BD (CO (h1.cross h2).1 (h1.cross h2).2) h⟩,BD (h1.dens h2) (by omega)⟩
theorem RY(h1:HQ a x)(h2:HQ b y)(h:a+b+1≤300):Jv x y=true:=by
 simp only[Jv,bT];exact⟨⟨oG h1 h2 (by omega),BD (CP (h1.cross h2).1 (h1.cross h2).2) h⟩,BD (h1.dens h2) (by omega)⟩
theorem Lr(h1:HQ a x)(h2:HQ b y)(h:a+b≤300):Lm x y=true:=by
 simp only[Lm,bT];exact⟨BD (lN h1.n h2.n) h,BD (h1.dens h2) h⟩
theorem rQ(x y:Rat):x.den*y.den≠0:=Nat.mul_ne_zero x.den_nz y.den_nz
theorem HQ.mk{n:Int}{d k:Nat}(hd:d≠0)(h1:n.natAbs<10^k)(h2:d<10^k):HQ k (mkRat n d):=
 ⟨dF (vZ n d hd).1 h1,dF (vZ n d hd).2 h2⟩
theorem Ls(h1:HQ a x)(h2:HQ b y):x.den*y.den<10^(a+b):=by
 rw[qU];exact Nr h1.2 h2.2
theorem HQ.add(h1:HQ a x)(h2:HQ b y):HQ (a+b+1) (x+y):=by
 rw[←xR];exact HQ.mk (rQ x y) (CO (h1.cross h2).1 (h1.cross h2).2) (bQ (Ls h1 h2) (bN (by decide) (by omega)))
theorem HQ.sub(h1:HQ a x)(h2:HQ b y):HQ (a+b+1) (x-y):=by
 rw[←DE];exact HQ.mk (rQ x y) (CP (h1.cross h2).1 (h1.cross h2).2) (bQ (Ls h1 h2) (bN (by decide) (by omega)))
theorem HQ.mul(h1:HQ a x)(h2:HQ b y):HQ (a+b) (x*y):=by
 rw[←AN];exact HQ.mk (rQ x y) (lN h1.n h2.n) (Ls h1 h2)
theorem HQ.inv(h1:HQ a x)(h0:x≠0):HQ a x⁻¹:=by
 have hn:x.num≠0:=fun e=>h0 (Rat.num_eq_zero.1 e);refine⟨?_,?_⟩
 ·rw[Rat.num_inv,Int.natAbs_mul,bP];have:x.num.sign.natAbs≤1:=by rw[Int.natAbs_sign];split <;>omega
  exact dF (eG _ this) (by rw[Nat.one_mul];exact h1.2)
 ·rw[Rat.den_inv,iN hn];exact h1.1
theorem HQ.div(h1:HQ a x)(h2:HQ b y)(h0:y≠0):HQ (a+b) (x/y):=by
 rw[Rat.div_def];exact h1.mul (h2.inv h0)
theorem HQ.int{n:Int}{k:Nat}(h:n.natAbs<10^k)(hk:1≤k):HQ k (n:Rat):=by
 refine⟨by rw[Rat.num_intCast];exact h,?_⟩;rw[Rat.den_intCast];exact bQ (by decide:1<10^1) (bN (by decide) hk)
end
theorem HQ.of_length{s:List UInt8}(h:cQ s=0){k:Nat}(hk:s.length≤k)(h1:1≤k):HQ k (cF s):=by
 obtain⟨e1,e2⟩:=rU h;obtain⟨k0,-,-⟩:=qG h;obtain⟨k1,k2⟩:=jZ k0;have hm:=gP (nS s);refine⟨?_,?_⟩
 ·rw[e1,qN,gR];have hn:(nS s).length≤s.length:=by
   unfold nS;exact(wM _).length_le
  exact bQ (nM _ (kE k1)) (bN (by decide) (by omega))
 ·rw[e2];unfold qD;split
  ·have hd:=congrArg List.length (AK s ‹_›);rw[cU,cO]at hd;exact bQ (nM _ (kH (k2 ‹_›).1)) (bN (by decide) (by omega))
  ·exact bQ (by decide:1<10^1) (bN (by decide) h1)
theorem sJ{q:Rat}{k:Nat}(h:HQ k q)(hk:k≤300):cQ (aV q)=0:=CL q (h.mono hk).1 (h.mono hk).2
section
variable{a b:Nat}{x y:Rat}
theorem Gh(h1:HQ a x)(h2:HQ b y)(ha:a≤300)(hb:b≤300):dZ (aV x) (aV y)=0:=by
 rw[dZ,ip (sJ h1 ha)];exact sJ h2 hb
theorem fw(h1:HQ a x)(h2:HQ b y)(h:a+b+1≤300):tN (aV x) (aV y)=(aV (x+y),0):=by
 rw[tN,ip (Gh h1 h2 (by omega) (by omega)),kT,kT,ip (Ln h1 h2 h)]
theorem fx(h1:HQ a x)(h2:HQ b y)(h:a+b+1≤300):tO (aV x) (aV y)=(aV (x-y),0):=by
 rw[tO,ip (Gh h1 h2 (by omega) (by omega)),kT,kT,ip (RY h1 h2 h)]
theorem fy(h1:HQ a x)(h2:HQ b y)(h:a+b≤300):lF (aV x) (aV y)=(aV (x*y),0):=by
 rw[lF,ip (Gh h1 h2 (by omega) (by omega)),kT,kT,ip (Lr h1 h2 h)]
theorem gh(h1:HQ a x)(h2:HQ b y)(h:a+b≤300)(h0:y≠0):qH (aV x) (aV y)=(aV (x/y),0):=by
 rw[qH,ip (Gh h1 h2 (by omega) (by omega)),kT,kT,iN h0,ip (oG h1 h2 h)]
theorem CQ(h1:HQ a x)(h2:HQ b y)(h:a+b≤300):gY (aV x) (aV y)=(mJ x y,0):=by
 rw[gY,ip (Gh h1 h2 (by omega) (by omega)),kT,kT,ip (oG h1 h2 h)]
end
end
section
open Go Go.RowKit
theorem NK{s:ByteArray}(h:s.size=0):nZ s.data.toList=false:=by
 have:s.data.toList=[]:=List.eq_nil_of_length_eq_zero h;rw[this];rfl
theorem DH(s:ByteArray)(h:0<s.size):s.data.toList.head? =some s[0]:=by
 have h':0<s.data.toList.length:=h;rw[List.head?_eq_getElem?,List.getElem?_eq_getElem h'];rfl
theorem R7{s:ByteArray}(h:0<s.size)(h0:s[0].toNat=48)(h1:1<s.size):nZ s.data.toList=false:=by
 have e:s[0]=48:=UInt8.toNat_inj.1 h0;have hl:(s.data.toList.length==1)=false:=by
  have:s.data.toList.length=s.size:=rfl;simp;omega
 simp only[nZ,DH s h,e,hl];simp
theorem WS{s:ByteArray}{i:Nat}(h:i<s.size)(hd:¬dG s[i]=true):nZ s.data.toList=false:=by
 have:s.data.toList.all dG=false:=by
  rw[List.all_eq_false];exact⟨s[i],Array.getElem_mem_toList (xs:=s.data) h,hd⟩
 simp only[nZ,this];simp
theorem all_dg{s:ByteArray}(h:∀i(h:i<s.size),0≤i→i<s.size→dG s[i]=true):s.data.toList.all dG=true:=by
 rw[oT];intro x hx;obtain⟨i,hi,rfl⟩:=fV hx;exact h i hi (bR _) hi
theorem R8 {s : ByteArray} (h : 0 < s.size) (h0 : ¬ (s[0].toNat = 48 ∧ 1 < s.size)) (hd : ∀ i (h : i < s.size), 0 ≤ i → i < s.size → dG s[i] = true) : nZ s.data.toList = true := by
  have ha := all_dg hd
  have lE : s.data.toList.isEmpty = false := by
    cases e : s.data.toList with
    | nil => have : s.data.toList.length = s.size := rfl
             rw [e] at this; simp at this; omega
    | cons _ _ => rfl
  have hl : s.data.toList.length = s.size := rfl
  simp only [nZ, ha, lE, DH s h, hl, Bool.not_false, xW, iB, bne_iff_ne, ne_eq, uH, beq_iff_eq]
  by_cases h48 : s[0] = 48
  · right
    by_cases h1 : 1 < s.size
    · exact absurd ⟨by rw [h48]; rfl, h1⟩ h0
    · omega
  · exact .inl h48
theorem Lt(s:ByteArray)(w:aE)(hs:s.size≤cA):
 aQ aC 129 #[aA s] w fun e w'=>e=aO (aM (nZ s.data.toList))∧w=w':=by
 unfold cA at hs;by_cases hz:s.size=0
 ·have ho:=zq (NK hz);have hb:((s.size:Int)==0)=true:=by simp[hz]
  clear hz;go_enter TW,Qs;go_wp2;go_ret;exact⟨FY ho.out.symm,rfl⟩
 ·have hp:0<s.size:=by omega
  have hb:((s.size:Int)==0)=false:=by rw[beq_eq_false_iff_ne];omega
  clear hz;by_cases h1:1<s.size∧s[0].toNat=48
  ·have ho:=zq (R7 hp h1.2 h1.1);obtain⟨h1,h2⟩:=h1;have h1i:decide ((1:Int)<(s.size:Int))=true:=by simp;omega
   have e2:((s[0].toNat:Int)==48)=true:=by simp[h2]
   clear h2;go_enter TW,Qs;go_wp2;go_ret;exact⟨FY ho.out.symm,rfl⟩
  ·have hg:=zq (fun hd=>R8 hp (fun h=>h1 ⟨h.2,h.1⟩) hd);have hR:∀(K:Prop),(1<s.size→((s[0].toNat:Int)==48)=false→K)→(¬1<s.size→K)→K:=by
    intro K k1 k2;by_cases h:1<s.size
    ·have h9:¬s[0].toNat=48:=fun e=>h1 ⟨h,e⟩;exact k1 h (by rw[beq_eq_false_iff_ne];exact fun e=>h9 (Int.ofNat_inj.1 (e:((s[0].toNat:Nat):Int)=((48:Nat):Int))))
    ·exact k2 h
   have HR:=zq hR;clear h1 hR;refine HR.out _ (fun a1 a2=>?_) (fun a1=>?_);all_goals
    clear HR;go_enter TW,Qs;go_wp2;go_loop [3] (fun v=>∃k:Nat,v=aF aG k∧k≤s.size∧aY (∀i(h:i<s.size),0≤i→i<k→dG s[i]=true)) (fun v=>s.size-(aK v).toNat);case atStart=>exact⟨0,rfl,bR _,fun i h h1 h2=>by omega⟩
    case round=>
     obtain⟨k,rfl,UN,hk3⟩:=hrel;by_cases hk:k<s.size
     ·by_cases hd:dG s[k]=true
      ·have h48:48≤(s[k].toNat:Int)∧(s[k].toNat:Int)≤57:=by simp only[dG,bT,decide_eq_true_eq]at hd;omega
       obtain⟨h48,h57⟩:=h48;have Hd:=zq hd;clear hd;go_wp2;go_round;case rel=>exact⟨k+1,by go_num,by omega,WJ s 0 k hk3.out Hd.out⟩
       case measure=>(simp only[aK];omega)
      ·have h11:=zq (WS hk hd);have Hd:=zq hd;clear hd;go_wp2;all_goals first
        |(go_ret;exact⟨FY h11.out.symm,rfl⟩)
        |(exfalso;exact dg_no (by assumption) (by omega) Hd.out)
     ·obtain rfl:k=s.size:=by omega
      have ho:=zq (hg.out hk3.out);go_wp2;go_ret;exact⟨FY ho.out.symm,rfl⟩
theorem Eu(s:ByteArray)(k:Nat)(hk:k<s.size):num (s.data.toList.take (k+1))=num (s.data.toList.take k)*10+(s[k].toNat-48):=by
 have Q7:k<s.data.toList.length:=hk;rw[List.take_succ_eq_append_getElem Q7,FP];rfl
theorem Sa(s:ByteArray)(hd:s.data.toList.all dG=true)(k:Nat):num (s.data.toList.take k)<10^k:=by
 have h1:(s.data.toList.take k).all dG=true:=by
  rw[oT]at hd⊢;exact fun x hx=>hd x (List.mem_of_mem_take hx)
 exact bQ (nM _ h1) (bN (by decide) (List.length_take_le _ _))
theorem AO(s:ByteArray)(w:aE)(hs:s.size≤18)(hd:s.data.toList.all dG=true):
 aQ aC 131 #[aA s] w fun e w'=>e=aO (iv (num s.data.toList))∧w=w':=by
 have Hd:=zq hd;clear hd;go_enter func131,ntmps131;go_wp2;go_loop [3,4] (fun n i=>∃k:Nat,i=aF aG k∧k≤s.size∧n=aF aG (num (s.data.toList.take k):Nat)) (fun _ i=>s.size-(aK i).toNat);case atStart=>exact⟨0,rfl,bR _,rfl⟩
 case round=>
  obtain⟨k,rfl,hk,rfl⟩:=hrel;by_cases hlt:k<s.size
  ·have hb:=Sa s Hd.out k;have hb17:num (s.data.toList.take k)<10^17:=bQ hb (bN (by decide) (by omega));have Io:=zq (Eu s k hlt);have Ur:=Bt s Hd.out k hlt;obtain⟨d,MO⟩:∃d:Nat,(s[k].toNat:Int)-48=(d:Int):=⟨s[k].toNat-48,by omega⟩;have q1:IntKind.u8.wrap ((s[k].toNat:Int)-48)=(d:Int):=by rw[MO];exact IntWalk.u8_in _ (by omega)
   have q2:((s[k].toNat:Int)-48)%256=(d:Int):=by rw[MO];omega
   have MY:aY (s[k].toNat-48=d):=by show _=_;omega
   have hd9:d≤9:=by omega
   generalize num (s.data.toList.take k)=n at *;have hn:n≤99999999999999999:=by omega
   clear hb hb17 Ur MO;go_wp2;go_round;case rel=>exact⟨k+1,by go_num,by omega,by rw[Io.out,MY.out];congr 1;omega⟩
   case measure=>simp only[aK];omega
  ·obtain rfl:k=s.size:=by omega
   have ht:aY (num (s.data.toList.take s.size)=num s.data.toList):=by show _=_;rw[List.take_of_length_le (show s.data.toList.length≤s.size from aD _)]
   go_wp2;go_ret;exact⟨nJ (by rw[ht.out]),rfl⟩
theorem nS_at(l:List UInt8)(k:Nat)(hk:k<l.length)(h:∀i(hi:i<l.length),i<k→l[i]≠47)(h47:l[k]=47):nS l=l.take k∧dS l=l.drop (k+1)∧tM l=true:=by
 have e:l=l.take k++47::l.drop (k+1):=by
  rw[←h47,←rS hk,List.take_append_drop]
 have hm:∀c∈l.take k,c≠47:=by
  intro c hc;obtain⟨i,hi,rfl⟩:=fV hc;rw[List.length_take]at hi;rw[List.getElem_take];exact h i (by omega) (by omega)
 have:=U6 (l.take k) (l.drop (k+1)) hm;rwa[←e]at this
theorem U7(l:List UInt8):nS (mag l)=mag (nS l)∧dS (mag l)=dS l∧tM (mag l)=tM l:=by
 cases l with
 |nil=>exact⟨rfl,rfl,rfl⟩
 |cons c r=>
  by_cases h:c=45
  ·subst h;obtain⟨h1,h2,h3⟩:=zY 45 r (by decide);have hm:mag (45::r)=r:=by simp[mag]
   have WI:mag (45::nS r)=nS r:=by simp[mag]
   rw[hm,h1,h2,h3,WI];exact⟨rfl,rfl,rfl⟩
  ·have hm:mag (c::r)=c::r:=by simp[mag,h]
   rw[hm];by_cases h7:c=47
   ·subst h7;obtain⟨h1,-,-⟩:=yN r;rw[h1];exact⟨rfl,rfl,rfl⟩
   ·obtain⟨h1,-,-⟩:=zY c r h7;have WI:mag (c::nS r)=c::nS r:=by simp[mag,h]
    rw[h1,WI];exact⟨rfl,rfl,rfl⟩
abbrev DI(a:ByteArray):Value:=bO #[aM (dY a),aA (bs (mag (nS a.data.toList))),aA (bs (dS a.data.toList)),aM (tM a.data.toList)]
theorem Jw{R:ByteArray}{k:Nat}(hk:k<R.size)(h:∀i(hi:i<R.size),i<k→¬(R[i].toNat:Int)=47)(h47:(R[k].toNat:Int)=47):
 R.extract 0 k=bs (nS R.data.toList)∧R.extract (k+1) R.size=bs (dS R.data.toList)∧tM R.data.toList=true:=by
 obtain⟨h1,h2,h3⟩:=nS_at R.data.toList k hk (fun i hi hik e=>h i hi hik (by
  have:R[i]=47:=e;rw[this];rfl)) (UInt8.toNat_inj.1 (show R[k].toNat=47 by omega))
 refine⟨Em ?_,Em ?_,h3⟩
 ·rw[h1,Lib.extract_data];simp
 ·rw[h2,qF]
theorem Lu{R:ByteArray}(h:∀i(hi:i<R.size),i<R.size→¬(R[i].toNat:Int)=47):nS R.data.toList=R.data.toList∧dS R.data.toList=[]∧tM R.data.toList=false:=by
 refine Lk _ fun c hc=>?_;obtain⟨i,hi,rfl⟩:=fV hc;intro e;exact h i hi hi (by
  have:R[i]=47:=e;rw[this];rfl)
theorem xF{fn:Func}{t u v x:Tmp}(h:fn.results= #[.tmp t,.tmp u,.tmp v,.tmp x])(tmps:Array Value)(P:Program)(w:aE):
 (results fn tmps).run P w=.ok (bO #[tmps.getD t iZ,tmps.getD u iZ,tmps.getD v iZ,tmps.getD x iZ]) w:=by
 simp[results,h]
theorem DJ (a:ByteArray) (w:aE) (FG:a.size≤cA) :
    aQ aC 128 #[aA a] w fun e w' => e=aO (DI a)∧∃ n,w' =w.drewN n:=by
  unfold cA at FG
  unfold DI
  by_cases hn:dY a=true
  · have hs:0 < a.size:=by
      rcases jL a.size with h | h
      · exfalso;rw [dY,dif_neg (by omega)] at hn;cases hn
      · exact h
    have h45:((a[0].toNat:Int)==45)=true:=by rw [← pE a hs];exact hn
    have h45n:a[0].toNat=45:=by
      have h9:(a[0].toNat:Int)=45:=by simpa using h45
      omega
    have hf:a.data.toList.head? =some 45:=(yI a hs).2 h45n
    clear h45n
    obtain⟨R,hR⟩:∃ R,a.extract 1 a.size=R:=⟨_,rfl⟩
    have hRm:R.data.toList=mag a.data.toList:=by
      rw [← hR,mag,ip hf,qF,List.drop_one]
    have hRs:R.size≤a.size:=by
      have e:R.size=R.data.toList.length:=rfl
      rw [e,hRm,gP]
      show a.size - _≤_
      omega
    have HN:aY (dY a=true):=hn
    have HS:aY (bs (mag (nS a.data.toList))=bs (nS R.data.toList)∧bs (dS a.data.toList)=bs (dS R.data.toList)∧tM a.data.toList=tM R.data.toList):=by
      obtain⟨m1,m2,m3⟩:=U7 a.data.toList
      rw [hRm,m1,m2,m3]
      exact⟨rfl,rfl,rfl⟩
    clear hn hf hRm
    go_enter func128,ntmps128
    go_wp2
    go_loopw [8] (fun i wr=> ∃ k:Nat,i=aF aG k∧k≤R.size∧aY (∀ i (hi:i < R.size),i < k→¬ (R[i].toNat:Int)=47)∧wr=w) (fun i _=> R.size - (aK i).toNat)
    case atStart=> exact⟨0,rfl,bR _,fun i _ h=> absurd h (Ib _),rfl⟩
    case round=>
      obtain⟨k,rfl,hk,YF,rfl⟩:=hrel
      by_cases hlt:k < R.size
      · by_cases h47:(R[k].toNat:Int)=47
        · have HF:=zq (Jw hlt YF.out h47)
          have hb47:((R[k].toNat:Int)==47)=true:=by rw [beq_iff_eq];exact h47
          clear h47
          go_wp2
          go_region
          go_wp2
          refine cD (xF Cy _ _ _) rfl ?_
          exact⟨by rw [HN.out,HS.out.1,HS.out.2.1,HS.out.2.2,← HF.out.1,← HF.out.2.1,HF.out.2.2] <;> rfl,_,rfl⟩
        · have hb47:((R[k].toNat:Int)==47)=false:=by rw [beq_eq_false_iff_ne];exact h47
          have Hx:aY (∀ i (hi:i < R.size),i < k + 1→¬ (R[i].toNat:Int)=47):=by
            intro i hi hik
            by_cases e:i=k
            · subst e;exact h47
            · exact YF.out i hi (by omega)
          clear h47
          go_wp2
          go_roundw
          case rel=> exact⟨k + 1,by go_num,by omega,Hx.out,(by first | trivial | rfl)⟩
          case measure=> simp only [aK];omega
      · obtain rfl:k=R.size:=by omega
        have HF:=zq (Lu YF.out)
        go_wp2
        refine cD (xF Cy _ _ _) rfl ?_
        exact⟨by rw [HN.out,HS.out.1,HS.out.2.1,HS.out.2.2,HF.out.1,HF.out.2.1,HF.out.2.2,WG] <;> rfl,0,rfl⟩
  · have hb:dY a=false:=by simpa using hn
    have hf:rF a.data.toList=0:=by rw [rG,iN hn]
    have hRm:a.data.toList=mag a.data.toList:=by
      rw [mag,iN (by intro e;unfold rF at hf;rw [ip e] at hf;cases hf)]
    have HN:aY (dY a=false):=hb
    have HS:aY (bs (mag (nS a.data.toList))=bs (nS a.data.toList)):=by
      show _=_
      rw [← (U7 a.data.toList).1,← hRm]
    have hd0:0 < a.size→((a[0]!.toNat:Int)==45)=false:=by
      intro h
      rw [pE a h] at hb
      rw [getElem!_pos a 0 h]
      exact hb
    clear hn hf hRm
    by_cases h0:0 < a.size
    all_goals
      try (have h45:((a[0].toNat:Int)==45)=false:=by
             have:=hd0 h0
             rwa [getElem!_pos a 0 h0] at this)
      clear hd0 hb
      go_enter func128,ntmps128
      go_wp2
      go_loopw [8] (fun i wr=> ∃ k:Nat,i=aF aG k∧k≤a.size∧aY (∀ i (hi:i < a.size),i < k→¬ (a[i].toNat:Int)=47)∧wr=w) (fun i _=> a.size - (aK i).toNat)
      case atStart=> exact⟨0,rfl,bR _,fun i _ h=> absurd h (Ib _),rfl⟩
      case round=>
        obtain⟨k,rfl,hk,YF,rfl⟩:=hrel
        by_cases hlt:k < a.size
        · by_cases h47:(a[k].toNat:Int)=47
          · have HF:=zq (Jw hlt YF.out h47)
            have hb47:((a[k].toNat:Int)==47)=true:=by rw [beq_iff_eq];exact h47
            clear h47
            go_wp2
            go_region
            go_wp2
            refine cD (xF Cy _ _ _) rfl ?_
            exact⟨by rw [HN.out,HS.out,← HF.out.1,← HF.out.2.1,HF.out.2.2] <;> rfl,_,rfl⟩
          · have hb47:((a[k].toNat:Int)==47)=false:=by rw [beq_eq_false_iff_ne];exact h47
            have Hx:aY (∀ i (hi:i < a.size),i < k + 1→¬ (a[i].toNat:Int)=47):=by
              intro i hi hik
              by_cases e:i=k
              · subst e;exact h47
              · exact YF.out i hi (by omega)
            clear h47
            go_wp2
            go_roundw
            case rel=> exact⟨k + 1,by go_num,by omega,Hx.out,(by first | trivial | rfl)⟩
            case measure=> simp only [aK];omega
        · obtain rfl:k=a.size:=by omega
          have HF:=zq (Lu YF.out)
          go_wp2
          refine cD (xF Cy _ _ _) rfl ?_
          exact⟨by rw [HN.out,HS.out,HF.out.1,HF.out.2.1,HF.out.2.2,WG] <;> rfl,0,rfl⟩
theorem WU(x y:Nat)(w:aE)(hx:x≤9223372036854775807)(hy:y≤9223372036854775807):
 aQ aC 130 #[iv x,iv y] w fun e w'=>e=aO (iv (cM x y))∧∃n,w'=w.drewN n:=by
 go_enter func130,ntmps130;go_wp2;go_loopw[0,1] (fun a b wr=>∃X Y:Nat,a=aF aG X∧b=aF aG Y∧X≤9223372036854775807∧Y≤9223372036854775807∧aY (cM X Y=cM x y)∧∃n,wr=w.drewN n)
  (fun _ b _=>(aK b).toNat)
 case atStart=>exact⟨x,y,rfl,rfl,hx,hy,rfl,0,rfl⟩
 case round=>
  obtain⟨X,Y,rfl,rfl,hX,hY,hg,nd,rfl⟩:=hrel;by_cases hy0:Y=0
  ·subst hy0;have hm:aY (cM x y=X):=by
    show _=_;rw[←hg.out,Nat.gcd_zero_right]
   clear hg;go_wp2;go_ret;exact⟨nJ (by rw[hm.out]),nd,rfl⟩
  ·have hlt:X%Y<Y:=fW _ (by omega);have US:aY (cM Y (X%Y)=cM x y):=by
    show _=_;rw[←hg.out,qZ X,Nat.gcd_rec Y X,qZ]
   obtain⟨R,hR⟩:∃R,X%Y=R:=⟨_,rfl⟩;have hRb:R≤9223372036854775807:=by omega
   have q3:((X:Int))%(Y:Int)=(R:Int):=by rw[←hR,Int.natCast_emod]
   have q1:((X:Int)).tmod (Y:Int)=(R:Int):=(sT (pM _)).trans q3;have q2:IntKind.i64.wrap (R:Int)=(R:Int):=aP _ (by omega);have q0:((Y:Int) !=0)=true:=by rw[bne_iff_ne];omega
   have q4:¬(Y:Int)=0:=by omega
   rw[hR]at US hlt;clear hR hg;go_wp2;go_region;go_wp2;go_roundw;case rel=>exact⟨Y,R,rfl,rfl,hY,hRb,US.out,nd+1,rfl⟩
   case measure=>simp only[aK,Int.toNat_natCast];exact hlt
theorem M0(l:List UInt8)(j:Nat)(b:UInt8)(h:j<l.length):(l.set j b).drop j=b::l.drop (j+1):=by
 rw[rS (by rw[fS];exact h),List.getElem_set_self,List.drop_set];simp
theorem Jy(N:Nat)(w:aE)(hN:N≤9223372036854775807):
 aQ aC 152 #[iv N] w (Rt (aA (bs (bW N))) w):=by
 have hN19:N<10^19:=by omega
 go_enter func152,ntmps152;go_wp2_with (at_make;refine Lb rfl _ _ rfl w.heap.size _ 20 rfl rfl rfl (by omega) (aD _) ?_;intro w1 eF gH)
 have gG:aJ w.heap.size w w1:=(aI _ w).grown gH (aD _) (fun k hk=>by cases hk);have hg1:w.heap.size<w1.heap.size:=(dJ eF).2.1;have HO:aY (∃l:List UInt8,w1.ownsRow w.heap.size 5 1 (.slice (some ⟨w.heap.size,0,none⟩) 20 20) 20 (l.map bv)∧l.length=20∧(0<0→N≠0)∧N<10^(19-0)∧bW N++l.drop (20-0)=bW N):=
  ⟨_,eF,by simp,by simp,hN19,by simp⟩
 clear eF gH hN19;generalize hg:w.heap.size=g at *;have Hg:=zq hg;go_loopw[0,4] (fun a i wr=>∃n k:Nat,a=aF aG n∧i=aF aG (20-(k:Int))∧n≤9223372036854775807∧k≤18∧g<wr.heap.size∧aJ g w wr∧
  aY (∃l:List UInt8,wr.ownsRow g 5 1 (.slice (some ⟨g,0,none⟩) 20 20) 20 (l.map bv)∧l.length=20∧(0<k→n≠0)∧n<10^(19-k)∧bW n++l.drop (20-k)=bW N))
  (fun a _ _=>(aK a).toNat)
 case atStart=>exact⟨N,0,rfl,rfl,hN,by omega,hg1,gG,HO.out⟩
 case round=>
  obtain⟨n,k,rfl,rfl,hn,hk,hgw,hB,hO⟩:=hrel;clear gG hg1 HO hg;obtain⟨l,o1,o2,o3,o4,o5⟩:=hO.out;clear hO;obtain⟨j,hj⟩:∃j,19-k=j:=⟨_,rfl⟩;have hji:(20:Int)-(k:Int)-1=(j:Int):=by omega
  have hj2:j≤19:=by omega
  have hj0:(0:Int)≤(j:Int):=by omega
  obtain⟨d,hd⟩:∃d,n%10=d:=⟨_,rfl⟩;have hd9:d<10:=by omega
  obtain⟨m,hm⟩:∃m,n/10=m:=⟨_,rfl⟩;have hm9:m≤9223372036854775807:=by omega
  obtain⟨B,hBt⟩:∃B:UInt8,B=UInt8.ofNat (48+d):=⟨_,rfl⟩;have hBn:B.toNat=48+d:=by rw[hBt];exact(rT d hd9).2
  have q1:(n:Int)%10=(d:Int):=by omega
  have q2:(n:Int)/10=(m:Int):=by omega
  have q3:(n:Int).tmod 10=(d:Int):=(sT (pM _)).trans q1;have q4:(n:Int).tdiv 10=(m:Int):=(jO (pM _)).trans q2;have ev:bv B=aF .u8 (48+(d:Int)):=by show aF .u8 (B.toNat:Int)=_;congr 1;omega
  have hc:=CG o1 (show j<20 by omega);have hf:=eO o1 j;have hset:=F6 o1 j B;rw[ev]at hset;clear ev;generalize hz:l.getD j 0=Z at hc;clear hz;have hdd:bW N=(if n<10 then[]else bW m)++((l.set j B).drop j):=by
   rw[M0 l j B (by omega),←o5,show 20-k=j+1 by omega];by_cases h10:n<10
   ·rw[ip h10,jA h10,hBt,←hd,Nat.mod_eq_of_lt h10];rfl
   ·rw[iN h10,oW h10,hd,hm,hBt];simp
  have U8:=zq (And.intro hset (And.intro o2 (And.intro o4 hdd)));have Hj:=zq hj;have Hm:=zq hm;clear hset o1 o2 o3 o4 o5 hdd hj hd hm hBt;by_cases hm0:m=0
  ·subst hm0;have WM:=Lc (w:=wr.setCell ⟨g,j,none⟩ (aF .u8 (48+(d:Int)))) (g:=g) (off:=j) (n:=20-j) (cap:=20-j) ((l.set j B).drop j) (by have:=U8.out.2.1;simp[this]) (by
    intro i hi;rw[CG U8.out.1 (by omega)];simp[aN])
   have wn:n<10:=by have:=Hm.out;omega
   have Gi:aY (bW N=(l.set j B).drop j):=by show _=_;rw[U8.out.2.2.2,ip wn];rfl
   rw[←Gi.out]at WM;clear wn;go_wp2;go_ret;exact⟨rfl,by rw[Hg.out];exact hB.setCell (p:=⟨g,j,none⟩) (aD _) _⟩
  ·have hmb:((m:Int)==0)=false:=by rw[beq_eq_false_iff_ne];omega
   go_wp2;go_roundw;case rel=>
    have hmlt:m<10^(19-(k+1)):=by
     have h4:=U8.out.2.2.1;rw[←Hm.out];rw[show 19-k=19-(k+1)+1 by omega,dN]at h4;exact Nat.div_lt_of_lt_mul (by rw[cK];exact h4)
    have hk17:k+1≤18:=by
     rcases fC (k+1) 19 with h|h
     ·omega
     ·exfalso;rw[show 19-(k+1)=0 by omega]at hmlt;omega
    have wn:¬n<10:=by have:=Hm.out;omega
    exact⟨m,k+1,rfl,by congr 1;omega,hm9,hk17,by rw[World.size_setCell];exact hgw,hB.setCell (p:=⟨g,j,none⟩) (aD _) _,l.set j B,U8.out.1,by rw[fS];exact U8.out.2.1,fun _=>hm0,hmlt,by
     rw[show 20-(k+1)=j by have:=Hj.out;omega,U8.out.2.2.2,iN wn]⟩
   case measure=>simp only[aK];have:=Hm.out;omega
end
section
open Go Go.RowKit Go.Lib
theorem Kc(n:Int)(d:Nat)(hd:d≠0):(n/((cM n.natAbs d:Nat):Int)).natAbs=n.natAbs/cM n.natAbs d∧(n/((cM n.natAbs d:Nat):Int)<0↔n<0):=by
 have Jr:0<cM n.natAbs d:=QZ _ (by omega);have MO:cM n.natAbs d∣n.natAbs:=uz _ _;obtain⟨m,hm⟩:=MO;generalize cM n.natAbs d=g at *;have hmd:n.natAbs/g=m:=by rw[hm,cK];exact Nat.mul_div_cancel _ Jr
 rcases Int.lt_or_le n 0 with h|h
 ·have e:n= -(m:Int)*(g:Int):=by
   have:((n.natAbs:Nat):Int)=((g*m:Nat):Int):=by rw[hm]
   rw[gZ,sC]at this;rw[Int.neg_mul];omega
  have e2:n/(g:Int)= -(m:Int):=by
   rw[e];exact bd _ (by omega)
  have hm0:m≠0:=by rintro rfl;rw[Nat.mul_zero]at hm;omega
  rw[e2,hmd];exact⟨by omega,by omega⟩
 ·have e:n=(m:Int)*(g:Int):=by
   have:((n.natAbs:Nat):Int)=((g*m:Nat):Int):=by rw[hm]
   rw[gZ,sC]at this;omega
  have e2:n/(g:Int)=(m:Int):=by
   rw[e];exact bd _ (by omega)
  rw[e2,hmd];exact⟨by omega,by omega⟩
theorem wt(n:Int)(d:Nat)(hd:d≠0):aV (mkRat n d)=(if n<0 then[45]else[])++bW (n.natAbs/cM n.natAbs d)++(if d/cM n.natAbs d=1 then[]else 47::bW (d/cM n.natAbs d)):=by
 obtain⟨h1,h2⟩:=vY n d hd;obtain⟨k1,k2⟩:=Kc n d hd;have hi:bL (mkRat n d).num=(if n<0 then[45]else[])++bW (n.natAbs/cM n.natAbs d):=by
  rw[h1];by_cases h:n<0
  ·rw[ip h,rE (k2.2 h),k1];rfl
  ·rw[iN h,gO (by have:=mt k2.1 h;omega),k1];rfl
 rw[aV,h2,hi];by_cases h:d/cM n.natAbs d=1
 ·rw[ip h,ip h,nX]
 ·rw[iN h,iN h]
theorem Ev(N:Nat)(h:N≤9223372036854775807):(bW N).length≤19:=by
 rw[cJ _ _ (by decide)];omega
theorem AP(n:Int)(d:Nat)(w:aE)(hn: -9223372036854775807≤n)(hn2:n≤9223372036854775807)(hd:d≠0)(MY:d≤9223372036854775807):
 aQ aC 89 #[aF aG n,iv d] w (Rt (aA (bs (aV (mkRat n d)))) w):=by
 rw[wt n d hd];have Jr:0<cM n.natAbs d:=QZ _ (by omega);have FD:cM n.natAbs d≤d:=Nat.gcd_le_right _ (by omega);obtain⟨m,hm⟩:∃m,n.natAbs=m:=⟨_,rfl⟩;rw[hm]at Jr FD⊢;have hmb:m≤9223372036854775807:=by omega
 have gj:=zq (fun W=>WU m d W hmb MY);obtain⟨g,hg⟩:∃g,cM m d=g:=⟨_,rfl⟩;rw[hg]at Jr FD gj⊢;have hgb:g≤9223372036854775807:=by omega
 obtain⟨P,hP⟩:∃P,m/g=P:=⟨_,rfl⟩;obtain⟨Q,hQ⟩:∃Q,d/g=Q:=⟨_,rfl⟩;have hPb:P≤9223372036854775807:=by rw[←hP];exact cC (lZ _ _) hmb
 have hQb:Q≤9223372036854775807:=by rw[←hQ];exact cC (lZ _ _) MY
 rw[hP,hQ];have Hp:=zq (fun W=>Jy P W hPb);have Hq:=zq (fun W=>Jy Q W hQb);have lP:=Ev P hPb;have lQ:=Ev Q hQb;have p2:(m:Int)/(g:Int)=(P:Int):=by rw[←hP,Nv]
 have p1:(m:Int).tdiv (g:Int)=(P:Int):=(jO (pM _)).trans p2;have p4:(d:Int)/(g:Int)=(Q:Int):=by rw[←hQ,Nv]
 have p3:(d:Int).tdiv (g:Int)=(Q:Int):=(jO (pM _)).trans p4;have p5:IntKind.i64.wrap (P:Int)=(P:Int):=aP _ (by omega);have p6:IntKind.i64.wrap (Q:Int)=(Q:Int):=aP _ (by omega);have p7:¬(g:Int)=0:=by omega
 by_cases hneg:n<0
 ·have r0:IntKind.i64.wrap (-n)=(m:Int):=by rw[show -n=(m:Int) by omega];exact aP _ (by omega)
  obtain⟨A,hA⟩:∃A:List UInt8,[45]++bW P=A:=⟨_,rfl⟩;obtain⟨A2,QN⟩:∃A2:List UInt8,A++[47]=A2:=⟨_,rfl⟩;obtain⟨A3,WV⟩:∃A3:List UInt8,A2++bW Q=A3:=⟨_,rfl⟩;have lA:A.length≤20:=by rw[←hA,cU];simp only[cO,eW];omega
  have lA2:A2.length≤21:=by rw[←QN,cU];simp only[cO,eW];omega
  have cat1:∀W,(mP .add {data:= #[45]} (bs (bW P))).run aC W=.ok (aA (bs A)) W:=by rw[←hA];exact fun W=>eX W [45] (bW P) (by decide) (by omega)
  have cat2:∀W,(mP .add (bs A) {data:= #[47]}).run aC W=.ok (aA (bs A2)) W:=by rw[←QN];exact fun W=>eX W A [47] (by omega) (by decide)
  have cat3:∀W,(mP .add (bs A2) (bs (bW Q))).run aC W=.ok (aA (bs A3)) W:=by rw[←WV];exact fun W=>eX W A2 (bW Q) (by omega) (by omega)
  by_cases h1:Q=1
  ·have hb1:((Q:Int)==1)=true:=by rw[beq_iff_eq];omega
   have HR:(if n<0 then[45]else[])++bW P++(if Q=1 then[]else 47::bW Q)=A:=by
    rw[ip hneg,ip h1,nX,hA]
   rw[HR];clear hm hg hP hQ h1 HR hA QN WV cat2 cat3;go_enter KN,Jd;go_wp2_with fail
   refine(gj.out _).mono ?_;rintro e w1⟨rfl,nd,rfl⟩;go_wp2_with fail
   refine(Hp.out _).mono ?_;rintro e w2⟨rfl,hb2⟩;have eQ:aJ w.heap.size w w2:=iD (bH (aI _ w) nd) hb2;go_wp2;go_ret;exact⟨rfl,eQ⟩
  ·have hb1:((Q:Int)==1)=false:=by rw[beq_eq_false_iff_ne];omega
   have HR:(if n<0 then[45]else[])++bW P++(if Q=1 then[]else 47::bW Q)=A3:=by
    rw[ip hneg,iN h1,hA,←WV,←QN,Ch];rfl
   rw[HR];clear hm hg hP hQ h1 HR hA QN WV;go_enter KN,Jd;go_wp2_with fail
   refine(gj.out _).mono ?_;rintro e w1⟨rfl,nd,rfl⟩;go_wp2_with fail
   refine(Hp.out _).mono ?_;rintro e w2⟨rfl,hb2⟩;have eQ:aJ w.heap.size w w2:=iD (bH (aI _ w) nd) hb2;go_wp2_with fail
   refine(Hq.out _).mono ?_;rintro e w3⟨rfl,hb3⟩;have fN:=aH eQ hb3 eQ.size;go_wp2;go_ret;exact⟨rfl,fN⟩
 ·obtain rfl:n=(m:Int):=by omega
  clear hneg;obtain⟨A,hA⟩:∃A:List UInt8,[]++bW P=A:=⟨_,rfl⟩;obtain⟨A2,QN⟩:∃A2:List UInt8,A++[47]=A2:=⟨_,rfl⟩;obtain⟨A3,WV⟩:∃A3:List UInt8,A2++bW Q=A3:=⟨_,rfl⟩;have lA:A.length≤20:=by rw[←hA,cU];simp only[cO,eW];omega
  have lA2:A2.length≤21:=by rw[←QN,cU];simp only[cO,eW];omega
  have cat1:∀W,(mP .add {data:= #[]} (bs (bW P))).run aC W=.ok (aA (bs A)) W:=by rw[←hA];exact fun W=>eX W [] (bW P) (by decide) (by omega)
  have cat2:∀W,(mP .add (bs A) {data:= #[47]}).run aC W=.ok (aA (bs A2)) W:=by rw[←QN];exact fun W=>eX W A [47] (by omega) (by decide)
  have cat3:∀W,(mP .add (bs A2) (bs (bW Q))).run aC W=.ok (aA (bs A3)) W:=by rw[←WV];exact fun W=>eX W A2 (bW Q) (by omega) (by omega)
  by_cases h1:Q=1
  ·have hb1:((Q:Int)==1)=true:=by rw[beq_iff_eq];omega
   have HR:(if(m:Int)<0 then[45]else[])++bW P++(if Q=1 then[]else 47::bW Q)=A:=by
    rw[iN (by omega),ip h1,nX,hA]
   rw[HR];clear hm hg hP hQ h1 HR hA QN WV cat2 cat3;go_enter KN,Jd;go_wp2_with fail
   refine(gj.out _).mono ?_;rintro e w1⟨rfl,nd,rfl⟩;go_wp2_with fail
   refine(Hp.out _).mono ?_;rintro e w2⟨rfl,hb2⟩;have eQ:aJ w.heap.size w w2:=iD (bH (aI _ w) nd) hb2;go_wp2;go_ret;exact⟨rfl,eQ⟩
  ·have hb1:((Q:Int)==1)=false:=by rw[beq_eq_false_iff_ne];omega
   have HR:(if(m:Int)<0 then[45]else[])++bW P++(if Q=1 then[]else 47::bW Q)=A3:=by
    rw[iN (by omega),iN h1,hA,←WV,←QN,Ch];rfl
   rw[HR];clear hm hg hP hQ h1 HR hA QN WV;go_enter KN,Jd;go_wp2_with fail
   refine(gj.out _).mono ?_;rintro e w1⟨rfl,nd,rfl⟩;go_wp2_with fail
   refine(Hp.out _).mono ?_;rintro e w2⟨rfl,hb2⟩;have eQ:aJ w.heap.size w w2:=iD (bH (aI _ w) nd) hb2;go_wp2_with fail
   refine(Hq.out _).mono ?_;rintro e w3⟨rfl,hb3⟩;have fN:=aH eQ hb3 eQ.size;go_wp2;go_ret;exact⟨rfl,fN⟩
def Pd(m:Bool)(N:List UInt8)(s:Bool)(D:List UInt8):Int:=
 if(nZ N&&(!m||N !=[48])&&(!s||(nZ D&&D !=[48]&&D !=[49])))=true then
  (if 300<N.length∨300<D.length then 4 else if cM (num N) (if s=true then num D else 1)=1 then 0 else 11)else 11
theorem DK(a:ByteArray):dY a=decide ((nS a.data.toList).head? =some 45):=by
 have h1:dY a=decide (a.data.toList.head? =some 45):=by
  have:=rG a;unfold rF at this;by_cases h:a.data.toList.head? =some 45
  ·rw[ip h]at this;by_cases k:dY a=true
   ·simp[h,k]
   ·rw[iN k]at this;cases this
  ·rw[iN h]at this;by_cases k:dY a=true
   ·rw[ip k]at this;cases this
   ·simp[h,k]
 rw[h1];congr 1;cases h:a.data.toList with
 |nil=>rfl
 |cons c r=>
  by_cases h7:c=47
  ·subst h7;rw[(yN r).1];simp
  ·rw[(zY c r h7).1];simp
theorem WW(a:ByteArray):cQ a.data.toList=Pd (dY a) (mag (nS a.data.toList)) (tM a.data.toList) (dS a.data.toList):=by
 unfold cQ Pd RV wS zZ;rw[DK,qN,gR,qD];have e1:((nS a.data.toList).head? !=some 45||mag (nS a.data.toList) !=[48])=(!decide ((nS a.data.toList).head? =some 45)||mag (nS a.data.toList) !=[48]):=by
  congr 1;by_cases h:(nS a.data.toList).head? =some 45<;>simp[h]
 rw[e1];simp only[iB,decide_eq_true_eq]
theorem vC(l:List UInt8)(c:List UInt8):((bs l).toList==c)=(l==c):=by rw[cI];rfl
abbrev Sb(a X Y:ByteArray)(m s:Bool):Prop:=aY (∀W,aQ aC 128 #[aA a] W fun e w'=>e=aO (bO #[aM m,aA X,aA Y,aM s])∧∃n,w'=W.drewN n)
abbrev Gj(X:ByteArray)(b:Bool):Prop:=aY (∀W,aQ aC 129 #[aA X] W fun e w'=>e=aO (aM b)∧W=w')
abbrev M3(a:ByteArray)(w:aE)(r:Int):Prop:=aQ aC 70 #[aA a] w (Rt (aF aG r) w)
theorem zA{p:Prop}(h:p:=by
 delta M3;go_enter KO,Je;go_wp2_with fail
 refine(Hsp.out _).mono ?_;rintro e w1⟨rfl,nd,rfl⟩;have hB:=bH (aI w.heap.size w) nd;go_wp2_with fail
 refine(Hx.out _).mono ?_;rintro e w2⟨rfl,rfl⟩;go_wp2;go_ret;exact⟨rfl,by first |exact hB|exact bH (aI _ _) _⟩):p:=h
theorem zB{p:Prop}(h:p:=by
 delta M3;go_enter KO,Je;go_wp2_with fail
 refine(Hsp.out _).mono ?_;rintro e w1⟨rfl,nd,rfl⟩;have hB:=bH (aI w.heap.size w) nd;go_wp2_with fail
 refine(Hx.out _).mono ?_;rintro e w2⟨rfl,rfl⟩;go_wp2_with fail
 refine(Hy.out _).mono ?_;rintro e w2⟨rfl,rfl⟩;go_wp2;go_ret;exact⟨rfl,by first |exact hB|exact bH (aI _ _) _⟩):p:=h
theorem zS{p:Prop}(h:p:=by
 delta M3;go_enter KO,Je;go_wp2_with fail
 refine(Hsp.out _).mono ?_;rintro e w1⟨rfl,nd,rfl⟩;have hB:=bH (aI w.heap.size w) nd;go_wp2_with fail
 refine(Hx.out _).mono ?_;rintro e w2⟨rfl,rfl⟩;go_wp2_with fail
 refine(Hy.out _).mono ?_;rintro e w2⟨rfl,rfl⟩;go_wp2_with fail
 refine(Hs1.out _).mono ?_;rintro e w2⟨rfl,rfl⟩;go_wp2_with fail
 refine(Hs2.out _).mono ?_;rintro e w2⟨rfl,rfl⟩;go_wp2_with fail
 refine(Hg.out _).mono ?_;rintro e w2⟨rfl,nd2,rfl⟩;have hB:=bH hB nd2;go_wp2;go_ret;exact⟨rfl,by first |exact hB|exact bH (aI _ _) _⟩):p:=h
theorem zG{p:Prop}(h:p:=by
 delta M3;go_enter KO,Je;go_wp2_with fail
 refine(Hsp.out _).mono ?_;rintro e w1⟨rfl,nd,rfl⟩;have hB:=bH (aI w.heap.size w) nd;go_wp2_with fail
 refine(Hx.out _).mono ?_;rintro e w2⟨rfl,rfl⟩;go_wp2_with fail
 refine(Hy.out _).mono ?_;rintro e w2⟨rfl,rfl⟩;go_wp2_with fail
 refine(HG.out _ (hE.out.below hB)).mono ?_;rintro e w2⟨rfl,hb2⟩;have hB:=aH hB hb2 hB.size;go_wp2;go_ret;exact⟨rfl,by first |exact hB|exact bH (aI _ _) _⟩):p:=h
theorem Sc(a X Y:ByteArray)(m s oy:Bool)(w:aE)(hE:aY (eZ w))(Hsp:Sb a X Y m s)(Hx:Gj X false):M3 a w 11:=zA
theorem Sd(a X Y:ByteArray)(m:Bool)(w:aE)(hE:aY (eZ w))(Hsp:Sb a X Y m true)(Hx:Gj X true)(Hy:Gj Y false):M3 a w 11:=zB
theorem Se(a X Y:ByteArray)(m:Bool)(w:aE)(hE:aY (eZ w))(Hsp:Sb a X Y m true)(Hx:Gj X true)(Hy:Gj Y true)(y0:(Y.toList==[48])=true):M3 a w 11:=zB
theorem Sf(a X Y:ByteArray)(m:Bool)(w:aE)(hE:aY (eZ w))(Hsp:Sb a X Y m true)(Hx:Gj X true)(Hy:Gj Y true)(y0:(Y.toList==[48])=false)(y1:(Y.toList==[49])=true):M3 a w 11:=zB
theorem Sg(a X Y:ByteArray)(w:aE)(hE:aY (eZ w))(Hsp:Sb a X Y true true)(Hx:Gj X true)(Hy:Gj Y true)(y0:(Y.toList==[48])=false)(y1:(Y.toList==[49])=false)(x0:(X.toList==[48])=true):M3 a w 11:=zB
theorem Sh(a X Y:ByteArray)(w:aE)(hE:aY (eZ w))(Hsp:Sb a X Y true false)(Hx:Gj X true)(x0:(X.toList==[48])=true):M3 a w 11:=zA
section
abbrev Sm2(X:ByteArray)(P:Nat):Prop:=aY (∀W,aQ aC 131 #[aA X] W fun e w'=>e=aO (iv P)∧W=w')
variable(a X Y:ByteArray)(m:Bool)(w:aE)
theorem ET(hE:aY (eZ w))(Hsp:Sb a X Y m false)(Hx:Gj X true)(x0:m=true→(X.toList==[48])=false)(lx:300<(X.size:Int)):M3 a w 4:=by
 cases m
 ·clear x0;exact zA
 ·have x1:=x0 rfl;clear x0;exact zA
theorem EU(hE:aY (eZ w))(Hsp:Sb a X Y m false)(Hx:Gj X true)(x0:m=true→(X.toList==[48])=false)(lx:¬300<(X.size:Int))(ly:300<(Y.size:Int)):M3 a w 4:=by
 cases m
 ·clear x0;exact zA
 ·have x1:=x0 rfl;clear x0;exact zA
theorem EV(hE:aY (eZ w))(Hsp:Sb a X Y m false)(Hx:Gj X true)(x0:m=true→(X.toList==[48])=false)(lx:¬300<(X.size:Int))(ly:¬300<(Y.size:Int)):M3 a w 0:=by
 cases m
 ·clear x0;exact zA
 ·have x1:=x0 rfl;clear x0;exact zA
theorem Gk(hE:aY (eZ w))(Hsp:Sb a X Y m true)(Hx:Gj X true)(Hy:Gj Y true)(x0:m=true→(X.toList==[48])=false)(y0:(Y.toList==[48])=false)(y1:(Y.toList==[49])=false)(lx:300<(X.size:Int)):M3 a w 4:=by
 cases m
 ·clear x0;exact zB
 ·have x1:=x0 rfl;clear x0;exact zB
theorem Gl(hE:aY (eZ w))(Hsp:Sb a X Y m true)(Hx:Gj X true)(Hy:Gj Y true)(x0:m=true→(X.toList==[48])=false)(y0:(Y.toList==[48])=false)(y1:(Y.toList==[49])=false)(lx:¬300<(X.size:Int))(ly:300<(Y.size:Int)):M3 a w 4:=by
 cases m
 ·clear x0;exact zB
 ·have x1:=x0 rfl;clear x0;exact zB
theorem Gm(hE:aY (eZ w))(Hsp:Sb a X Y m true)(Hx:Gj X true)(Hy:Gj Y true)(x0:m=true→(X.toList==[48])=false)(y0:(Y.toList==[48])=false)(y1:(Y.toList==[49])=false)(lx:¬300<(X.size:Int))(ly:¬300<(Y.size:Int))(sx:(X.size:Int)≤9)(sy:(Y.size:Int)≤9)(P Q G:Nat)(Hs1:Sm2 X P)(Hs2:Sm2 Y Q)(Hg:aY (∀W,aQ aC 130 #[iv P,iv Q] W fun e w'=>e=aO (iv G)∧∃n,w'=W.drewN n))(g1:((G:Int) !=1)=false):M3 a w 0:=by
 cases m
 ·clear x0;exact zS
 ·have x1:=x0 rfl;clear x0;exact zS
theorem EW(hE:aY (eZ w))(Hsp:Sb a X Y m true)(Hx:Gj X true)(Hy:Gj Y true)(x0:m=true→(X.toList==[48])=false)(y0:(Y.toList==[48])=false)(y1:(Y.toList==[49])=false)(lx:¬300<(X.size:Int))(ly:¬300<(Y.size:Int))(sx:(X.size:Int)≤9)(sy:(Y.size:Int)≤9)(P Q G:Nat)(Hs1:Sm2 X P)(Hs2:Sm2 Y Q)(Hg:aY (∀W,aQ aC 130 #[iv P,iv Q] W fun e w'=>e=aO (iv G)∧∃n,w'=W.drewN n))(g1:((G:Int) !=1)=true):M3 a w 11:=by
 cases m
 ·clear x0;exact zS
 ·have x1:=x0 rfl;clear x0;exact zS
theorem Gn(hE:aY (eZ w))(Hsp:Sb a X Y m true)(Hx:Gj X true)(Hy:Gj Y true)(x0:m=true→(X.toList==[48])=false)(y0:(Y.toList==[48])=false)(y1:(Y.toList==[49])=false)(lx:¬300<(X.size:Int))(ly:¬300<(Y.size:Int))(sx:¬(X.size:Int)≤9)(S:ByteArray)(c:Int)(HG:aY (∀W,eZ W→aQ aC 132 #[aA X,aA Y] W (Rt (bO #[aA S,aF aG c]) W)))(g1:(S.toList==[49])=true)(g2:(S.toList !=[49])=false):M3 a w 0:=by
 cases m
 ·clear x0;exact zG
 ·have x1:=x0 rfl;clear x0;exact zG
theorem Gp(hE:aY (eZ w))(Hsp:Sb a X Y m true)(Hx:Gj X true)(Hy:Gj Y true)(x0:m=true→(X.toList==[48])=false)(y0:(Y.toList==[48])=false)(y1:(Y.toList==[49])=false)(lx:¬300<(X.size:Int))(ly:¬300<(Y.size:Int))(sx:(X.size:Int)≤9)(sy:¬(Y.size:Int)≤9)(S:ByteArray)(c:Int)(HG:aY (∀W,eZ W→aQ aC 132 #[aA X,aA Y] W (Rt (bO #[aA S,aF aG c]) W)))(g1:(S.toList==[49])=true)(g2:(S.toList !=[49])=false):M3 a w 0:=by
 cases m
 ·clear x0;exact zG
 ·have x1:=x0 rfl;clear x0;exact zG
theorem EZ(hE:aY (eZ w))(Hsp:Sb a X Y m true)(Hx:Gj X true)(Hy:Gj Y true)(x0:m=true→(X.toList==[48])=false)(y0:(Y.toList==[48])=false)(y1:(Y.toList==[49])=false)(lx:¬300<(X.size:Int))(ly:¬300<(Y.size:Int))(sx:¬(X.size:Int)≤9)(S:ByteArray)(c:Int)(HG:aY (∀W,eZ W→aQ aC 132 #[aA X,aA Y] W (Rt (bO #[aA S,aF aG c]) W)))(g1:(S.toList==[49])=false)(g2:(S.toList !=[49])=true):M3 a w 11:=by
 cases m
 ·clear x0;exact zG
 ·have x1:=x0 rfl;clear x0;exact zG
theorem E0(hE:aY (eZ w))(Hsp:Sb a X Y m true)(Hx:Gj X true)(Hy:Gj Y true)(x0:m=true→(X.toList==[48])=false)(y0:(Y.toList==[48])=false)(y1:(Y.toList==[49])=false)(lx:¬300<(X.size:Int))(ly:¬300<(Y.size:Int))(sx:(X.size:Int)≤9)(sy:¬(Y.size:Int)≤9)(S:ByteArray)(c:Int)(HG:aY (∀W,eZ W→aQ aC 132 #[aA X,aA Y] W (Rt (bO #[aA S,aF aG c]) W)))(g1:(S.toList==[49])=false)(g2:(S.toList !=[49])=true):M3 a w 11:=by
 cases m
 ·clear x0;exact zG
 ·have x1:=x0 rfl;clear x0;exact zG
end
end
section
open Go
open Go.Lib (hasPrefix trimPrefix)
theorem xG(l:List UInt8):Ba l [45]=decide (l.head? =some 45):=by
 cases l with
 |nil=>rfl
 |cons c r=>
  by_cases h:c=45
  ·subst h;rfl
  ·have h':¬(45:UInt8)=c:=fun e=>h e.symm;simp[Ba,List.isPrefixOf,h,h']
theorem pZ(l:List UInt8):JX l [45]=mag l:=by
 unfold JX mag;rw[xG];by_cases h:l.head? =some 45
 ·rw[ip (by simp[h]),ip h];cases l<;>simp
 ·rw[iN (by simp[h]),iN h]
def Iy(l:List UInt8)(k:Nat):Nat:=num (l.drop (l.length-k))
theorem YG(l:List UInt8):Iy l 0=0:=by unfold Iy;rw[jK (by omega)];rfl
theorem gm(l:List UInt8):Iy l l.length=num l:=by unfold Iy;rw[Nat.sub_self,H4]
theorem wu(l:List UInt8)(h:l.all dG=true)(k:Nat)(hk:k≤l.length):Iy l k<10^k:=by
 have:=nM (l.drop (l.length-k)) (by
  rw[oT]at h⊢;exact fun x hx=>h x (List.mem_of_mem_drop hx))
 rwa[kK,show l.length-(l.length-k)=k by omega]at this
theorem YH(l:List UInt8)(k:Nat)(hk:k<l.length):Iy l (k+1)=((l.getD (l.length-1-k) 0).toNat-48)*10^k+Iy l k:=by
 unfold Iy;have e:l.length-(k+1)=l.length-1-k:=by omega
 have hi:l.length-1-k<l.length:=by omega
 rw[e,rS hi,KU,kK,show l.length-1-k+1=l.length-k by omega,show l.length-(l.length-k)=k by omega];simp[aN,hi]
theorem Pe{B:Nat}(os:List Nat)(i u:Nat)(hi:i<os.length)(h:bS B os<B^i*u):os.getD i 0<u:=by
 have h1:=nQ B os i (by omega);have h2:=fO B os i hi;have h3:B^i*os.getD i 0≤B^i*bS B (os.drop i):=mT _ (by rw[h2];omega);rcases fC (os.getD i 0) u with h4|h4
 ·exact h4
 ·have:=mT (B^i) h4;omega
theorem NL(k:Nat):10^k=PB^(k/9)*10^(k%9):=by
 rw[show PB=10^9 from rfl,←Nat.pow_mul,←qU];congr 1;omega
theorem Lv(l:List UInt8)(os:List Nat)(k d u:Nat)(hk:k<l.length)(hi:k/9<os.length)(hv:bS PB os=Iy l k)(hd:l.all dG=true)
 (hu:u=10^(k%9))(hdd:(l.getD (l.length-1-k) 0).toNat-48=d)(h9:d≤9):
 os.getD (k/9) 0+d*u<PB∧bS PB (os.set (k/9) (os.getD (k/9) 0+d*u))=Iy l (k+1):=by
 have h1:=wu l hd k (by omega);have h2:os.getD (k/9) 0<u:=Pe (B:=PB) os (k/9) u hi (by rw[hv,hu,←NL];exact h1);have h3:10^(k%9)*10≤PB:=by
  have:k%9<9:=fW _ (by decide);rw[←dN,show PB=10^9 from rfl];exact bN (by decide) (by omega)
 have h4:d*u≤9*u:=eG _ h9;refine⟨by omega,?_⟩;have h5:=FV PB os (k/9) (os.getD (k/9) 0+d*u) hi;rw[Nat.mul_add]at h5;have h6:=YH l k hk;rw[hdd]at h6;have h7:PB^(k/9)*(d*u)=d*10^k:=by
  rw[hu,NL k,Nat.mul_left_comm]
 omega
theorem NM{k u:Nat}(h:u=10^(k%9))(h2:(k+1)%9≠0):u*10=10^((k+1)%9):=by
 rw[h,←dN];congr 1;omega
theorem WX{k u:Nat}(h:u=10^(k%9)):u≤100000000:=by
 have:k%9<9:=fW _ (by decide);rw[h];exact cC (bN (by decide) (show k%9≤8 by omega)) (by decide)
theorem gn{k:Nat}(h:k%9=0):1=10^(k%9):=by rw[h]
end
section
open Go
open Go.Lib (trimS trimLeftS trimRightS)
def tP:List UInt8:=[48,49,50,51,52,53,54,55,56,57]
theorem Gq(c:UInt8):tP.contains c=dG c:=by
 rw[Bool.eq_iff_iff];simp only[tP,dG,List.contains_cons,List.contains_nil,Bool.or_false,iB,beq_iff_eq,bT,decide_eq_true_eq,←UInt8.toNat_inj];simp;omega
theorem U9{α:Type}(p:α→Bool):∀l:List α,l.dropWhile p=[]↔∀x∈l,p x=true
 |[]=>by simp
 |a::l=>by
  rw[Fz]
  by_cases h:p a=true
  ·rw[ip h,U9 p l];simp[h]
  ·rw[iN h];simp[h]
theorem WY{α:Type}(p:α→Bool):∀(l:List α)(c:α)(r:List α),l.dropWhile p=c::r→p c=false
 |[],_,_,h=>by cases h
 |a::l,c,r,h=>by
  rw[Fz]at h
  by_cases k:p a=true
  ·rw[ip k]at h;exact WY p l c r h
  ·rw[iN k]at h;injection h with h1 h2;subst h1;simpa using k
theorem gp{α:Type}(p:α→Bool):∀(l:List α)(x:α),x∈l.dropWhile p→x∈l
 |[],_,h=>by cases h
 |a::l,x,h=>by
  rw[Fz]at h
  by_cases k:p a=true
  ·rw[ip k]at h;exact List.mem_cons_of_mem _ (gp p l x h)
  ·rw[iN k]at h;exact h
theorem DM(l:List UInt8):trimS l tP=[]↔l.all dG=true:=by
 have hall:(∀x∈l,tP.contains x=true)↔l.all dG=true:=by
  rw[oT];exact forall_congr' fun x=>by rw[Gq]
 rw[←hall];unfold trimS trimLeftS trimRightS;rw[U9];constructor
 ·intro h;cases he:List.dropWhile (fun x=>tP.contains x) l.reverse with
  |nil=>
   rw[U9]at he;exact fun x hx=>he x (List.mem_reverse.2 hx)
  |cons c r=>
   have h1:=WY _ _ _ _ he;have h2:=h c (List.mem_reverse.2 (by rw[he];exact List.mem_cons_self));rw[h1]at h2;cases h2
 ·intro h x hx;exact h x (List.mem_reverse.1 (gp _ _ _ (List.mem_reverse.1 hx)))
theorem YI{l:List UInt8}(h:mag l=[]):jE l=11:=by simp[jE,wS,nZ,h]
theorem gt{l:List UInt8}(h:(mag l).head? =some 48)(h2:l≠[48]):jE l=11:=by
 by_cases h1:(mag l).length=1
 ·have hm:mag l=[48]:=by
   cases hq:mag l with
   |nil=>rw[hq]at h1;cases h1
   |cons c r=>rw[hq]at h h1;simp at h h1;subst h h1;rfl
  have h3:l.head? =some 45:=by
   by_cases e:l.head? =some 45
   ·exact e
   ·exfalso;apply h2;rw[mag,iN e]at hm;exact hm
  simp[jE,wS,hm,h3]
 ·simp[jE,wS,nZ,h,h1]
theorem WZ{l:List UInt8}(h:(mag l).all dG=false):jE l=11:=by simp[jE,wS,nZ,h]
theorem Si{l:List UInt8}(h0:mag l≠[])(h1:(mag l).head?≠some 48∨l=[48])(h2:(mag l).all dG=true):jE l=if 300<(mag l).length then 4 else 0:=by
 have:wS l=true:=by
  rcases h1 with h1|rfl
  ·have h3:mag l≠[48]:=by intro e;rw[e]at h1;exact h1 rfl
   simp[wS,nZ,h0,h1,h2,h3]
  ·decide
 rw[jE,ip this]
theorem Jz:∀(l:List UInt8)(a:Nat),l.all dG=true→sa a l=some (l.foldl (fun a c=>a*10+(c.toNat-48)) a)
 |[],_,_=>rfl
 |b::r,a,h=>by
  rw[mG,bT]at h
  have hd:dw b=some (b.toNat-48):=by
   have:=h.1;simp only[dG,bT,decide_eq_true_eq]at this;rw[dw,ip this]
  rw[sa,hd,List.foldl_cons];exact Jz r _ h.2
theorem Lw{l:List UInt8}(h:l.all dG=true)(h0:l≠[]):ve l=some (num l):=by
 rw[ve,iN (by simpa using h0),Jz l 0 h];rfl
theorem Sj{l:List UInt8}(h:wS l=true):TS l=some (dI l):=by
 have hd:=kE h;have hl:=uX h;cases l with
 |nil=>simp[rF]at hl
 |cons b r=>
  by_cases h45:b=45
  ·subst h45;have hm:mag (45::r)=r:=by simp[mag]
   rw[hm]at hd;have hr0:r≠[]:=by rintro rfl;simp[rF]at hl
   rw[TS,ip (by rfl),Lw hd hr0];simp[dI,hm]
  ·have hh:(b::r).head?≠some 45:=by simpa using h45
   have hm:mag (b::r)=b::r:=by rw[mag,iN hh]
   rw[hm]at hd;have hb:dG b=true:=by rw[mG,bT]at hd;exact hd.1
   have h43:¬b=43:=by rintro rfl;revert hb;decide
   rw[TS,iN (by simpa using h45),iN (by simpa using h43),Lw hd (by simp)];simp[dI,hm,h45]
end
section
open Go Go.Lib
theorem YJ(k:Nat):num (bY k 48)=0:=by
 induction k with
 |zero=>rfl
 |succ k ih=>rw[X3,KU,ih];simp
theorem Gr(k:Nat):repeatL [48] k=bY k 48:=by
 induction k with
 |zero=>rfl
 |succ k ih=>rw[X3,←ih];rfl
def Gs(k n:Nat):List UInt8:=bY (k-(bW n).length) 48++bW n
theorem wv{D n k:Nat}(hD:D≠0)(hn:n<10^k)(hk:0<k):bW (D*10^k+n)=bW D++Gs k n:=by
 have hl:=(cJ n k hk).2 hn;have UX:(Gs k n).length=k:=by unfold Gs;rw[cU,List.length_replicate];omega
 have hpn:num (Gs k n)=n:=by unfold Gs;rw[Bl,YJ,iR];omega
 have hnum:num (bW D++Gs k n)=D*10^k+n:=by rw[Bl,iR,UX,hpn]
 have hall:(bW D++Gs k n).all dG=true:=by
  rw[Nq,lD];unfold Gs;rw[Nq,lD];simp only[xW,Bool.and_true];rw[oT];intro x hx;rw[List.eq_of_mem_replicate hx];decide
 have hhead:(bW D++Gs k n).head?≠some 48:=by
  rw[wT (nN D)];exact xZ D hD
 have hok:nZ (bW D++Gs k n)=true:=by
  simp only[nZ,bT,iB,Bool.not_eq_true',bne_iff_ne,ne_eq];refine⟨⟨?_,hall⟩,.inl hhead⟩;cases h:bW D++Gs k n with
  |nil=>have:=List.append_eq_nil_iff.1 h;exact absurd this.1 (nN D)
  |cons _ _=>rfl
 rw[←hnum];exact oX _ hok
def zL(xs:List Nat)(j:Nat):List UInt8:=if j<xs.length then bW (bS PB (xs.drop j))else[]
theorem Gt(xs:List Nat)(j:Nat)(h:xs.length≤j):zL xs j=[]:=by rw[zL,iN (by omega)]
theorem Lx(xs:List Nat)(j:Nat)(h:j+1=xs.length):zL xs j=bW (xs.getD j 0):=by
 rw[zL,ip (by omega),fO PB xs j (by omega),jK (by omega)];simp[bS]
theorem NN(xs:List Nat)(j:Nat)(hx:∀x∈xs,x<PB)(h:j+1<xs.length)(Sk:xs.getD (xs.length-1) 0≠0):zL xs j=zL xs (j+1)++Gs 9 (xs.getD j 0):=by
 have hD:bS PB (xs.drop (j+1))≠0:=by
  intro e;rcases jL (xs.drop (j+1)).length with h0|h0
  ·rw[kK]at h0;omega
  ·apply Sk;have hz:=Cb (by decide:1≤PB) (xs.drop (j+1)) 0 (xs.length-1-(j+1)) (bR _) (by rw[e];decide);rw[aN,List.getElem?_drop,show j+1+(xs.length-1-(j+1))=xs.length-1 by omega]at hz;rw[aN];exact hz
 rw[zL,ip (by omega),zL,ip (by omega),fO PB xs j (by omega)];have hn:xs.getD j 0<10^9:=eJ hx (by decide) j;have:=wv hD hn (by decide);rw[←this,FL,cK];rfl
theorem Sl(xs:List Nat)(h:xs≠[]):zL xs 0=bW (bS PB xs):=by
 rw[zL,ip (by have:=List.length_pos_iff.2 h;omega),H4]
theorem iT(n:Nat):bL (n:Int)=bW n:=by rw[gO (by omega)];rfl
end
section
open Go Go.RowKit Go.Lib
theorem AR{m:Bool}{N:List UInt8}{s:Bool}{D:List UInt8}(h:(nZ N&&(!m||N !=[48])&&(!s||(nZ D&&D !=[48]&&D !=[49])))=false):Pd m N s D=11:=by
 rw[Pd,iN (by rw[h];decide)]
theorem NO{m:Bool}{N:List UInt8}{s:Bool}{D:List UInt8}(h:(nZ N&&(!m||N !=[48])&&(!s||(nZ D&&D !=[48]&&D !=[49])))=true):
 Pd m N s D=if 300<N.length∨300<D.length then 4 else if cM (num N) (if s=true then num D else 1)=1 then 0 else 11:=by
 rw[Pd,ip h]
theorem E5{l:List UInt8}(h:nZ l=true):wS l=true∧mag l=l∧dI l=(num l:Int):=by
 have hd:=kH h;have hh:l.head?≠some 45:=by
  intro e;cases l with
  |nil=>cases e
  |cons c r=>
   have:c=45:=by simpa using e
   subst this;rw[mG]at hd;revert hd;simp[dG]
 have hm:mag l=l:=by rw[mag,iN hh]
 refine⟨?_,hm,by rw[dI,iN hh,hm]⟩;rw[wS,hm,h];have:(l.head? !=some 45)=true:=by rw[bne_iff_ne];exact hh
 rw[this];rfl
theorem gw{x y:List UInt8}(hx:nZ x=true)(hy:nZ y=true)(lx:x.length≤300)(ly:y.length≤300):CI x y=(bL ((cM (num x) (num y):Nat):Int),0):=by
 obtain⟨a1,a2,a3⟩:=E5 hx;obtain⟨b1,b2,b3⟩:=E5 hy;have cx:jE x=0:=by rw[jE,ip a1,iN (by rw[a2];omega)]
 have cy:jE y=0:=by rw[jE,ip b1,iN (by rw[b2];omega)]
 rw[CI,ip (by rw[dK,ip cx];exact cy),a3,b3];simp
theorem CR(n:Nat):(bL ((n:Nat):Int)==[49])=decide (n=1):=by
 rw[iT];by_cases h:n=1
 ·subst h;rw[rL];decide
 ·rw[show decide (n=1)=false by simpa using h];rw[beq_eq_false_iff_ne];intro e;have:=congrArg num e;rw[iR]at this;exact h this
theorem sK(a:ByteArray)(w:aE)(hE:eZ w)(FG:a.size≤cA):
 aQ aC 70 #[aA a] w (Rt (aF aG (cQ a.data.toList)) w):=by
 rw[WW];have Hsp:=fun W=>DJ a W FG;unfold DI at Hsp;have oB:(mag (nS a.data.toList)).length≤cA∧(dS a.data.toList).length≤cA:=by
  have hn:(nS a.data.toList).length≤a.data.toList.length:=by unfold nS;exact(wM _).length_le
  have hd:(dS a.data.toList).length≤a.data.toList.length:=by
   unfold dS;rw[List.length_tail];have:=(List.dropWhile_sublist (fun c=>c !=47) (l:=a.data.toList)).length_le;omega
  have:=gP (nS a.data.toList);have hl:a.data.toList.length=a.size:=rfl;omega
 have hdn:tM a.data.toList=false→dS a.data.toList=[]:=fun h=>(rK _ h).2;generalize dY a=m at *;generalize tM a.data.toList=s at *;generalize mag (nS a.data.toList)=N at *;generalize dS a.data.toList=D at *;obtain⟨Dx,AB⟩:=oB;have e1:(bs N).size=N.length:=bU N;have e2:(bs D).size=D.length:=bU D;have Hx:=fun W=>Lt (bs N) W (by rw[e1];exact Dx);have Hy:=fun W=>Lt (bs D) W (by rw[e2];exact AB);simp only[aX]at Hx Hy;have z1:∀c,((bs N).toList==c)=(N==c):=fun c=>vC N c;have z2:∀c,((bs D).toList==c)=(D==c):=fun c=>vC D c;cases oN:nZ N with
 |false=>
  rw[AR (by rw[oN];rfl)];rw[oN]at Hx;exact Sc a (bs N) (bs D) m s false w hE Hsp Hx
 |true=>
  rw[oN]at Hx;have hoN:=oN;cases s with
  |false=>
   cases hN0:(m&&N==[48])with
   |true=>
    rw[bT]at hN0;obtain⟨rfl,hN0⟩:=hN0;rw[AR (by rw[oN,bne,hN0];rfl)];exact Sh a (bs N) (bs D) w hE Hsp Hx (by rw[z1];exact hN0)
   |false=>
    have x0:m=true→((bs N).toList==[48])=false:=fun h=>by rw[z1];subst h;exact hN0
    have Gu:(nZ N&&(!m||N !=[48])&&(!false||(nZ D&&D !=[48]&&D !=[49])))=true:=by rw[oN,bne];revert hN0;cases m<;>cases(N==[48])<;>intro h<;>first |rfl|cases h
    have hD:D=[]:=hdn rfl;rw[NO Gu];by_cases lx:300<N.length
    ·rw[ip (.inl lx)];exact ET a _ (bs D) m w hE Hsp Hx x0 (by rw[e1];omega)
    ·have tf:¬300<((bs N).size:Int):=by rw[e1];omega
     by_cases ly:300<D.length
     ·rw[ip (.inr ly)];exact EU a _ _ m w hE Hsp Hx x0 tf (by rw[e2];omega)
     ·have ly':¬300<((bs D).size:Int):=by rw[e2];omega
      rw[iN (by omega)];rw[show(if false=true then num D else 1)=1 from rfl,ip (Nat.gcd_one_right _)];exact EV a _ _ m w hE Hsp Hx x0 tf ly'
  |true=>
   cases oD:nZ D with
   |false=>
    rw[AR (by rw[oN,oD];simp)];rw[oD]at Hy;exact Sd a (bs N) (bs D) m w hE Hsp Hx Hy
   |true=>
    have hoD:=oD;rw[oD]at Hy;cases hD0:(D==[48])with
    |true=>
     rw[AR (by rw[oN,oD];simp only[bne,hD0];simp)];exact Se a (bs N) (bs D) m w hE Hsp Hx Hy (by rw[z2];exact hD0)
    |false=>
     have y0:((bs D).toList==[48])=false:=by rw[z2];exact hD0
     cases hD1:(D==[49])with
     |true=>
      rw[AR (by rw[oN,oD];simp only[bne,hD0,hD1];simp)];exact Sf a (bs N) (bs D) m w hE Hsp Hx Hy y0 (by rw[z2];exact hD1)
     |false=>
      have y1:((bs D).toList==[49])=false:=by rw[z2];exact hD1
      cases hN0:(m&&N==[48])with
      |true=>
       rw[bT]at hN0;obtain⟨rfl,hN0⟩:=hN0;rw[AR (by rw[oN,bne,hN0];rfl)];exact Sg a (bs N) (bs D) w hE Hsp Hx Hy y0 y1 (by rw[z1];exact hN0)
      |false=>
       have x0:m=true→((bs N).toList==[48])=false:=fun h=>by rw[z1];subst h;exact hN0
       have Gu:(nZ N&&(!m||N !=[48])&&(!true||(nZ D&&D !=[48]&&D !=[49])))=true:=by rw[oN,oD];simp only[bne,hD0,hD1];revert hN0;cases m<;>cases(N==[48])<;>intro h<;>first |rfl|cases h
       rw[NO Gu];by_cases lx:300<N.length
       ·rw[ip (.inl lx)];exact Gk a _ (bs D) m w hE Hsp Hx Hy x0 y0 y1 (by rw[e1];omega)
       ·have tf:¬300<((bs N).size:Int):=by rw[e1];omega
        by_cases ly:300<D.length
        ·rw[ip (.inr ly)];exact Gl a _ _ m w hE Hsp Hx Hy x0 y0 y1 tf (by rw[e2];omega)
        ·have ly':¬300<((bs D).size:Int):=by rw[e2];omega
         rw[iN (by omega)];rw[show(if true=true then num D else 1)=num D from rfl];have Hg1:=fun(W:aE)(hW:eZ W)=>WQ (bs N) (bs D) W hW (by rw[e1];exact Dx) (by rw[e2];exact AB);simp only[aX,gw hoN hoD (by omega) (by omega)]at Hg1;obtain⟨P,hP⟩:∃P,num N=P:=⟨_,rfl⟩;obtain⟨Q,hQ⟩:∃Q,num D=Q:=⟨_,rfl⟩;obtain⟨g,hg⟩:∃g,cM P Q=g:=⟨_,rfl⟩;simp only[hP,hQ,hg]at Hg1⊢;have sg:((bs (bL ((g:Nat):Int))).toList==[49])=decide (g=1):=by rw[vC];exact CR g
         have sg2:((bs (bL ((g:Nat):Int))).toList !=[49])= !decide (g=1):=by rw[bne,sg]
         by_cases sx:N.length≤9
         ·have sx':((bs N).size:Int)≤9:=by rw[e1];omega
          by_cases sy:D.length≤9
          ·have sy':((bs D).size:Int)≤9:=by rw[e2];omega
           have Hs1:=fun W=>AO (bs N) W (by rw[e1];omega) (by rw[aX];exact kH hoN);have Hs2:=fun W=>AO (bs D) W (by rw[e2];omega) (by rw[aX];exact kH hoD);simp only[aX,hP,hQ]at Hs1 Hs2;have hPb:P≤9223372036854775807:=by
            rw[←hP];have:=nM N (kH hoN);have h9:10^N.length≤10^9:=bN (by decide) sx;omega
           have hQb:Q≤9223372036854775807:=by
            rw[←hQ];have:=nM D (kH hoD);have h9:10^D.length≤10^9:=bN (by decide) sy;omega
           have Hg:=fun W=>WU P Q W hPb hQb;rw[hg]at Hg;by_cases g1:g=1
           ·rw[ip g1];exact Gm a _ _ m w hE Hsp Hx Hy x0 y0 y1 tf ly' sx' sy' P Q g Hs1 Hs2 Hg (by subst g1;rfl)
           ·rw[iN g1];exact EW a _ _ m w hE Hsp Hx Hy x0 y0 y1 tf ly' sx' sy' P Q g Hs1 Hs2 Hg (by rw[bne_iff_ne];omega)
          ·have sy':¬((bs D).size:Int)≤9:=by rw[e2];omega
           by_cases g1:g=1
           ·rw[ip g1];exact Gp a _ _ m w hE Hsp Hx Hy x0 y0 y1 tf ly' sx' sy' _ _ Hg1 (by rw[sg,decide_eq_true g1]) (by rw[sg2,decide_eq_true g1];rfl)
           ·rw[iN g1];exact E0 a _ _ m w hE Hsp Hx Hy x0 y0 y1 tf ly' sx' sy' _ _ Hg1 (by rw[sg,decide_eq_false g1]) (by rw[sg2,decide_eq_false g1];rfl)
         ·have sx':¬((bs N).size:Int)≤9:=by rw[e1];omega
          by_cases g1:g=1
          ·rw[ip g1];exact Gn a _ _ m w hE Hsp Hx Hy x0 y0 y1 tf ly' sx' _ _ Hg1 (by rw[sg,decide_eq_true g1]) (by rw[sg2,decide_eq_true g1];rfl)
          ·rw[iN g1];exact EZ a _ _ m w hE Hsp Hx Hy x0 y0 y1 tf ly' sx' _ _ Hg1 (by rw[sg,decide_eq_false g1]) (by rw[sg2,decide_eq_false g1];rfl)
end
end Go.Proofs.YtcimoodjlopdaaaGreatDoor
