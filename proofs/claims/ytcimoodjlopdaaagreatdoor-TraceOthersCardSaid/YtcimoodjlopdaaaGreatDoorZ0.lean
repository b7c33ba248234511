import Derived.Lib.ItoaNum
import Derived.WalkKit
import Derived.Lib.Hide
import Derived.Lib.Strings
import Derived.Deep.Draws
import Derived.Maps.AppendAt
import Derived.Test.YtcimoodjlopdaaaGreatDoorProg
import Derived.WalkSpells
import Derived.WalkLawsBesides
import Derived.RegionTactic
import Derived.ChangeAlike
import Derived.Deep.QuietTactic
import Derived.BigQuiet
import Derived.Deep.DeepCutAuto
import Derived.Below
namespace Go.Proofs.YtcimoodjlopdaaaGreatDoor
set_option maxRecDepth 100000
set_option maxHeartbeats 8000000
set_option linter.all false
open Go.Proofs.Tryz
open Bool renaming and_eq_true->bT,or_eq_true->iB,not_eq_true'->Ko
open Go renaming World->aE,Calls->aQ,Value->bB,maxLen->cA,Addr->dE,Oper->A8,wpList->Dm,heap_setCell_other->Dn,TypeId->Ii,info_parts->OG,Program->X6,Operand->ut
open Go.Ending renaming returned->aO
open Go.IntKind renaming i64->aG
open Go.Lib renaming itoa->bL,decDigits->bW
open Go.Obj renaming cells->aL
open Go.Proofs.Tryz renaming prog->aC,underlying179->H8
open Go.RowKit renaming Below->aJ,intOf->aK
open Go.Value renaming slice->aB,int->aF
open Go.World renaming ownsRow_lit->jJ
open Go.World.ownsRow renaming cellAt->gJ
open Int renaming natAbs_natCast->bP,toNat_natCast->gX,eq_ofNat_of_zero_le->TO
open List renaming getD_eq_getElem?_getD->aN,replicate->bY,length_map->cG,length_cons->cO,getElem?_eq_getElem->cZ,take_of_length_le->dH,take_succ_eq_append_getElem->dQ,length_nil->eW,length_take->iW,getElem?_eq_none->jP,length_drop->kK,all_cons->mG,all_eq_true->oT,drop_eq_getElem_cons->rS,ext_getElem->Cp,mem_cons_of_mem->Fy,mem_cons_self->I3,all_append->Nq,isEmpty_eq_false_iff->OF,take_append_drop->UE,mem_iff_getElem->Wl,mem_of_mem_take->Wm,foldl_append->da,foldl_cons->uq,head?_cons->ur
open Nat renaming le_refl->aD,pow_le_pow_right->bN,lt_of_lt_of_le->bQ,zero_le->bR,le_trans->cC,mul_comm->cK,pow_succ->dN,mul_le_mul_right->eG,lt_or_ge->fC,mul_assoc->fE,mod_eq_of_lt->fU,mod_lt->fW,zero_add->gL,mul_add->fY,add_mul->gU,eq_zero_or_pos->jL,div_add_mod->jU,mul_le_mul_left->mT,strongRecOn->mZ,mul_one->nC,div_mul_le_self->oL,div_eq_of_lt->oU,div_div_eq_div_mul->pA,min_eq_left->sY,pow_add->qU,mul_left_comm->wK,div_lt_self->xX,one_mul->Ah,add_zero->Bj,mul_zero->Eg,add_comm->FL,mod_add_div->MQ,add_assoc->QW,div_lt_of_lt_mul->X4
open Option.some renaming injEq->uH,inj->vI
open Trans renaming trans->cL
open UInt8 renaming ofNat->wQ
section
open Go Go.RowKit
theorem zq{p:Prop}(h:p):Hid p:=h
abbrev Rt(v:bB)(w:aE)(e:Ending)(w':aE):Prop:=e=aO v∧aJ w.heap.size w w'
theorem ip.{u}{c:Prop}{h:Decidable c}(hc:c){α:Sort u}{t e:α}: @ite α c h t e=t:=if_pos hc
theorem iN.{u}{c:Prop}{h:Decidable c}(hc:¬c){α:Sort u}{t e:α}: @ite α c h t e=e:=if_neg hc
end
section
open Go Go.Lib
def dG(c:UInt8):Bool:=48≤c.toNat&&c.toNat≤57
def num(l:List UInt8):Nat:=l.foldl (fun a c=>a*10+(c.toNat-48)) 0
def mag(l:List UInt8):List UInt8:=if l.head? =some 45 then l.tail else l
def nZ(l:List UInt8):Bool:= !l.isEmpty&&l.all dG&&(l.head? !=some 48||l.length==1)
def wS(l:List UInt8):Bool:=nZ (mag l)&&(l.head? !=some 45||mag l !=[48])
def dI(l:List UInt8):Int:=if l.head? =some 45 then -(num (mag l):Int)else(num (mag l):Int)
theorem OO{x k:Nat}(m:Nat)(h:x<10^k)(hk:k≤m):x<10^m:=bQ h (bN (by decide) hk)
theorem ee(k m:Nat)(hk:k≤m):10^k≤10^m:=bN (by decide) hk
theorem OP(m:Nat)(h:0<m):1<10^m:=Nat.one_lt_pow (by omega) (by decide)
theorem FP(l:List UInt8)(c:UInt8):num (l++[c])=num l*10+(c.toNat-48):=by
 simp[num,da]
theorem Yf(l:List UInt8)(a:Nat):l.foldl (fun a c=>a*10+(c.toNat-48)) a=a*10^l.length+num l:=by
 induction l generalizing a with
 |nil=>simp[num]
 |cons c l ih=>
  have h:=ih (0*10+(c.toNat-48));have h':num (c::l)=(0*10+(c.toNat-48))*10^l.length+num l:=h;rw[uq,ih,h',cO,dN,gU,fE,cK 10 (10^_),Nat.zero_mul,gL,QW]
theorem Bl(l r:List UInt8):num (l++r)=num l*10^r.length+num r:=by
 have h:num (l++r)=List.foldl (fun a c=>a*10+(c.toNat-48)) (num l) r:=by rw[num,da];rfl
 rw[h,Yf]
theorem KU(c:UInt8)(l:List UInt8):num (c::l)=(c.toNat-48)*10^l.length+num l:=by
 have:=Bl [c] l;simpa[num]using this
theorem nM(l:List UInt8)(h:l.all dG=true):num l<10^l.length:=by
 induction l with
 |nil=>simp[num]
 |cons c l ih=>
  rw[mG,bT]at h;have h1:c.toNat-48≤9:=by have:=h.1;simp[dG]at this;omega
  have h2:=ih h.2;rw[KU,cO,dN];have:(c.toNat-48)*10^l.length≤9*10^l.length:=eG _ h1;omega
theorem rT(d:Nat)(h:d<10):dG (wQ (48+d))=true∧(wQ (48+d)).toNat=48+d:=by
 have:(wQ (48+d)).toNat=48+d:=by simp[UInt8.toNat_ofNat'];omega
 exact⟨by unfold dG;rw[this];simp;omega,this⟩
theorem jA{u:Nat}(h:u<10):bW u=[wQ (48+u)]:=by rw[bW,dif_pos h]
theorem oW{u:Nat}(h:¬u<10):bW u=bW (u/10)++[wQ (48+u%10)]:=by rw[bW,dif_neg h]
theorem wT{l r:List UInt8}(h:l≠[]):(l++r).head? =l.head? :=by
 cases l with
 |nil=>exact absurd rfl h
 |cons c l=>rfl
theorem nN(u:Nat):bW u≠[]:=by
 by_cases h:u<10
 ·rw[jA h];simp
 ·rw[oW h];simp
theorem lD(u:Nat):(bW u).all dG=true:=by
 induction u using mZ with
 |_ u ih=>
  by_cases h:u<10
  ·rw[jA h,mG,(rT u h).1];rfl
  ·rw[oW h,Nq,ih (u/10) (by omega),mG,(rT (u%10) (by omega)).1];rfl
theorem iR(u:Nat):num (bW u)=u:=by
 induction u using mZ with
 |_ u ih=>
  by_cases h:u<10
  ·rw[jA h];simp only[num,uq,List.foldl_nil,(rT u h).2];omega
  ·rw[oW h,FP,ih (u/10) (by omega),(rT (u%10) (by omega)).2];omega
theorem xZ(u:Nat)(h:u≠0):(bW u).head?≠some 48:=by
 induction u using mZ with
 |_ u ih=>
  by_cases h1:u<10
  ·rw[jA h1];simp only[ur,ne_eq,uH];intro e;have:=congrArg UInt8.toNat e;rw[(rT u h1).2]at this;simp at this;omega
  ·rw[oW h1,wT (nN _)];exact ih (u/10) (by omega) (by omega)
theorem jR:bW 0=[48]:=by rw[jA (by decide)];rfl
theorem Ej(u:Nat):nZ (bW u)=true:=by
 have h1:=nN u;have h2:=lD u;by_cases h:u=0
 ·subst h;rw[jR];decide
 ·have h3:=xZ u h;simp[nZ,h1,h2,h3]
theorem oX(l:List UInt8)(h:nZ l=true):bW (num l)=l:=by
 obtain⟨n,hn⟩:∃n,l.length=n:=⟨_,rfl⟩;induction n using mZ generalizing l with
 |_ n ih=>
  simp only[nZ,bT,Ko,OF]at h;obtain⟨⟨h1,h2⟩,h3⟩:=h;rcases List.eq_nil_or_concat l with e|⟨r,c,e⟩
  ·exact absurd e h1
  ·rw[List.concat_eq_append]at e;subst e;rw[Nq,bT]at h2;have hc:dG c=true:=by simpa using h2.2
   have hc':48≤c.toNat∧c.toNat≤57:=by simpa[dG]using hc
   have ec:wQ (48+(c.toNat-48))=c:=by rw[show 48+(c.toNat-48)=c.toNat by omega];simp
   rw[FP];by_cases hr:r=[]
   ·subst hr;rw[show num []*10=0 from rfl,gL,jA (by omega),ec];rfl
   ·have hh:r.head?≠some 48:=by
     simp only[iB,bne_iff_ne,ne_eq,beq_iff_eq,List.length_append,cO,eW]at h3;rw[wT hr]at h3;rcases h3 with h3|h3
     ·exact h3
     ·have:=List.length_pos_iff.2 hr;omega
    have hok:nZ r=true:=by simp[nZ,hr,h2.1,hh]
    have hr':=ih r.length (by simp at hn;omega) r hok rfl;have hpos:num r≠0:=by
     intro e0;rw[e0,jR]at hr';rw[←hr']at hh;simp at hh
    rw[oW (by omega),show(num r*10+(c.toNat-48))/10=num r by omega,show(num r*10+(c.toNat-48))%10=c.toNat-48 by omega,hr',ec]
theorem rE{n:Int}(h:n<0):bL n=45::bW n.natAbs:=by rw[bL,ip h]
theorem gO{n:Int}(h:0≤n):bL n=bW n.natAbs:=by
 rw[bL,iN (by omega)];congr 1;omega
theorem CA(u:Nat):∃c r,bW u=c::r∧dG c=true:=by
 cases h:bW u with
 |nil=>exact absurd h (nN u)
 |cons c r=>have:=lD u;rw[h,mG,bT]at this;exact⟨c,r,rfl,this.1⟩
theorem zU(u:Nat):(bW u).head?≠some 45:=by
 obtain⟨c,r,h,hc⟩:=CA u;rw[h];simp only[ur,ne_eq,uH];rintro rfl;exact absurd hc (by decide)
theorem oM(n:Int):mag (bL n)=bW n.natAbs:=by
 by_cases h:n<0
 ·rw[rE h];simp[mag]
 ·rw[gO (by omega),mag,iN (zU _)]
theorem sG(n:Int):(bL n).head? =some 45↔n<0:=by
 by_cases h:n<0
 ·rw[rE h];simp[h]
 ·rw[gO (by omega)];simp[zU,h]
theorem yA(n:Int):wS (bL n)=true:=by
 simp only[wS,oM,Ej,Bool.true_and,iB,bne_iff_ne,ne_eq,sG];by_cases h:n<0
 ·right;intro e;have:=iR n.natAbs;rw[e]at this;have h0:num [48]=0:=by decide
  omega
 ·left;exact h
theorem iA(n:Int):dI (bL n)=n:=by
 rw[dI,oM,iR];by_cases h:n<0
 ·rw[ip ((sG n).2 h)];omega
 ·rw[iN (fun e=>h ((sG n).1 e))];omega
theorem Dt(l:List UInt8)(h:wS l=true):bL (dI l)=l:=by
 simp only[wS,bT,iB,bne_iff_ne,ne_eq]at h;obtain⟨h1,h2⟩:=h;have hd:=oX (mag l) h1;by_cases hm:l.head? =some 45
 ·have hl:l=45::mag l:=by
   cases l with
   |nil=>simp at hm
   |cons c r=>simp at hm;subst hm;simp[mag]
  have lE:mag l≠[48]:=by simpa[hm]using h2
  have hpos:num (mag l)≠0:=fun e=>lE (by rw[←hd,e,jR]);rw[dI,ip hm,rE (by omega)];rw[show(-(num (mag l):Int)).natAbs=num (mag l) by omega,hd];exact hl.symm
 ·rw[dI,iN hm,gO (by omega),bP,hd,mag,iN hm]
theorem cJ(u k:Nat)(hk:0<k):(bW u).length≤k↔u<10^k:=by
 constructor
 ·intro h;have h1:=nM _ (lD u);rw[iR]at h1;exact bQ h1 (bN (by decide) h)
 ·intro h;rw[decDigits_length];induction k generalizing u with
  |zero=>omega
  |succ k ih=>
   by_cases h1:u<10
   ·rw[nDigits_small h1];omega
   ·rw[nDigits_big h1];have Q7:0<k:=by
     rcases jL k with e|e
     ·subst e;simp at h;omega
     ·exact e
    have:=ih (u/10) Q7 (by rw[dN]at h;omega);omega
def jE(l:List UInt8):Int:=if wS l=true then(if 300<(mag l).length then 4 else 0)else 11
theorem Yg{l:List UInt8}:jE l=0↔∃n:Int,l=bL n∧n.natAbs<10^300:=by
 unfold jE;constructor
 ·intro h;split at h
  ·rename_i ho;split at h
   ·cases h
   ·rename_i hl;have hi:=Dt l ho;refine⟨dI l,hi.symm,?_⟩;rw[←hi,oM]at hl;exact(cJ _ 300 (by decide)).1 (by omega)
  ·cases h
 ·rintro⟨n,rfl,hn⟩;have:=(cJ n.natAbs 300 (by decide)).2 hn;rw[ip (yA n),oM,iN (by omega)]
def iY(n:Int):List UInt8×Int:=if n.natAbs<10^300 then(bL n,0)else([],4)
def rF(l:List UInt8):Nat:=if l.head? =some 45 then 1 else 0
theorem vQ(l:List UInt8):mag l=l.drop (rF l):=by
 unfold mag rF;split
 ·cases l<;>rfl
 ·rfl
theorem ef(l:List UInt8):rF l≤l.length:=by
 unfold rF;split
 ·cases l with
  |nil=>simp at *
  |cons c r=>simp
 ·omega
theorem gP(l:List UInt8):(mag l).length=l.length-rF l:=by rw[vQ,kK]
theorem B9(l:List UInt8)(f:Nat)(h:f<l.length):(l.drop f).head? =some (l[f]):=by
 rw[List.head?_drop,cZ h]
theorem UL(l:List UInt8)(h:l.length=rF l):jE l=11:=by
 have:mag l=[]:=List.eq_nil_of_length_eq_zero (by rw[gP];omega);simp[jE,wS,nZ,this]
theorem UM(l:List UInt8)(h:rF l<l.length)(h0:l[rF l].toNat=48)(h1:1<l.length):jE l=11:=by
 have hh:(mag l).head? =some 48:=by
  rw[vQ,B9 l _ h];exact congrArg some (UInt8.toNat_inj.1 h0)
 have:wS l=false:=by
  by_cases hm:l.head? =some 45
  ·by_cases hl:(mag l).length=1
   ·have:mag l=[48]:=by
     cases hq:mag l with
     |nil=>rw[hq]at hl;simp at hl
     |cons c r=>
      rw[hq]at hl hh;simp at hl hh;subst hl hh;rfl
    simp[wS,hm,this]
   ·simp[wS,nZ,hh,hl]
  ·have:(mag l).length≠1:=by rw[gP];simp[rF,hm];omega
   simp[wS,nZ,hh,this]
 simp[jE,this]
theorem eh(l:List UInt8)(i:Nat)(h1:rF l≤i)(h:i<l.length)(hd:dG l[i]=false):jE l=11:=by
 have:(mag l).all dG=false:=by
  rw[List.all_eq_false];refine⟨l[i],?_,by simp[hd]⟩;rw[vQ,Wl];exact⟨i-rF l,by simp;omega,by simp;congr 1;omega⟩
 simp[jE,wS,nZ,this]
theorem Yh(l:List UInt8)(h:rF l<l.length)(h0:¬(l[rF l].toNat=48∧1<l.length))(hd:∀(i:Nat)(hi:i<l.length),rF l≤i→dG l[i]=true):
 jE l=if 300<l.length-rF l then 4 else 0:=by
 have ha:(mag l).all dG=true:=by
  rw[oT];intro c hc;rw[vQ,Wl]at hc;obtain⟨i,hi,rfl⟩:=hc;simp only[kK]at hi;rw[List.getElem_drop];exact hd _ (by omega) (by omega)
 have lE:mag l≠[]:=by
  intro e;have:=gP l;rw[e]at this;simp at this;omega
 have hh:(mag l).head? =some l[rF l]:=by rw[vQ,B9 l _ h]
 have hl:=gP l;have hok:wS l=true:=by
  by_cases hz:l[rF l].toNat=48
  ·have h1:l.length=1:=by
    have:0<l.length:=by omega
    have:¬1<l.length:=fun e=>h0 ⟨hz,e⟩;omega
   have hf:rF l=0:=by omega
   have hm:l.head?≠some 45:=by intro e;simp[rF,e]at hf
   have h2:(mag l).length=1:=by omega
   simp[wS,nZ,ha,lE,hm,h2]
  ·have h48:(mag l).head?≠some 48:=by
    rw[hh];intro e;have:=vI e;rw[this]at hz;simp at hz
   have h49:mag l≠[48]:=by intro e;rw[e]at h48;simp at h48
   simp[wS,nZ,ha,lE,h48,h49]
 rw[jE,ip hok,hl]
theorem uX{l:List UInt8}(h:wS l=true):rF l<l.length:=by
 simp only[wS,nZ,bT,Ko,OF]at h;have:=List.length_pos_iff.2 h.1.1.1;rw[gP]at this;omega
theorem kE{l:List UInt8}(h:wS l=true):(mag l).all dG=true:=by
 simp only[wS,nZ,bT]at h;exact h.1.1.2
theorem Yi(l:List UInt8)(st e:Nat)(h:st≤e)(he:e≤l.length):num (l.take e)=num (l.take st)*10^(e-st)+num ((l.take e).drop st):=by
 have e1:l.take e=l.take st++(l.take e).drop st:=by
  have:=UE st (l.take e);rw[List.take_take,sY h]at this;exact this.symm
 conv=>lhs;rw[e1]
 rw[Bl,kK,iW,sY he]
theorem Ek(l:List UInt8)(st i:Nat)(h:st≤i)(hi:i<l.length):num ((l.take (i+1)).drop st)=num ((l.take i).drop st)*10+(l[i].toNat-48):=by
 have e:(l.take (i+1)).drop st=(l.take i).drop st++[l[i]]:=by
  rw[dQ hi,List.drop_append_of_le_length (by simp;omega)]
 rw[e,FP]
theorem OQ(l:List UInt8)(st i:Nat)(hi:i≤l.length)(hd:l.all dG=true):num ((l.take i).drop st)<10^(i-st):=by
 have:=nM ((l.take i).drop st) (by
  rw[oT]at hd⊢;exact fun x hx=>hd x (Wm (List.mem_of_mem_drop hx)))
 rwa[kK,iW,sY hi]at this
def eE(neg:Bool)(N:Nat):Int:=if neg then -(N:Int)else(N:Int)
theorem OR(b1 b2:Bool)(M N:Nat):eE (!b1==b2) (M*N)=eE b1 M*eE b2 N:=by
 cases b1<;>cases b2<;>simp[eE,Int.natCast_mul,Int.mul_neg,Int.neg_mul]
theorem Q9(neg:Bool)(N:Nat)(h:N≠0):bL (eE neg N)=(if neg then[45]else[])++bW N:=by
 cases neg
 ·simp only[eE,Bool.false_eq_true,if_false,List.nil_append];rw[gO (by omega),bP]
 ·simp only[eE,if_true];rw[rE (by omega)];simp
theorem Ny(neg:Bool):bL (eE neg 0)=[48]:=by
 have:eE neg 0=0:=by cases neg<;>simp[eE]
 rw[this,gO (by decide)];exact jR
theorem Rc(N B K i j:Nat)(hB:B=10^K)(hj:j<K):dg N (K*i+j)=wQ (48+N/B^i%B/10^j%10):=by
 unfold dg;congr 2;rw[hB,qU,←pA,Nat.pow_mul];generalize N/(10^K)^i=q;obtain⟨d,rfl⟩:∃d,K=j+(d+1):=⟨K-j-1,by omega⟩;rw[qU,Nat.mod_mul_right_div_self,dN,Nat.mod_mul_left_mod]
theorem vm(N q:Nat)(h:N<10^q):dg N q=48:=by
 unfold dg;rw[oU h];rfl
end
section
open Go
def bS(B:Nat):List Nat→Nat
 |[]=>0
 |x::xs=>x+B*bS B xs
def bM(B n:Nat):List Nat:=
 if _h:n=0∨B<2 then[]else(n%B)::bM B (n/B)
termination_by n
decreasing_by exact xX (by omega) (by omega)
theorem dO(B:Nat):bM B 0=[]:=by rw[bM,dif_pos (Or.inl rfl)]
theorem nO{B n:Nat}(hB:2≤B)(hn:n≠0):bM B n=(n%B)::bM B (n/B):=by
 rw[bM,dif_neg (by omega)]
theorem cY{B:Nat}(hB:2≤B)(n:Nat):bS B (bM B n)=n:=by
 induction n using mZ with
 |_ n ih=>
  by_cases h:n=0
  ·subst h;rw[dO];rfl
  ·rw[nO hB h,bS,ih (n/B) (xX (by omega) (by omega))];exact MQ n B
theorem eA{B:Nat}(hB:2≤B)(n:Nat):∀x∈bM B n,x<B:=by
 induction n using mZ with
 |_ n ih=>
  by_cases h:n=0
  ·subst h;rw[dO];simp
  ·rw[nO hB h];intro x hx;rcases List.mem_cons.1 hx with rfl|hx
   ·exact fW _ (by omega)
   ·exact ih (n/B) (xX (by omega) (by omega)) x hx
theorem eB{B n:Nat}(hB:2≤B):bM B n=[]↔n=0:=by
 constructor
 ·intro h;have:=cY hB n;rw[h]at this;simpa[bS]using this.symm
 ·rintro rfl;exact dO B
def jS:List Nat→List Nat
 |[]=>[]
 |x::xs=>match jS xs with
  |[]=>if x=0 then[]else[x]
  |ys=>x::ys
theorem pR{x:Nat}{xs:List Nat}(h:jS xs=[]):jS (x::xs)=if x=0 then[]else[x]:=by
 simp[jS,h]
theorem vK{x:Nat}{xs:List Nat}(h:jS xs≠[]):jS (x::xs)=x::jS xs:=by
 cases e:jS xs with
 |nil=>exact absurd e h
 |cons y ys=>simp[jS,e]
theorem El{B:Nat}(hB:2≤B):∀xs:List Nat,(∀x∈xs,x<B)→bM B (bS B xs)=jS xs
 |[],_=>by rw[bS,dO];rfl
 |x::xs,h=>by
  have ih:=El hB xs fun y hy=>h y (Fy _ hy)
  have hx:x<B:=h x (I3 ..)
  by_cases h0:jS xs=[]
  ·rw[pR h0]
   rw[h0]at ih
   have hz:=(eB hB).1 ih
   rw[bS,hz,Eg,Bj]
   by_cases e:x=0
   ·rw[ip e,e,dO]
   ·rw[iN e,nO hB e,fU hx,oU hx,dO]
  ·rw[vK h0]
   have hz:bS B xs≠0:=fun e=>h0 (by rw[←ih,e,dO])
   have hp:0<B*bS B xs:=Nat.mul_pos (by omega) (by omega)
   rw[bS,nO hB (by omega),Nat.add_mul_mod_self_left,fU hx,Nat.add_mul_div_left _ _ (by omega),oU hx,gL,ih]
theorem Bm:∀(xs:List Nat)(k:Nat),k≤xs.length→(∀i,k≤i→i<xs.length→xs.getD i 0=0)→(k=0∨xs.getD (k-1) 0≠0)→jS xs=xs.take k
 |[],k,_,_,_=>by simp[jS]
 |x::xs,0,_,hz,_=>by
  have ih:=Bm xs 0 (bR _) (fun i _ hi=>by simpa using hz (i+1) (bR _) (by simpa using hi)) (.inl rfl)
  have hx:x=0:=by simpa using hz 0 (aD _) (by simp)
  rw[pR (by simpa using ih),ip hx];rfl
 |x::xs,k+1,hk,hz,hn=>by
  have Q7:k≤xs.length:=by simpa using hk
  by_cases h0:k=0
  ·subst h0
   have ih:=Bm xs 0 (bR _) (fun i _ hi=>by simpa using hz (i+1) (by omega) (by simpa using hi)) (.inl rfl)
   have hx:x≠0:=by simpa using hn
   rw[pR (by simpa using ih),iN hx];rfl
  ·have hn':xs.getD (k-1) 0≠0:=by
    rcases hn with h|h
    ·omega
    ·rw[show k+1-1=(k-1)+1 by omega]at h;simpa using h
   have ih:=Bm xs k Q7 (fun i h1 h2=>by simpa using hz (i+1) (by omega) (by simpa using h2)) (.inr hn');have lE:jS xs≠[]:=by
    rw[ih];intro e;have:=congrArg List.length e;simp only[iW,eW]at this;omega
   rw[vK lE,ih];rfl
theorem CD(B:Nat):∀xs ys:List Nat,bS B (xs++ys)=bS B xs+B^xs.length*bS B ys
 |[],ys=>by simp[bS]
 |x::xs,ys=>by
  rw[List.cons_append,bS,CD B xs ys,bS,cO,dN,fY,←fE,cK (B^_) B,QW]
theorem AI(B:Nat)(xs:List Nat)(y:Nat):bS B (xs++[y])=bS B xs+B^xs.length*y:=by
 rw[CD,bS,bS,Eg,Bj]
theorem zV{B:Nat}(hB:1≤B):∀xs:List Nat,(∀x∈xs,x<B)→bS B xs<B^xs.length
 |[],_=>by simp[bS]
 |x::xs,h=>by
  have ih:=zV hB xs fun y hy=>h y (Fy _ hy)
  have hx:x<B:=h x (I3 ..)
  rw[bS,cO,dN]
  calc x+B*bS B xs<B+B*bS B xs:=by omega
   _=B*(bS B xs+1):=by rw[fY,nC,FL]
   _≤B*B^xs.length:=mT _ ih
   _=B^xs.length*B:=cK _ _
theorem nQ(B:Nat)(xs:List Nat)(k:Nat)(hk:k≤xs.length):bS B xs=bS B (xs.take k)+B^k*bS B (xs.drop k):=by
 have h:=CD B (xs.take k) (xs.drop k);rw[UE,iW,sY hk]at h;exact h
theorem KV(B:Nat)(xs:List Nat)(k:Nat)(hk:k<xs.length):bS B (xs.take (k+1))=bS B (xs.take k)+B^k*xs.getD k 0:=by
 rw[dQ hk,AI,iW,sY (by omega)];simp[aN,cZ hk]
theorem Bn(B n:Nat):bS B (bY n 0)=0:=by
 induction n with
 |zero=>rfl
 |succ n ih=>rw[List.replicate_succ,bS,ih,Eg]
theorem fD{B n k:Nat}(hB:2≤B)(h:n<B^k):(bM B n).length≤k:=by
 induction k generalizing n with
 |zero=>
  have:n=0:=by simpa using h
  subst this;rw[dO];exact aD _
 |succ k ih=>
  by_cases h0:n=0
  ·subst h0;rw[dO];exact bR _
  ·rw[nO hB h0,cO];refine Nat.succ_le_succ (ih ?_);rw[dN]at h;exact X4 (by rw[cK];exact h)
theorem cS{B:Nat}(hB:2≤B)(n:Nat):n<B^(bM B n).length:=by
 have h:=zV (by omega:1≤B) (bM B n) (eA hB n);rwa[cY hB]at h
theorem EO{B:Nat}(hB:2≤B)(n:Nat)(h:bM B n≠[]):(bM B n).getD ((bM B n).length-1) 0≠0:=by
 induction n using mZ with
 |_ n ih=>
  by_cases h0:n=0
  ·subst h0;exact absurd (dO B) h
  ·rw[nO hB h0];by_cases h1:bM B (n/B)=[]
   ·have hz:=(eB hB).1 h1;rw[h1];have:n<B:=by
     rcases fC n B with h|h
     ·exact h
     ·have:=Nat.div_pos h (by omega);omega
    simpa[fU this]using h0
   ·have:=ih (n/B) (xX (by omega) (by omega)) h1;have hl:0<(bM B (n/B)).length:=List.length_pos_iff.2 h1;rw[cO,show(bM B (n/B)).length+1-1=((bM B (n/B)).length-1)+1 by omega];simpa using this
theorem J0{B n:Nat}(hB:2≤B)(h:n≠0):B^((bM B n).length-1)≤n:=by
 induction n using mZ with
 |_ n ih=>
  rw[nO hB h,cO,Nat.add_sub_cancel];by_cases h1:n/B=0
  ·rw[h1,dO];simp;omega
  ·have:=ih (n/B) (xX (by omega) (by omega)) h1;have hl:0<(bM B (n/B)).length:=List.length_pos_iff.2 (fun e=>h1 ((eB hB).1 e));rw[show(bM B (n/B)).length=(bM B (n/B)).length-1+1 by omega,dN];exact cC (eG _ this) (oL n B)
theorem eP{B m n:Nat}(hB:2≤B)(h:m≤n):(bM B m).length≤(bM B n).length:=
 fD hB (Nat.lt_of_le_of_lt h (cS hB n))
theorem oF{B m n:Nat}(hB:2≤B)(h:(bM B m).length<(bM B n).length):m<n:=by
 rcases fC m n with h'|h'
 ·exact h'
 ·have:=eP hB h';omega
theorem eJ{B:Nat}{xs:List Nat}(h:∀x∈xs,x<B)(hB:0<B)(i:Nat):xs.getD i 0<B:=by
 rw[aN];cases e:xs[i]? with
 |none=>simpa using hB
 |some x=>exact h x (List.mem_of_getElem? e)
def FU(m n:Nat):Int:=if m<n then -1 else if n<m then 1 else 0
theorem gV(B:Nat)(xs:List Nat)(k:Nat):bS B (xs.take (k+1))=bS B (xs.take k)+B^k*xs.getD k 0:=by
 rcases fC k xs.length with h|h
 ·exact KV B xs k h
 ·rw[dH (by omega),dH h];simp[aN,jP h]
theorem fQ(B:Nat)(xs:List Nat)(k:Nat)(h:xs.length≤k):bS B (xs.take k)=bS B xs:=by rw[dH h]
theorem xB{B:Nat}(hB:1≤B){xs:List Nat}(h:∀x∈xs,x<B)(k:Nat):bS B (xs.take k)<B^k:=by
 have h1:=zV hB (xs.take k) fun x hx=>h x (Wm hx);exact bQ h1 (bN hB (by simp;omega))
theorem Ca(xs ys:List Nat)(k:Nat)(hl:xs.length=ys.length)(hk:k≤xs.length)
 (h:∀i,k≤i→i<xs.length→xs.getD i 0=ys.getD i 0):xs.drop k=ys.drop k:=by
 apply Cp
 ·simp[hl]
 ·intro i h1 h2;simp only[kK]at h1 h2;have:=h (k+i) (by omega) (by omega);simpa[aN,cZ (show k+i<xs.length by omega),cZ (show k+i<ys.length by omega)]using this
theorem tF{B:Nat}(hB:1≤B)(xs ys:List Nat)(hx:∀x∈xs,x<B)(k:Nat)(hl:xs.length=ys.length)(hk:k<xs.length)
 (h:∀i,k+1≤i→i<xs.length→xs.getD i 0=ys.getD i 0)(hlt:xs.getD k 0<ys.getD k 0):bS B xs<bS B ys:=by
 have hd:=Ca xs ys (k+1) hl (by omega) h;have e1:=nQ B xs (k+1) (by omega);have e2:=nQ B ys (k+1) (by omega);rw[hd]at e1;have e3:=gV B xs k;have e4:=gV B ys k;have h5:=xB hB hx k;have h6:B^k*(xs.getD k 0+1)≤B^k*ys.getD k 0:=mT _ hlt;rw[fY,nC]at h6;omega
theorem CE(B:Nat)(xs ys:List Nat)(hl:xs.length=ys.length)(h:∀i,i<xs.length→xs.getD i 0=ys.getD i 0):bS B xs=bS B ys:=by
 have:=Ca xs ys 0 hl (bR _) (fun i _ hi=>h i hi);simp only[List.drop_zero]at this;rw[this]
theorem OS{m n:Nat}(h:m<n):FU m n= -1:=by simp[FU,h]
theorem WF{m n:Nat}(h:n<m):FU m n=1:=by rw[FU,iN (by omega),ip h]
theorem vn{m n:Nat}(h:m=n):FU m n=0:=by simp[FU,h]
theorem KW{B n:Nat}(hB:2≤B)(xs:List Nat)(hx:∀x∈xs,x<B)(h:bS B xs=n):jS xs=bM B n:=by
 rw[←El hB xs hx,h]
theorem oA{B:Nat}{xs:List Nat}{y:Nat}(h:∀x∈xs,x<B)(hy:y<B):∀x∈xs++[y],x<B:=by
 intro x hx;rcases List.mem_append.1 hx with h1|h1
 ·exact h x h1
 ·rw[List.mem_singleton.1 h1];exact hy
theorem Nz(B:Nat)(os xs ys:List Nat)(k c s:Nat)(hk:os.length=k)(h:bS B os+c*B^k=bS B (xs.take k)+bS B (ys.take k))
 (hs:s=xs.getD k 0+ys.getD k 0+c):bS B (os++[s%B])+s/B*B^(k+1)=bS B (xs.take (k+1))+bS B (ys.take (k+1)):=by
 rw[AI,gV,gV,hk,dN];have e:B^k*(s%B)+s/B*(B^k*B)=B^k*s:=by
  conv=>rhs;rw[←MQ s B]
  rw[fY];simp[fE,cK,wK]
 have e2:B^k*s=B^k*xs.getD k 0+B^k*ys.getD k 0+c*B^k:=by rw[hs,fY,fY,cK c]
 omega
theorem Bo(B:Nat)(os xs ys:List Nat)(k c x b:Nat)(hk:os.length=k)(h:bS B os+bS B (ys.take k)=bS B (xs.take k)+c*B^k)
 (hs:xs.getD k 0+b*B=x+ys.getD k 0+c):bS B (os++[x])+bS B (ys.take (k+1))=bS B (xs.take (k+1))+b*B^(k+1):=by
 rw[AI,gV,gV,hk,dN];have e:B^k*xs.getD k 0+b*(B^k*B)=B^k*x+B^k*ys.getD k 0+c*B^k:=by
  have:=congrArg (B^k*·) hs;simp only[fY]at this;rw[wK,this,cK c]
 omega
theorem NB{B:Nat}(hB:1≤B)(os:List Nat)(m n c k:Nat)(ho:∀x∈os,x<B)(hk:os.length=k)(hmn:n≤m)(h:bS B os+n=m+c*B^k):bS B os=m-n:=by
 have hlt:=zV hB os ho;rw[hk]at hlt;rcases jL c with e|e
 ·subst e;omega
 ·have:1*B^k≤c*B^k:=eG _ e;omega
theorem Ak(xs:List Nat)(i v:Nat)(h:i<xs.length):(xs.set i v).getD i 0=v:=by simp[aN,h]
theorem yB(xs:List Nat)(i j v:Nat)(h:i≠j):(xs.set i v).getD j 0=xs.getD j 0:=by simp[aN,h]
theorem FV(B:Nat):∀(xs:List Nat)(i v:Nat),i<xs.length→bS B (xs.set i v)+B^i*xs.getD i 0=bS B xs+B^i*v
 |[],i,v,h=>absurd h (by simp)
 |x::xs,0,v,_=>by simp[bS];omega
 |x::xs,i+1,v,h=>by
  have ih:=FV B xs i v (by simpa using h)
  have e:(x::xs).getD (i+1) 0=xs.getD i 0:=by simp
  rw[List.set_cons_succ,bS,bS,e,dN]
  have e1:B^i*B*xs.getD i 0=B*(B^i*xs.getD i 0):=by rw[cK (B^i) B,fE]
  have e2:B^i*B*v=B*(B^i*v):=by rw[cK (B^i) B,fE]
  have e3:=congrArg (B*·) ih
  simp only[fY]at e3
  omega
theorem yC{B:Nat}{xs:List Nat}{i v:Nat}(h:∀x∈xs,x<B)(hv:v<B):∀x∈xs.set i v,x<B:=by
 intro x hx;rcases List.mem_or_eq_of_mem_set hx with h1|h1
 ·exact h x h1
 ·rw[h1];exact hv
theorem EP(B:Nat)(os ys:List Nat)(i k c x s:Nat)(T:Nat)(hi:i+k<os.length)
 (h:bS B os+c*B^(i+k)=T+x*bS B (ys.take k)*B^i)(hs:s=os.getD (i+k) 0+x*ys.getD k 0+c):
 bS B (os.set (i+k) (s%B))+s/B*B^(i+(k+1))=T+x*bS B (ys.take (k+1))*B^i:=by
 have h1:=FV B os (i+k) (s%B) hi;have e:B^(i+k)*(s%B)+s/B*B^(i+(k+1))=B^(i+k)*s:=by
  conv=>rhs;rw[←MQ s B]
  rw[←QW,dN,fY];simp[fE,cK,wK]
 have e2:B^(i+k)*s=B^(i+k)*os.getD (i+k) 0+B^(i+k)*(x*ys.getD k 0)+c*B^(i+k):=by rw[hs,fY,fY,cK c]
 have e3:x*bS B (ys.take (k+1))*B^i=x*bS B (ys.take k)*B^i+B^(i+k)*(x*ys.getD k 0):=by
  rw[gV,fY,gU,qU];simp[fE,cK,wK]
 omega
theorem Cb{B:Nat}(hB:1≤B)(xs:List Nat)(k j:Nat)(hk:k≤j)(h:bS B xs<B^k):xs.getD j 0=0:=by
 rcases fC j xs.length with hj|hj
 ·have e:=nQ B xs j (by omega);have e2:xs.drop j=xs.getD j 0::xs.drop (j+1):=by
   rw[rS hj];simp[aN,cZ hj]
  rw[e2,bS]at e;have h3:B^k≤B^j:=bN hB hk;rcases jL (xs.getD j 0)with h0|h0
  ·exact h0
  ·have h4:B^j*1≤B^j*(xs.getD j 0+B*bS B (xs.drop (j+1))):=mT _ (by omega);omega
 ·simp[aN,jP hj]
theorem fO(B:Nat)(xs:List Nat)(k:Nat)(h:k<xs.length):bS B (xs.drop k)=xs.getD k 0+B*bS B (xs.drop (k+1)):=by
 rw[rS h,bS];simp[aN,cZ h]
theorem KX(B:Nat)(xs qs:List Nat)(k d r n:Nat)(hk:k<xs.length)(hq:k<qs.length)
 (h:bS B (xs.drop (k+1))=bS B (qs.drop (k+1))*d+r)(hn:n=r*B+xs.getD k 0):
 bS B (xs.drop k)=bS B ((qs.set k (n/d)).drop k)*d+n%d:=by
 rw[fO B xs k hk,h,fO B (qs.set k (n/d)) k (by simpa using hq),Ak _ _ _ hq];have e:(qs.set k (n/d)).drop (k+1)=qs.drop (k+1):=by
  apply Cp
  ·simp
  ·intro i h1 h2;simp[show k≠k+1+i by omega]
 rw[e];have e2:=jU n d;have e3:(n/d+B*bS B (qs.drop (k+1)))*d=d*(n/d)+B*(bS B (qs.drop (k+1))*d):=by rw[gU,cK (n/d),fE]
 have e4:B*(bS B (qs.drop (k+1))*d+r)=B*(bS B (qs.drop (k+1))*d)+r*B:=by rw[fY,cK B r]
 omega
theorem Re{B d r x:Nat}(hd:0<d)(hr:r<d)(hx:x<B):(r*B+x)/d<B:=by
 rw[Nat.div_lt_iff_lt_mul hd];have:(r+1)*B≤d*B:=eG _ hr;rw[gU,Ah]at this;have e:d*B=B*d:=cK _ _;omega
theorem OT{d m q r:Nat}(hr:r<d)(h:m=q*d+r):q=m/d∧r=m%d:=by
 have hd:0<d:=by omega
 constructor
 ·rw[h,FL,Nat.add_mul_div_right _ _ hd,oU hr,gL]
 ·rw[h,FL,Nat.add_mul_mod_self_right,fU hr]
theorem NC(xs:List Nat)(n k:Nat)(h:∀i,k≤i→i<n→xs.getD i 0=0)(h1:xs.getD (k-1) 0=0):∀i,k-1≤i→i<n→xs.getD i 0=0:=by
 intro i hi hn;by_cases e:i=k-1
 ·rw[e];exact h1
 ·exact h i (by omega) hn
theorem J2(xs:List Nat):(jS xs).length≤xs.length:=by
 induction xs with
 |nil=>simp[jS]
 |cons x xs ih=>
  by_cases h:jS xs=[]
  ·rw[pR h];split <;>simp
  ·rw[vK h];simp;exact ih
theorem FX(xs:List Nat)(k:Nat)(hk:k≤xs.length)(hz:∀i,k≤i→i<xs.length→xs.getD i 0=0)(hn:k=0∨xs.getD (k-1) 0≠0):(jS xs).length=k:=by
 rw[Bm xs k hk hz hn,iW];omega
theorem Jn(xs:List Nat){i:Nat}(h:xs.length≤i):xs.getD i 0=0:=by simp[aN,jP h]
theorem MX(xs:List Nat):jS xs=xs.take (jS xs).length:=by
 induction xs with
 |nil=>rfl
 |cons x xs ih=>
  by_cases h:jS xs=[]
  ·rw[pR h];split <;>simp
  ·rw[vK h,cO,List.take_succ_cons,←ih]
theorem Ik(xs:List Nat){n:Nat}(h:xs.length=n):(jS xs).length≤n:=by rw[←h];exact J2 xs
theorem pS{B:Nat}(hB:2≤B)(n i:Nat):(bM B n).getD i 0=n/B^i%B:=by
 induction i generalizing n with
 |zero=>
  by_cases h:n=0
  ·subst h;rw[dO];simp
  ·rw[nO hB h];simp
 |succ i ih=>
  by_cases h:n=0
  ·subst h;rw[dO];simp
  ·rw[nO hB h];have:=ih (n/B);rw[pA,←Nat.pow_succ']at this;rw[←this];simp
theorem top2{B n k:Nat}(hB:2≤B)(h:n<B^(k+2)):n/B^(k+1)%B*B+n/B^k%B=n/B^k:=by
 have e:n/B^(k+1)=n/B^k/B:=by rw[pA,←dN]
 have hlt:n/B^k/B<B:=by
  rw[pA,←dN];refine X4 ?_;rw[←dN];exact h
 rw[e,fU hlt,cK];exact jU _ _
theorem top3{B n k:Nat}(hB:2≤B)(h:n<B^(k+3)):(n/B^(k+2)%B*B+n/B^(k+1)%B)*B+n/B^k%B=n/B^k:=by
 have e1:=top2 (k:=k+1) hB (show n<B^(k+1+2)from h);rw[show k+1+1=k+2 by omega]at e1;rw[e1];have e:n/B^(k+1)=n/B^k/B:=by rw[pA,←dN]
 rw[e,cK];exact jU _ _
theorem ei(R N P:Nat)(hP:0<P):R/P/(N/P+1)*N≤R:=by
 have h1:R/P/(N/P+1)*(N/P+1)≤R/P:=oL _ _
 have h2:N≤(N/P+1)*P:=by
  have:=jU N P
  have h3:=fW N hP
  rw[gU,Ah,cK];omega
 calc R/P/(N/P+1)*N≤R/P/(N/P+1)*((N/P+1)*P):=mT _ h2
  _=R/P/(N/P+1)*(N/P+1)*P:=by rw[fE]
  _≤R/P*P:=eG _ h1
  _≤R:=oL R P
theorem Rg{R N B G:Nat}(hR:R<N*B)(hG:G*N≤R):G<B:=by
 rcases fC G B with h|h
 ·exact h
 ·have:B*N≤G*N:=eG _ h;rw[cK N B]at hR;omega
theorem Yj(B:Nat)(xs qs:List Nat)(k N R G R':Nat)(hk:k<xs.length)(hq:k<qs.length)
 (h:bS B (xs.drop (k+1))=bS B (qs.drop (k+1))*N+R)(hn:R*B+xs.getD k 0=G*N+R'):
 bS B (xs.drop k)=bS B ((qs.set k G).drop k)*N+R':=by
 rw[fO B xs k hk,h,fO B (qs.set k G) k (by simpa using hq),Ak _ _ _ hq];have e:(qs.set k G).drop (k+1)=qs.drop (k+1):=by
  apply Cp
  ·simp
  ·intro i h1 h2;simp[show k≠k+1+i by omega]
 rw[e];have e3:(G+B*bS B (qs.drop (k+1)))*N=G*N+B*(bS B (qs.drop (k+1))*N):=by rw[gU,fE]
 have e4:B*(bS B (qs.drop (k+1))*N+R)=B*(bS B (qs.drop (k+1))*N)+R*B:=by rw[fY,cK B R]
 omega
end
section
open Go Go.RowKit
theorem nJ{k:IntKind}{a b:Int}(h:a=b):aO (aF k a)=aO (aF k b):=by rw[h]
theorem FY{a b:Bool}(h:a=b):aO (.bool a)=aO (.bool b):=by rw[h]
def bs(l:List UInt8):ByteArray:=⟨l.toArray⟩
theorem aX(l:List UInt8):(bs l).data.toList=l:=rfl
theorem bU(l:List UInt8):(bs l).size=l.length:=by simp[bs,ByteArray.size]
theorem WG(s:ByteArray):bs s.data.toList=s:=by cases s;simp[bs]
theorem Em{s:ByteArray}{l:List UInt8}(h:s.data.toList=l):s=bs l:=by rw[←h,WG]
abbrev iv(n:Nat):bB:=aF aG (n:Int)
def Rd(w:aE)(a:Option dE)(xs:List Nat):Prop:=
 ∀i,i<xs.length→∃b off,a=some ⟨b,off,none⟩∧w.cell? ⟨b,off+i,none⟩=some (iv (xs.getD i 0))
theorem Rd.below{w w':aE}{a:Option dE}{xs:List Nat}(h:Rd w a xs)(hb:aJ w.heap.size w w'):Rd w' a xs:=by
 intro i hi;obtain⟨b,off,rfl,hc⟩:=h i hi;have hlt:=World.block_lt_of_cell? w ⟨b,off+i,none⟩ hc;exact⟨b,off,rfl,(hb.cell (p:=⟨b,off+i,none⟩) hlt).trans hc⟩
theorem Rd.nil(w:aE)(a:Option dE):Rd w a []:=fun i hi=>absurd hi (by simp)
theorem Rd.take{w:aE}{a:Option dE}{xs:List Nat}(h:Rd w a xs)(k:Nat):Rd w a (xs.take k):=by
 intro i hi;rw[iW]at hi;obtain⟨b,off,e,hc⟩:=h i (by omega);refine⟨b,off,e,?_⟩;rw[hc];simp[aN,show i<k by omega]
theorem Jo(xs:List Nat)(i:Nat)(h:i<xs.length):(xs.map iv)[i]? =some (iv (xs.getD i 0)):=by
 simp[aN,cZ h]
theorem Rd.own{w:aE}{base e:Nat}{a:Option dE}{n cap:Nat}{xs:List Nat}(h:w.ownsRow base e 1 (aB a n cap) n (xs.map iv)):Rd w a xs:=by
 intro i hi;have hl:=h.1;simp only[cG,nC]at hl;rcases h.2 with⟨_,h2⟩|⟨g,c,D7,hv,_⟩
 ·omega
 ·injection hv with e1 e2 e3;subst e1 e3;refine⟨g,0,rfl,?_⟩;have:=gJ h i (by omega);rw[gL,this,Jo xs i hi]
theorem En{a b c:aE}{uJ:Option Nat}(h:a.grownBy b none)(k:b.grownBy c uJ):a.grownBy c uJ:=
 ⟨k.os.trans h.os,k.tape.trans h.tape,k.output.trans h.output,cC h.size k.size,fun i hi lE=>(k.block i (bQ hi h.size) lE).trans (h.block i hi (by simp))⟩
theorem ND(w:aE)(xC:List bB)(e:Ii):∀j u,xC[j]? =some u→(w.alloc (aL xC.toArray e)).cell? ((⟨w.heap.size,0,none⟩:dE).add j)=some u:=by
 intro j u hj;have:(⟨w.heap.size,0,none⟩:dE).add j=⟨w.heap.size,j,none⟩:=by unfold Addr.add;split <;>simp_all
 rw[this,cell_of_row _ _ j xC.toArray e (0,0) (heap_alloc_new w _)];simpa using hj
theorem dJ{w:aE}{base e size:Nat}{g n cap:Nat}{cs:List bB}(h:w.ownsRow base e size (aB (some ⟨g,0,none⟩) n cap) n cs):base≤g∧g<w.heap.size∧n≤cap∧cap≤cA:=by
 rcases h.2 with⟨h1,_⟩|⟨g',c,D7,hv,hb,hg,hn,hc,_⟩
 ·simp at h1
 ·injection hv with e1 e2 e3;injection e1 with e1;injection e1 with e1;subst e1 e3;exact⟨hb,(Array.getElem?_eq_some_iff.1 hg).1,hn,hc⟩
theorem Du{W:aE}{base e size:Nat}{v:bB}{k:Nat}{xs:List bB}(h:W.ownsRow base e size v (k+1) xs):∃g cap,v=aB (some ⟨g,0,none⟩) (k+1) cap:=by
 rcases h.2 with⟨_,h2⟩|⟨g,cap,D7,hv,_⟩
 ·omega
 ·exact⟨g,cap,hv⟩
theorem FZ{W:aE}{base e size:Nat}{v:bB}{n:Nat}{xs:List bB}(hn:0<n)(h:W.ownsRow base e size v n xs):∃g cap,v=aB (some ⟨g,0,none⟩) n cap:=by
 rcases h.2 with⟨_,h2⟩|⟨g,cap,D7,hv,_⟩
 ·omega
 ·exact⟨g,cap,hv⟩
theorem sI{P:X6}{w:aE}{fA:Array A8}{rest:List A8}{o:A8}{a:Act}{Q:Exit→Act→aE→Prop}(FD:o.guard=none)(s x:ut)(t:Ii)
 (ho:o.op=.call {callee:=.builtin .append,args:= #[s,x],argTypes:= #[t,t]})
 (base:Nat)(e:Ii)(i:TypeInfo)(z:bB)(size bytes:Nat)(ht:P.underlying t=some (TypeDesc.slice e))(hi:P.info? e=some i)(hz:i.zero=some z)
 (hsize:i.size=size)(hby:i.bytes=bytes)(sq:z.cells.size=size)(oB:0<size)
 (v:bB)(n:Nat)(xs:List bB)(hs:a.eval s=v)(hown:w.ownsRow base e size v n xs)
 (xC:List bB)(hx:a.eval x=aB (some ⟨w.heap.size,0,none⟩) 1 1)(hl:xC.length=size)(h1:∀u∈xC,u.oneCell'=true)
 (QI:n+1≤2147483648)(hbytes:bytes≤4096)(lK:base≤w.heap.size)
 (h:∀g cap w',w'.ownsRow base e size (aB (some ⟨g,0,none⟩) (n+1) cap) (n+1) (xs++xC)→base≤g→w.grownBy w' v.ownBlock→
  Dm P fA Q rest (a.put o.dst (aB (some ⟨g,0,none⟩) (n+1) cap)) w'):
 Dm P fA Q (o::rest) a (w.alloc (aL xC.toArray e)):=by
 refine wpList_append_own _ FD s x t ho base e i z size bytes ht hi hz hsize hby sq oB v n xs hs (hown.alloc _) ⟨w.heap.size,0,none⟩ 1 1 xC hx (by simp[hl]) (ND w xC e) h1
  (by simp only[cA];omega) (cC (Nat.mul_le_mul QI hbytes) (by decide)) (by simp;omega) ?_
 intro v' w' vR hg KY;obtain⟨g',F3,rfl⟩:=Du vR;exact h g' F3 w' vR (dJ vR).1 (En (World.grownBy_alloc w _ none) hg)
theorem dB{B:Nat}{a w w':aE}{v:bB}{base e size n:Nat}{cs:List bB}(h:aJ B a w)(hg:w.grownBy w' v.ownBlock)(hown:w.ownsRow base e size v n cs)(hB:B≤base)(hs:B≤w.heap.size):aJ B a w':=
 h.grown hg hs fun k hk=>cC hB (hown.lt k hk).1
theorem Yk{w:aE}{base e:Nat}{g n cap k:Nat}{xs:List bB}(h:w.ownsRow base e 1 (aB (some ⟨g,0,none⟩) n cap) n xs)(hk:k≤n):
 w.ownsRow base e 1 (aB (some ⟨g,0,none⟩) k cap) k (xs.take k):=by
 have hl:=h.1;rw[nC]at hl;rcases h.2 with⟨h1,_⟩|⟨g',c,D7,hv,hb,hg,hn,hc,hs,ht⟩
 ·simp at h1
 ·injection hv with e1 e2 e3;subst e3;refine⟨by simp;omega,.inr ⟨g',cap,D7,by rw[e1],hb,hg,by omega,hc,hs,?_⟩⟩;rw[←ht,nC,nC,List.take_take,sY hk]
def RB:Nat:=1000000
def PB:Nat:=1000000000
theorem cN:2≤RB:=by decide
theorem cR:2≤PB:=by decide
def nR(w:aE)(v:bB)(B N:Nat):Prop:=
 ∃a n cap,v=aB a n cap∧(bM B N).length=n∧n≤cap∧cap≤cA∧(a=none→cap=0)∧Rd w a (bM B N)
def mI(w:aE)(base:Nat)(v:bB)(B N:Nat):Prop:=
 ∃g n cap,v=aB (some ⟨g,0,none⟩) n cap∧w.ownsRow base 3 1 (aB (some ⟨g,0,none⟩) n cap) n ((bM B N).map iv)
theorem mI.inL{w:aE}{base:Nat}{v:bB}{B N:Nat}(h:mI w base v B N):nR w v B N:=by
 obtain⟨g,n,cap,rfl,h⟩:=h;have:=dJ h;have hl:=h.1;simp only[cG,nC]at hl;exact⟨_,n,cap,rfl,hl,this.2.2.1,this.2.2.2,by simp,Rd.own h⟩
theorem nR.below{w w':aE}{v:bB}{B N:Nat}(h:nR w v B N)(hb:aJ w.heap.size w w'):nR w' v B N:=by
 obtain⟨a,n,cap,e,h1,h2,h3,h4,h5⟩:=h;exact⟨a,n,cap,e,h1,h2,h3,h4,h5.below hb⟩
theorem jF{w:aE}{base g n cap B N:Nat}{os:List Nat}(hB:2≤B)(h:w.ownsRow base 3 1 (aB (some ⟨g,0,none⟩) n cap) n (os.map iv))
 (hn:os.length=n)(hl:∀x∈os,x<B)(hv:bS B os=N):mI w base (aB (some ⟨g,0,none⟩) (jS os).length cap) B N:=by
 refine⟨g,_,cap,rfl,?_⟩;have:=Yk h (Ik os hn);rw[←List.map_take,←MX,KW hB os hl hv]at this;rw[KW hB os hl hv];exact this
theorem cT{w w':aE}{base e size n:Nat}{v:bB}{xs:List bB}(h:w.ownsRow base e size v n xs)(hb:aJ w.heap.size w w'):w'.ownsRow base e size v n xs:=by
 refine⟨h.1,?_⟩;rcases h.2 with h1|⟨g,cap,D7,hv,hg,hh,r⟩
 ·exact .inl h1
 ·exact .inr ⟨g,cap,D7,hv,hg,(hb.block g (Array.getElem?_eq_some_iff.1 hh).1).trans hh,r⟩
theorem gN{w:aE}{base base' e size n:Nat}{v:bB}{xs:List bB}(h:w.ownsRow base e size v n xs)(hb:base'≤base):w.ownsRow base' e size v n xs:=by
 refine⟨h.1,?_⟩;rcases h.2 with h1|⟨g,cap,D7,hv,hg,r⟩
 ·exact .inl h1
 ·exact .inr ⟨g,cap,D7,hv,cC hb hg,r⟩
theorem mI.below{w w':aE}{base:Nat}{v:bB}{B N:Nat}(h:mI w base v B N)(hb:aJ w.heap.size w w'):mI w' base v B N:=by
 obtain⟨g,n,cap,e,h⟩:=h;exact⟨g,n,cap,e,cT h hb⟩
theorem mI.mono{w:aE}{base base':Nat}{v:bB}{B N:Nat}(h:mI w base v B N)(hb:base'≤base):mI w base' v B N:=by
 obtain⟨g,n,cap,e,h⟩:=h;exact⟨g,n,cap,e,gN h hb⟩
theorem mI.nil(w:aE)(base B:Nat)(hb:base≤w.heap.size):mI (w.alloc (aL #[] 3)) base (aB (some ⟨w.heap.size,0,none⟩) 0 0) B 0:=by
 refine⟨_,0,0,rfl,?_⟩;rw[dO];exact jJ w #[] 0 hb (by simp[cA]) rfl
theorem aH{B:Nat}{a w w':aE}(h:aJ B a w)(k:aJ w.heap.size w w')(hB:B≤w.heap.size):aJ B a w':=h.trans (k.mono hB)
theorem cb{P:X6}{f:FuncId}{a:Array bB}{W:aE}{v:bB}{w:aE}{R:Ending→aE→Prop}(H:aQ P f a W (Rt (v) W))(hB:aJ w.heap.size w W)(k:∀W',aJ W.heap.size W W'→aJ w.heap.size w W'→R (aO v) W'):aQ P f a W R:=
 H.mono fun _ W' h=>by obtain⟨rfl,h⟩:=h;exact k W' h (aH hB h hB.size)
def bZ(w:aE)(b:Nat)(cs:Array bB)(T:Ii):Prop:=w.heap[b]? =some (aL cs T (0,0))
section
variable{w w':aE}{b:Nat}{cs:Array bB}{T:Ii}
theorem bZ.cell(h:bZ w b cs T)(j:Nat):w.cell? ⟨b,j,none⟩=cs[j]? :=cell_of_row w b j cs T (0,0) h
theorem bZ.fz(h:bZ w b cs T)(j:Nat):w.frozen? ⟨b,j,none⟩=false:=frozen_of_row w b j cs T h
theorem bZ.lt(h:bZ w b cs T):b<w.heap.size:=(Array.getElem?_eq_some_iff.1 h).1
theorem bZ.new(w:aE)(cs:Array bB)(T:Ii):bZ (w.alloc (aL cs T)) w.heap.size cs T:=heap_alloc_new w _
theorem bZ.alloc(h:bZ w b cs T)(o:Obj):bZ (w.alloc o) b cs T:=(Below.heap_alloc w o b (Array.getElem?_eq_some_iff.1 h).1).trans h
theorem bZ.drewN(h:bZ w b cs T)(n:Nat):bZ (w.drewN n) b cs T:=h
theorem bZ.set(h:bZ w b cs T)(j:Nat)(v:bB):bZ (w.setCell ⟨b,j,none⟩ v) b (cs.setIfInBounds j v) T:=heap_setCell_same w b j cs T v h
theorem bZ.other(h:bZ w b cs T){a:dE}(v:bB)(lE:b≠a.block):bZ (w.setCell a v) b cs T:=(Dn w a b v lE).trans h
theorem bZ.below(h:bZ w b cs T){B:Nat}(hb:aJ B w w')(hlt:b<B):bZ w' b cs T:=(hb.block b hlt).trans h
theorem bZ.grown(h:bZ w b cs T){uJ:Option Nat}(hg:w.grownBy w' uJ)(lE:some b≠uJ):bZ w' b cs T:=(hg.block b h.lt lE).trans h
end
theorem fzk{W w':aE}{p:dE}(hb:aJ W.heap.size W w')(hp:p.block<W.heap.size)(h:W.frozen? p=false):w'.frozen? p=false:=
 (hb.frozen hp).trans h
theorem gQ{w:aE}{base e size n:Nat}{v:bB}{xs:List bB}(h:w.ownsRow base e size v n xs){a:dE}(ha:a.block<base)(u:bB):(w.setCell a u).ownsRow base e size v n xs:=
 ownsRow_setCell_below h ha u
theorem mI.set_other{w:aE}{base:Nat}{v:bB}{B N:Nat}(h:mI w base v B N){a:dE}(ha:a.block<base)(u:bB):mI (w.setCell a u) base v B N:=by
 obtain⟨g,n,cap,e,h⟩:=h;exact⟨g,n,cap,e,gQ h ha u⟩
theorem cX{w:aE}{base e size n cap g:Nat}{xs:List bB}(h:w.ownsRow base e size (aB (some ⟨g,0,none⟩) n cap) n xs){a:dE}(ha:g≠a.block)(u:bB):
 (w.setCell a u).ownsRow base e size (aB (some ⟨g,0,none⟩) n cap) n xs:=by
 refine⟨h.1,?_⟩;rcases h.2 with⟨h1,_⟩|⟨g',c,D7,hv,hb,hg,r⟩
 ·simp at h1
 ·injection hv with e1 e2 e3;injection e1 with e1;injection e1 with e1;subst e1 e3;exact .inr ⟨g,cap,D7,rfl,hb,(Dn w a g u ha).trans hg,r⟩
theorem kS{w:aE}{base e size n:Nat}{v:bB}{xs:List bB}(h:w.ownsRow base e size v n xs){b:Nat}(hb:b<base):some b≠v.ownBlock:=by
 intro e;have:=h.lt b e.symm;omega
def WH:bB→Nat
 |aB _ n _=>n
 |_=>0
theorem vS(a:Option dE)(cap n:Nat)(xs:List Nat)(w:aE)(hn:xs.length=n)(hx:n≤cap)(hc:cap≤cA)(hr:Rd w a xs):
 aQ aC 202 #[aB a n cap] w fun e w'=>e=aO (aB a (jS xs).length cap)∧w=w':=by
 unfold cA at hc;have Hn:=zq hn;clear hn;have Hr:=zq hr;clear hr;go_enter func202,ntmps202;go_wp2;go_loop [0] (fun v=>∃k:Nat,v=aB a k cap∧k≤n∧Hid (∀i,k≤i→i<n→xs.getD i 0=0)) WH;case atStart=>exact⟨n,rfl,aD _,fun i h1 h2=>by omega⟩
 case round=>
  obtain⟨k,rfl,hk,hz⟩:=hrel;by_cases h0:0<k
  ·obtain⟨b,off,rfl,pT⟩:=Hr.out (k-1) (by rw[Hn.out];omega);by_cases h1:xs.getD (k-1) 0=0
   ·rw[h1]at pT;go_wp2;go_round;case rel=>exact⟨k-1,rfl,by omega,NC xs n k hz.out h1⟩
    case measure=>simp only[WH];omega
   ·have e:=FX xs k (by rw[Hn.out];exact hk) (by rw[Hn.out];exact hz.out) (.inr h1);have E:=zq e;clear e;have h2:((xs.getD (k-1) 0:Int)==0)=false:=by simp only[beq_eq_false_iff_ne,ne_eq];omega
    have H1:=zq h1;clear h1;generalize xs.getD (k-1) 0=y at *;go_wp2;go_ret;exact⟨by rw[E.out];rfl,rfl⟩
  ·obtain rfl:k=0:=by omega
   have e:=FX xs 0 (bR _) (by rw[Hn.out];exact hz.out) (.inl rfl);have E:=zq e;clear e;go_wp2;go_ret;exact⟨by rw[E.out];rfl,rfl⟩
theorem vT(a:Option dE)(cap n:Nat)(xs:List Nat)(w:aE)(hn:xs.length=n)(hx:n≤cap)(hc:cap≤cA)(hr:Rd w a xs)(ha:a=none→cap=0):
 aQ aC 237 #[aB a n cap] w fun e w'=>e=aO (aB a (jS xs).length cap)∧w=w':=by
 unfold cA at hc;have Hn:=zq hn;clear hn;have Hr:=zq hr;clear hr;have Ha:=zq ha;clear ha;go_enter func237,ntmps237;go_wp2;go_loop [3] (fun v=>∃k:Nat,v=aF aG k∧k≤n∧Hid (∀i,k≤i→i<n→xs.getD i 0=0)) (fun v=>(aK v).toNat);case atStart=>exact⟨n,rfl,aD _,fun i h1 h2=>by omega⟩
 case round=>
  obtain⟨k,rfl,hk,hz⟩:=hrel;by_cases h0:0<k
  ·obtain⟨b,off,rfl,pT⟩:=Hr.out (k-1) (by rw[Hn.out];omega);by_cases h1:xs.getD (k-1) 0=0
   ·rw[h1]at pT;go_wp2;go_round;case rel=>exact⟨k-1,by go_num,by omega,NC xs n k hz.out h1⟩
    case measure=>simp only[aK];omega
   ·have e:=FX xs k (by rw[Hn.out];exact hk) (by rw[Hn.out];exact hz.out) (.inr h1);have E:=zq e;clear e;have h2:((xs.getD (k-1) 0:Int)==0)=false:=by simp only[beq_eq_false_iff_ne,ne_eq];omega
    have H1:=zq h1;clear h1;generalize xs.getD (k-1) 0=y at *;go_wp2;go_ret;exact⟨by rw[E.out];rfl,rfl⟩
  ·obtain rfl:k=0:=by omega
   have e:=FX xs 0 (bR _) (by rw[Hn.out];exact hz.out) (.inl rfl);have E:=zq e;clear e;cases a with
   |none=>
    obtain rfl:=Ha.out rfl;go_wp2;go_ret;exact⟨by rw[E.out];rfl,rfl⟩
   |some a=>
    go_wp2;go_ret;exact⟨by rw[E.out];rfl,rfl⟩
theorem yE(a:Option dE)(cap n:Nat)(i:Int)(xs:List Nat)(w:aE)(hn:xs.length=n)(hr:Rd w a xs)(h0:0≤i):
 aQ aC 204 #[aB a n cap,aF aG i] w fun e w'=>e=aO (iv (xs.getD i.toNat 0))∧w=w':=by
 obtain⟨i,rfl⟩:=TO h0;rw[gX];clear h0;by_cases h:i<xs.length
 ·obtain⟨b,off,rfl,pT⟩:=hr i h;clear hr;have h':i<n:=by omega
  clear h hn;generalize xs.getD i 0=y at *;go_enter func204,ntmps204;go_wp2;go_ret;exact⟨rfl,rfl⟩
 ·have e:xs.getD i 0=0:=by simp[aN,jP (by omega:xs.length≤i)]
  have E:=zq e;clear e hr;have h':¬i<n:=by omega
  clear h hn;go_enter func204,ntmps204;go_wp2;go_ret;exact⟨by rw[E.out];rfl,rfl⟩
theorem yF(a:Option dE)(cap n:Nat)(i:Int)(xs:List Nat)(w:aE)(hn:xs.length=n)(hr:Rd w a xs)(h0:0≤i):
 aQ aC 239 #[aB a n cap,aF aG i] w fun e w'=>e=aO (iv (xs.getD i.toNat 0))∧w=w':=by
 obtain⟨i,rfl⟩:=TO h0;rw[gX];clear h0;by_cases h:i<xs.length
 ·obtain⟨b,off,rfl,pT⟩:=hr i h;clear hr;have h':i<n:=by omega
  clear h hn;generalize xs.getD i 0=y at *;go_enter func239,ntmps239;go_wp2;go_ret;exact⟨rfl,rfl⟩
 ·have e:xs.getD i 0=0:=by simp[aN,jP (by omega:xs.length≤i)]
  have E:=zq e;clear e hr;have h':¬i<n:=by omega
  clear h hn;go_enter func239,ntmps239;go_wp2;go_ret;exact⟨by rw[E.out];rfl,rfl⟩
theorem K7:(Tryz.prog.info? 3).map (fun i=>(i.zero,i.size,i.bytes))=some (some (aF aG 0),1,8):=by kernel_rfl
theorem Bp{w:aE}{fA:Array A8}{rest:List A8}{o:A8}{a:Act}{Q:Exit→Act→aE→Prop}(FD:o.guard=none)(s x:ut)
 (ho:o.op=.call {callee:=.builtin .append,args:= #[s,x],argTypes:= #[179,179]})(base:Nat)
 (v:bB)(n:Nat)(xs:List bB)(hs:a.eval s=v)(hown:w.ownsRow base 3 1 v n xs)
 (y:bB)(hx:a.eval x=aB (some ⟨w.heap.size,0,none⟩) 1 1)(h1:y.oneCell'=true)
 (QI:n+1≤2147483648)(lK:base≤w.heap.size)
 (h:∀g cap w',w'.ownsRow base 3 1 (aB (some ⟨g,0,none⟩) (n+1) cap) (n+1) (xs++[y])→base≤g→w.grownBy w' v.ownBlock→
  Dm aC fA Q rest (a.put o.dst (aB (some ⟨g,0,none⟩) (n+1) cap)) w'):
 Dm aC fA Q (o::rest) a (w.alloc (aL #[y] 3)):=by
 obtain⟨i0,hi,D8,uY,hz2⟩:=OG K7;exact sI FD s x 179 ho base 3 i0 (aF aG 0) 1 8 H8 hi D8 uY hz2 rfl (by decide) v n xs hs hown [y] hx rfl (by simpa using h1) QI (by decide) lK h
theorem ej{w:aE}{fA:Array A8}{rest:List A8}{o:A8}{a:Act}{Q:Exit→Act→aE→Prop}(FD:o.guard=none)(s x:ut)
 (ho:o.op=.call {callee:=.builtin .append,args:= #[s,x],argTypes:= #[179,179]})(base:Nat)
 (v:bB)(n:Nat)(xs:List bB)(hs:a.eval s=v)(hown:w.ownsRow base 3 1 v n xs)
 (ad:dE)(m c:Nat)(xC:List Nat)(hx:a.eval x=aB (some ad) m c)(hl:xC.length=m)(hr:Rd w (some ad) xC)
 (QI:n+m≤2147483648)(hn:0<n)(lK:base≤w.heap.size)
 (h:∀g cap w',w'.ownsRow base 3 1 (aB (some ⟨g,0,none⟩) (n+m) cap) (n+m) (xs++xC.map iv)→base≤g→w.grownBy w' v.ownBlock→
  Dm aC fA Q rest (a.put o.dst (aB (some ⟨g,0,none⟩) (n+m) cap)) w'):
 Dm aC fA Q (o::rest) a w:=by
 obtain⟨i0,hi,D8,uY,hz2⟩:=OG K7;refine wpList_append_own _ FD s x 179 ho base 3 i0 (aF aG 0) 1 8 H8 hi D8 uY hz2 rfl (by decide) v n xs hs hown ad m c (xC.map iv) hx (by simp[hl]) ?_ ?_
  (by simp only[cA];omega) (by omega) lK ?_
 ·intro j u hu;rw[List.getElem?_map]at hu;have hj:j<xC.length:=by
   rcases fC j xC.length with h|h
   ·exact h
   ·rw[jP h]at hu;simp at hu
  obtain⟨b,off,e,hc⟩:=hr j hj;have e:=vI e;subst e;rw[cZ hj]at hu;simp only[Option.map_some,uH]at hu;have ha:(⟨b,off,none⟩:dE).add j=⟨b,off+j,none⟩:=by unfold Addr.add;split <;>simp_all
  rw[ha,hc,←hu];simp[aN,cZ hj]
 ·intro u hu;obtain⟨y,_,rfl⟩:=List.mem_map.1 hu;rfl
 ·intro v' w' vR hg _;obtain⟨g',F3,rfl⟩:=FZ (by omega) vR;exact h g' F3 w' vR (dJ vR).1 hg
theorem yG{w:aE}{fA:Array A8}{rest:List A8}{o:A8}{a:Act}{Q:Exit→Act→aE→Prop}(FD:o.guard=none)(l c:ut)
 (ho:o.op=Op.makeSlice 179 l c)(base:Nat)(L:Int)(n:Nat)(hl:a.eval l=aF aG L)(hc:a.eval c=aF aG L)(hL:L=(n:Int))
 (hn:n≤2147483648)(lK:base≤w.heap.size)
 (h:∀w',w'.ownsRow base 3 1 (aB (some ⟨w.heap.size,0,none⟩) n n) n ((bY n 0).map iv)→w.grownBy w' none→
  Dm aC fA Q rest (a.put o.dst (aB (some ⟨w.heap.size,0,none⟩) n n)) w'):
 Dm aC fA Q (o::rest) a w:=by
 obtain⟨i0,hi,D8,uY,hz2⟩:=OG K7;refine wpList_make_full _ FD l c 179 ho base 3 i0 (aF aG 0) 1 H8 hi D8 uY aG aG L L n hl hc hL hL (by rw[hz2];omega) (by simp only[cA];omega) lK ?_;intro w' hown hg;refine h w' ?_ hg;have e:(madeCells (aF aG 0).cells (n*1)).toList=(bY n 0).map iv:=by
  rw[nC,show(aF aG 0).cells= #[aF aG 0]from rfl,toList_madeCells_one,List.map_replicate];rfl
 rw[←e];exact hown
section
variable{P:X6}{f:FuncId}{ar:Array bB}{W:aE}{v:bB}{S:aE→Prop}{R:Ending→aE→Prop}{p r:Prop}
theorem ka(H:aQ P f ar W fun e w'=>e=aO v∧S w')(k:∀w',S w'→R (aO v) w'):aQ P f ar W R:=
 (H.mono fun _ w'⟨h1,h2⟩=>h1▸k w' h2)
theorem kb{a:aE}(H:aQ P f ar W (Rt (v) W))(B:aJ a.heap.size a W)(k:∀w',Hid (aJ a.heap.size a w')→R (aO v) w'):aQ P f ar W R:=
 (H.mono fun _ w'⟨h1,h2⟩=>h1▸k w' (aH B h2 B.size))
theorem kc{a:aE}(H:aQ P f ar W (Rt (v) W))(B:aJ a.heap.size a W)(k:∀w',aJ a.heap.size a w'→R (aO v) w'):aQ P f ar W R:=
 (H.mono fun _ w'⟨h1,h2⟩=>h1▸k w' (aH B h2 B.size))
theorem kr(H:aQ P f ar W fun e w'=>e=aO v∧W=w')(k:R (aO v) W):aQ P f ar W R:=
 (H.mono fun _ _⟨h1,h2⟩=>h1▸h2▸k)
end
theorem nm{α:Type}(a:α):∃x,a=x:=⟨a,rfl⟩
theorem bZ.ce{w:aE}{b:Nat}{cs:Array bB}{T:Ii}(h:bZ w b cs T)(i:Nat){v:bB}(e:cs[i]? =some v:=by(simp only[List.getElem?_toArray,List.getElem?_cons_zero,List.getElem?_cons_succ];exact rfl)):w.cell? ⟨b,i,none⟩=some v:=(h.cell i).trans e
theorem Yl{k n1 n2 cc:Nat}(h:(k<n1∨k<n2)∨0<cc)(hk:k≤1001)(h1:n1≤1000)(h2:n2≤1000)(hc:max n1 n2<k→cc=0):k≤1000:=by
 by_cases e:max n1 n2<k
 ·have:=hc e;omega
 ·omega
theorem Ym(a1 a2:Option dE)(c1 c2 n1 n2:Nat)(xs ys:List Nat)(w:aE)(hn1:xs.length=n1)(hn2:ys.length=n2)(hx:n1≤1000)(hy:n2≤1000)(h1:Rd w a1 xs)(h2:Rd w a2 ys)
 (hxl:∀x∈xs,x<RB)(Ct:∀y∈ys,y<RB):
  aQ aC 263 #[aB a1 n1 c1,aB a2 n2 c2] w fun e w'=>∃v,e=aO v∧mI w' w.heap.size v RB (bS RB xs+bS RB ys)∧aJ w.heap.size w w':=by
 have pI:=zq hn1;clear hn1;have qE:=zq hn2;clear hn2;have J5:=zq hxl;clear hxl;have Rh:=zq Ct;clear Ct;have H1:=zq h1;clear h1;have H2:=zq h2;clear h2;go_enter func263,ntmps263;go_wp2;go_loopw[5,6,7] (fun v c i wr=>∃(g cap k cc:Nat)(os:List Nat),v=aB (some ⟨g,0,none⟩) k cap∧i=aF aG k∧c=aF aG cc∧cc≤1∧k≤1001∧
  wr.ownsRow w.heap.size 3 1 (aB (some ⟨g,0,none⟩) k cap) k (os.map iv)∧aJ w.heap.size w wr∧Hid (os.length=k∧(∀x∈os,x<RB)∧bS RB os+cc*RB^k=bS RB (xs.take k)+bS RB (ys.take k)∧(max n1 n2<k→cc=0)))
  (fun _ _ i _=>2000-(aK i).toNat)
 case atStart=>
  refine⟨w.heap.size,0,0,0,[],rfl,rfl,rfl,by omega,by omega,?_,?_,?_⟩
  ·exact jJ w #[] 0 (aD _) (by simp[cA]) rfl
  ·exact(Below.refl _ _).alloc (aD _) _
  ·exact⟨rfl,by simp,by simp[bS],fun h=>by omega⟩
 case round=>
  obtain⟨g,cap,k,cc,os,rfl,rfl,rfl,hcc,hk,hown,hB,hH⟩:=hrel;go_upto_region 4 with fail
  go_cut[23] (fun v w'=>v=.bool (decide (k<n1)||decide (k<n2)||decide (0<cc))∧wr=w');case first =>
   by_cases e1:k<n1
   ·go_wp2;go_meet;case rel=>exact⟨by simp[e1],rfl⟩
   ·by_cases e2:k<n2
    ·go_wp2;go_meet;case rel=>exact⟨by simp[e2],rfl⟩
    ·by_cases e3:0<cc
     ·go_wp2;go_meet;case rel=>exact⟨by simp[e3],rfl⟩
     ·go_wp2;go_meet;case rel=>exact⟨by simp[e1,e2,e3],rfl⟩
  case rest=>
   obtain⟨rfl,rfl⟩:=hcut;go_wp2_with fail
   ·have sr:(k<n1∨k<n2)∨0<cc:=by assumption
    have Q7:k≤1000:=Yl sr (by omega) hx hy hH.out.2.2.2;have Hor:=zq sr;refine(yF a1 c1 n1 k xs wr pI.out (H1.out.below hB) (by omega)).mono ?_;rintro e w'⟨rfl,rfl⟩;rw[gX];have hX:xs.getD k 0≤999999:=by have:=eJ J5.out (by decide) k;unfold RB at this;omega
    generalize Dv:xs.getD k 0=X at *;have FE:=zq Dv;clear Dv;go_wp2_with fail
    refine kr (yF a2 c2 n2 k ys wr qE.out (H2.out.below hB) (by omega)) ?_;rw[gX];have hY:ys.getD k 0≤999999:=by have:=eJ Rh.out (by decide) k;unfold RB at this;omega
    generalize Eo:ys.getD k 0=Y at *;have Jp:=zq Eo;clear Eo;have uN:=hB.size;go_wp2_with (at_builtin;refine Bp rfl _ _ rfl w.heap.size _ _ _ rfl hown _ rfl rfl (by omega) uN ?_;intro g1 wU w1 eF hg1 gH)
    have Il:=dJ hown;have gG:aJ w.heap.size w w1:=dB hB gH hown (aD _) uN;clear hown gH hg1 Il hB;have hdig:(0:Int)≤(X:Int)+Y+cc:=by omega
    go_wp2;go_roundw;case rel=>
     have ev:aF aG ((X+Y+cc:Int)%1000000)=iv ((X+Y+cc)%RB):=by unfold RB iv;congr 1
     have eq:((X+Y+cc:Int)/1000000)=(((X+Y+cc)/RB:Nat):Int):=by unfold RB;omega
     refine⟨g1,wU,k+1,(X+Y+cc)/RB,os++[(X+Y+cc)%RB],rfl,by go_num,by rw[eq],by unfold RB;omega,by omega,?_,gG,?_⟩
     ·rw[List.map_append,List.map_singleton,←ev];exact eF
     ·obtain⟨q1,q2,q3,q4⟩:=hH.out;refine⟨by simp[q1],oA q2 (fW _ (by decide)),?_,fun UN=>?_⟩
      ·exact Nz RB os xs ys k cc (X+Y+cc) q1 q3 (by rw[FE.out,Jp.out])
      ·have:=q4;have hX0:X=0:=by rw[←FE.out];exact Jn xs (by rw[pI.out];omega)
       have bj:Y=0:=by rw[←Jp.out];exact Jn ys (by rw[qE.out];omega)
       unfold RB;omega
    case measure=>simp only[aK];omega
   ·have uN:=hB.size;have Il:=dJ hown;obtain⟨q1,q2,q3,q4⟩:=hH.out;have hend:(¬k<n1∧¬k<n2)∧¬0<cc:=by assumption
    have QJ:bS RB os=bS RB xs+bS RB ys:=by
     rw[fQ _ _ _ (by rw[pI.out];omega),fQ _ _ _ (by rw[qE.out];omega),show cc=0 by omega]at q3;omega
    have hQ:=zq q1;have xD:=Rd.own hown;clear q1 q3 q4 hend;refine(vT (some ⟨g,0,none⟩) cap k os wr hQ.out (by omega) Il.2.2.2 xD (by simp)).mono ?_;rintro e w'⟨rfl,rfl⟩;have pD:=zq (jF cN hown hQ.out q2 QJ);clear hown xD q2 QJ;go_wp2;go_ret;exact⟨_,rfl,pD.out,hB⟩
theorem ep(v1 v2:bB)(M N:Nat)(w:aE)(h1:nR w v1 RB M)(h2:nR w v2 RB N)(hM:(bM RB M).length≤1000)(hN:(bM RB N).length≤1000):
 aQ aC 263 #[v1,v2] w fun e w'=>∃v,e=aO v∧mI w' w.heap.size v RB (M+N)∧aJ w.heap.size w w':=by
 obtain⟨a1,n1,c1,rfl,q1,_,_,_,q5⟩:=h1;obtain⟨a2,n2,c2,rfl,p1,_,_,_,p5⟩:=h2;have:=Ym a1 a2 c1 c2 n1 n2 _ _ w q1 p1 (by omega) (by omega) q5 p5 (eA cN M) (eA cN N);rwa[cY cN,cY cN]at this
end
end Go.Proofs.YtcimoodjlopdaaaGreatDoor
