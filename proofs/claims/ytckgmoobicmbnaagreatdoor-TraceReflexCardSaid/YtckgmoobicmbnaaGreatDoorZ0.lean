import Derived.Lib.ItoaNum
import Derived.WalkKit
import Derived.Lib.Hide
import Derived.Lib.Strings
import Derived.Deep.Draws
import Derived.Maps.AppendAt
import Derived.Test.YtckgmoobicmbnaaGreatDoorProg
import Derived.WalkSpells
import Derived.WalkLawsBesides
import Derived.RegionTactic
import Derived.ChangeAlike
import Derived.Deep.QuietTactic
import Derived.BigQuiet
import Derived.Deep.DeepCutAuto
import Derived.Laws.BytesArg
import Derived.RangeFuncWrites
import Derived.RangeFuncBox
import Derived.RangeFuncNested
import Derived.RangeFuncBound
import Derived.RangeFuncCalls
import Derived.RangeFuncLeaves
import Derived.RangeFuncFrom
import Derived.Shelf.Abstract
import Derived.Shelf.RegionOpen
import Derived.OwnWalkIn
import Derived.TacticsInMore
import Derived.LoopNIn
import Derived.LoopIn
import Derived.Deep.RegionHeld3
import Derived.Shelf.LaysM
import Derived.Shelf.LaysC
import Derived.Shelf.Strconv.Itoa3
import Derived.Shelf.Strconv.AtoiAll
import Derived.Shelf.Small.Wraps
import Derived.Shelf.Strings.Prefix
import Derived.Shelf.Strings.SlTrimAscii
import Derived.Shelf.Strings.Cut
import Derived.Shelf.Strings.Repeat
import Derived.Lib.AtoiErrMem
import Derived.Lib.AppendIntMem
import Derived.WalkSmall
import Derived.OwnWalk
import Derived.Below
namespace Go.Proofs.YtckgmoobicmbnaaGreatDoor
set_option maxRecDepth 100000
set_option maxHeartbeats 8000000
set_option linter.all false
open Go.Proofs.Tryz
open _root_.Array renaming replicate_succ->bR,replicate_zero->bS
open _root_.Bool renaming and_eq_true->bK,or_eq_true->fJ,not_eq_true'->iH,false_eq_true->jQ,not_false->vM,not_true->BN
open _root_.ByteArray renaming size->Zb
open _root_.Go renaming World->aF,Value->aS,Calls->aW,bodyPost_ret->cI,Addr->cT,maxLen->dL,Program->dP,TypeId->eC,run_takeDeferred->fH,Oper->gL,KeepsFrom->gP,Act->kZ,heap_setCell_other->nY,ownFrom_below->oA,Operand->qV,results_none->tE,info_parts->vJ,Code->vK,Exit->yK,wpList->FH,callsIn_of_wp->GZ,Fence->Kh,run_endLoop->Ki,grownBy_putObj'->zm
open Go.Ending renaming returned->aQ
open Go.IntKind renaming i64->aE
open Go.IntWalk renaming u8_in->ma
open Go.KeepsFrom renaming refl->zp
open Go.KeepsOthers renaming setCell->cG
open Go.Lib renaming itoa->cM,decDigits->dN,hasPrefix->AY,trimPrefix->JI
open Go.Obj renaming cells->aJ,isCells->zk
open Go.Oper renaming semAt_some->dW
open Go.OwnFrom renaming and->cU
open Go.Proofs.Builder renaming Extra->lz
open Go.Proofs.Tryz renaming prog->aC,underlying3->eR,underlying4->gE,zeroValue4->iJ,zeroValue3->jD,isAgg3->kG,underlying9->lF,sizeOf4->lK,zeroValue9->mJ,sizeOf3->mU,isAgg4->nG,underlying5->nN,zeroValue5->oK,sizeOf9->pY,underlying227->sB,isAgg9->sG,zeroValue227->tM,sizeOf5->uR,underlying0->vY,isAgg5->wO,zeroValue0->xV,sizeOf227->yM,underlying301->yN,zeroValue301->Af,isAgg227->AX,func313->Dd,sizeOf0->Df,sizeOf301->D0,isAgg0->Fs,isAgg301->FJ,underlying266->G9,underlying303->Hu,underlying20->Je,zeroValue266->Jf,zeroValue303->Jg,zeroValue20->Kj,results278->MJ,sizeOf266->NL,sizeOf303->NM,sizeOf20->QL,isAgg266->QM,isAgg303->QN,isAgg20->UI,underlying194->ia,underlying315->ib,underlying317->ic,underlying340->ie,underlying341->ig,underlying378->ii,underlying379->ij,underlying320->ik,underlying321->il,underlying375->im,underlying391->io,zeroValue315->kn,zeroValue317->ko,zeroValue340->ku,zeroValue378->kw,zeroValue379->li,underlying21->lj,zeroValue320->ll,zeroValue321->lp,zeroValue375->lu,zeroValue391->lv,underlying2->zn,zeroValue21->zo
open Go.RowKit renaming intOf->aK
open Go.RowKit.Below renaming refl->aH,heap_alloc->vS
open Go.Shelf renaming Ren->iK
open Go.Value renaming string->aA,slice->aB,int->aD,bool->aN,pointer->bA,tuple->cC
open Go.World renaming size_alloc->bB,block_lt_of_cell?->bG,putObj_heap_other->cH,putObj_heap_same->iZ,alloc_heap_new->kE
open Go.World.ownsRow renaming cellAt->eX
open _root_.Int renaming natCast_mul->lI,mul_comm->xX,fdiv_eq_ediv_of_nonneg->AZ,natCast_add->Et,neg_mul->MH,fmod_eq_emod_of_nonneg->Pb,ediv_emod_unique->Zc,sub_mul->Zd
open _root_.List renaming getElem?_cons_zero->aI,getElem?_toArray->aL,getD_eq_getElem?_getD->aO,set_cons_succ->bC,length_cons->bF,append_toArray->bU,replicate->bV,size_toArray->bW,length_nil->bY,cons_append->bZ,push_toArray->cD,nil_append->cL,length_map->cO,getElem?_eq_getElem->eO,length_take->fG,take_of_length_le->fM,eq_nil_of_length_eq_zero->fW,all_cons->jT,length_drop->jU,getElem?_eq_none->mI,mem_cons_self->oJ,mem_cons_of_mem->pX,foldl_cons->sE,range->vN,drop_eq_getElem_cons->AV,all_append->DE,ext_getElem->Kg,isEmpty_eq_false_iff->O9,foldl_append->km
open _root_.Nat renaming le_refl->aG,le_trans->bE,lt_of_lt_of_le->bL,zero_le->bN,pow_le_pow_right->bO,reduceAdd->cW,reduceSub->cX,mul_comm->dJ,gcd->dR,zero_add->dZ,mul_le_mul_right->eV,pow_succ->fC,mod_eq_of_lt->fE,eq_zero_or_pos->fF,lt_or_ge->fK,mod_lt->fU,mul_assoc->fV,mul_add->gD,add_mul->jH,mul_le_mul_left->lQ,strongRecOn->mP,zero_mul->oC,add_zero->oE,mul_left_comm->pD,pow_add->pE,div_add_mod->pF,div_eq_of_lt->sF,gcd_comm->sI,mul_one->sY,div_lt_self->wY,mul_lt_mul''->De,mul_zero->DZ,add_comm->MI,mod_add_div->M0,min_eq_left->M6,add_assoc->RG
open _root_.Option.some renaming injEq->rC
open _root_.Trans renaming trans->cB
open _root_.UInt8 renaming ofNat->zZ
section
open Go Go.RowKit
theorem zq{p:Prop}(h:p):Hid p:=h
abbrev Rt(v:aS)(w:aF)(e:Ending)(w':aF):Prop:=e=aQ v∧Below w.heap.size w w'
theorem ip.{u}{c:Prop}{h:Decidable c}(hc:c){α:Sort u}{t e:α}: @ite α c h t e=t:=if_pos hc
theorem iN.{u}{c:Prop}{h:Decidable c}(hc:¬c){α:Sort u}{t e:α}: @ite α c h t e=e:=if_neg hc
end
section
open Go Go.Lib
def eE(c:UInt8):Bool:=48≤c.toNat&&c.toNat≤57
def num(l:List UInt8):Nat:=l.foldl (fun a c=>a*10+(c.toNat-48)) 0
def mag(l:List UInt8):List UInt8:=if l.head? =some 45 then l.tail else l
def pG(l:List UInt8):Bool:= !l.isEmpty&&l.all eE&&(l.head? !=some 48||l.length==1)
def DJ(l:List UInt8):Bool:=pG (mag l)&&(l.head? !=some 45||mag l !=[48])
def fQ(l:List UInt8):Int:=if l.head? =some 45 then -(num (mag l):Int)else(num (mag l):Int)
theorem Pm{x k:Nat}(m:Nat)(h:x<10^k)(hk:k≤m):x<10^m:=bL h (bO (by decide) hk)
theorem mu(k m:Nat)(hk:k≤m):10^k≤10^m:=bO (by decide) hk
theorem one_pow(m:Nat)(h:0<m):1<10^m:=Nat.one_lt_pow (by omega) (by decide)
theorem KC(l:List UInt8)(c:UInt8):num (l++[c])=num l*10+(c.toNat-48):=by
 simp[num,km]
theorem Zl(l:List UInt8)(a:Nat):l.foldl (fun a c=>a*10+(c.toNat-48)) a=a*10^l.length+num l:=by
 induction l generalizing a with
 |nil=>simp[num]
 |cons c l ih=>
  have h:=ih (0*10+(c.toNat-48));have h':num (c::l)=(0*10+(c.toNat-48))*10^l.length+num l:=h;rw[sE,ih,h',bF,fC,jH,fV,dJ 10 (10^_),oC,dZ,RG]
theorem Ex(l r:List UInt8):num (l++r)=num l*10^r.length+num r:=by
 have h:num (l++r)=List.foldl (fun a c=>a*10+(c.toNat-48)) (num l) r:=by rw[num,km];rfl
 rw[h,Zl]
theorem KD(c:UInt8)(l:List UInt8):num (c::l)=(c.toNat-48)*10^l.length+num l:=by
 have:=Ex [c] l;simpa[num]using this
theorem nZ(l:List UInt8)(h:l.all eE=true):num l<10^l.length:=by
 induction l with
 |nil=>simp[num]
 |cons c l ih=>
  rw[jT,bK]at h;have h1:c.toNat-48≤9:=by have:=h.1;simp[eE]at this;omega
  have h2:=ih h.2;rw[KD,bF,fC];have:(c.toNat-48)*10^l.length≤9*10^l.length:=eV _ h1;omega
theorem xB(d:Nat)(h:d<10):eE (zZ (48+d))=true∧(zZ (48+d)).toNat=48+d:=by
 have:(zZ (48+d)).toNat=48+d:=by simp[UInt8.toNat_ofNat'];omega
 exact⟨by unfold eE;rw[this];simp;omega,this⟩
theorem jX{u:Nat}(h:u<10):dN u=[zZ (48+u)]:=by rw[dN,dif_pos h]
theorem qF{u:Nat}(h:¬u<10):dN u=dN (u/10)++[zZ (48+u%10)]:=by rw[dN,dif_neg h]
theorem vW{l r:List UInt8}(h:l≠[]):(l++r).head? =l.head? :=by
 cases l with
 |nil=>exact absurd rfl h
 |cons c l=>rfl
theorem mW(u:Nat):dN u≠[]:=by
 by_cases h:u<10
 ·rw[jX h];simp
 ·rw[qF h];simp
theorem mK(u:Nat):(dN u).all eE=true:=by
 induction u using mP with
 |_ u ih=>
  by_cases h:u<10
  ·rw[jX h,jT,(xB u h).1];rfl
  ·rw[qF h,DE,ih (u/10) (by omega),jT,(xB (u%10) (by omega)).1];rfl
theorem jK(u:Nat):num (dN u)=u:=by
 induction u using mP with
 |_ u ih=>
  by_cases h:u<10
  ·rw[jX h];simp only[num,sE,List.foldl_nil,(xB u h).2];omega
  ·rw[qF h,KC,ih (u/10) (by omega),(xB (u%10) (by omega)).2];omega
theorem Co(u:Nat)(h:u≠0):(dN u).head?≠some 48:=by
 induction u using mP with
 |_ u ih=>
  by_cases h1:u<10
  ·rw[jX h1];simp only[List.head?_cons,ne_eq,rC];intro e;have:=congrArg UInt8.toNat e;rw[(xB u h1).2]at this;simp at this;omega
  ·rw[qF h1,vW (mW _)];exact ih (u/10) (by omega) (by omega)
theorem jO:dN 0=[48]:=by rw[jX (by decide)];rfl
theorem D7(u:Nat):pG (dN u)=true:=by
 have h1:=mW u;have h2:=mK u;by_cases h:u=0
 ·subst h;rw[jO];decide
 ·have h3:=Co u h;simp[pG,h1,h2,h3]
theorem nW(l:List UInt8)(h:pG l=true):dN (num l)=l:=by
 obtain⟨n,hn⟩:∃n,l.length=n:=⟨_,rfl⟩;induction n using mP generalizing l with
 |_ n ih=>
  simp only[pG,bK,iH,O9]at h;obtain⟨⟨h1,h2⟩,h3⟩:=h;rcases List.eq_nil_or_concat l with e|⟨r,c,e⟩
  ·exact absurd e h1
  ·rw[List.concat_eq_append]at e;subst e;rw[DE,bK]at h2;have hc:eE c=true:=by simpa using h2.2
   have hc':48≤c.toNat∧c.toNat≤57:=by simpa[eE]using hc
   have ec:zZ (48+(c.toNat-48))=c:=by rw[show 48+(c.toNat-48)=c.toNat by omega];simp
   rw[KC];by_cases hr:r=[]
   ·subst hr;rw[show num []*10=0 from rfl,dZ,jX (by omega),ec];rfl
   ·have hh:r.head?≠some 48:=by
     simp only[fJ,bne_iff_ne,ne_eq,beq_iff_eq,List.length_append,bF,bY]at h3;rw[vW hr]at h3;rcases h3 with h3|h3
     ·exact h3
     ·have:=List.length_pos_iff.2 hr;omega
    have hok:pG r=true:=by simp[pG,hr,h2.1,hh]
    have Zm:=ih r.length (by simp at hn;omega) r hok rfl;have hpos:num r≠0:=by
     intro e0;rw[e0,jO]at Zm;rw[←Zm]at hh;simp at hh
    rw[qF (by omega),show(num r*10+(c.toNat-48))/10=num r by omega,show(num r*10+(c.toNat-48))%10=c.toNat-48 by omega,Zm,ec]
theorem Ag{n:Int}(h:n<0):cM n=45::dN n.natAbs:=by rw[cM,ip h]
theorem nK{n:Int}(h:0≤n):cM n=dN n.natAbs:=by
 rw[cM,iN (by omega)];congr 1;omega
theorem Cp(u:Nat):∃c r,dN u=c::r∧eE c=true:=by
 cases h:dN u with
 |nil=>exact absurd h (mW u)
 |cons c r=>have:=mK u;rw[h,jT,bK]at this;exact⟨c,r,rfl,this.1⟩
theorem yR(u:Nat):(dN u).head?≠some 45:=by
 obtain⟨c,r,h,hc⟩:=Cp u;rw[h];simp only[List.head?_cons,ne_eq,rC];rintro rfl;exact absurd hc (by decide)
theorem nP(n:Int):mag (cM n)=dN n.natAbs:=by
 by_cases h:n<0
 ·rw[Ag h];simp[mag]
 ·rw[nK (by omega),mag,iN (yR _)]
theorem wQ(n:Int):(cM n).head? =some 45↔n<0:=by
 by_cases h:n<0
 ·rw[Ag h];simp[h]
 ·rw[nK (by omega)];simp[yR,h]
theorem KG(n:Int):DJ (cM n)=true:=by
 simp only[DJ,nP,D7,Bool.true_and,fJ,bne_iff_ne,ne_eq,wQ];by_cases h:n<0
 ·right;intro e;have:=jK n.natAbs;rw[e]at this;have h0:num [48]=0:=by decide
  omega
 ·left;exact h
theorem iT(n:Int):fQ (cM n)=n:=by
 rw[fQ,nP,jK];by_cases h:n<0
 ·rw[ip ((wQ n).2 h)];omega
 ·rw[iN (fun e=>h ((wQ n).1 e))];omega
theorem Dj(l:List UInt8)(h:DJ l=true):cM (fQ l)=l:=by
 simp only[DJ,bK,fJ,bne_iff_ne,ne_eq]at h;obtain⟨h1,h2⟩:=h;have hd:=nW (mag l) h1;by_cases hm:l.head? =some 45
 ·have hl:l=45::mag l:=by
   cases l with
   |nil=>simp at hm
   |cons c r=>simp at hm;subst hm;simp[mag]
  have jC:mag l≠[48]:=by simpa[hm]using h2
  have hpos:num (mag l)≠0:=fun e=>jC (by rw[←hd,e,jO]);rw[fQ,ip hm,Ag (by omega)];rw[show(-(num (mag l):Int)).natAbs=num (mag l) by omega,hd];exact hl.symm
 ·rw[fQ,iN hm,nK (by omega),Int.natAbs_natCast,hd,mag,iN hm]
theorem cS(u k:Nat)(hk:0<k):(dN u).length≤k↔u<10^k:=by
 constructor
 ·intro h;have h1:=nZ _ (mK u);rw[jK]at h1;exact bL h1 (bO (by decide) h)
 ·intro h;rw[decDigits_length];induction k generalizing u with
  |zero=>omega
  |succ k ih=>
   by_cases h1:u<10
   ·rw[nDigits_small h1];omega
   ·rw[nDigits_big h1];have JM:0<k:=by
     rcases fF k with e|e
     ·subst e;simp at h;omega
     ·exact e
    have:=ih (u/10) JM (by rw[fC]at h;omega);omega
def pW(l:List UInt8):Int:=if DJ l=true then(if 300<(mag l).length then 4 else 0)else 11
theorem Zn{l:List UInt8}:pW l=0↔∃n:Int,l=cM n∧n.natAbs<10^300:=by
 unfold pW;constructor
 ·intro h;split at h
  ·rename_i ho;split at h
   ·cases h
   ·rename_i hl;have hi:=Dj l ho;refine⟨fQ l,hi.symm,?_⟩;rw[←hi,nP]at hl;exact(cS _ 300 (by decide)).1 (by omega)
  ·cases h
 ·rintro⟨n,rfl,hn⟩;have:=(cS n.natAbs 300 (by decide)).2 hn;rw[ip (KG n),nP,iN (by omega)]
def nL(n:Int):List UInt8×Int:=if n.natAbs<10^300 then(cM n,0)else([],4)
def Jp(l:List UInt8):Nat:=if l.head? =some 45 then 1 else 0
theorem mv(l:List UInt8):mag l=l.drop (Jp l):=by
 unfold mag Jp;split
 ·cases l<;>rfl
 ·rfl
theorem mL(l:List UInt8):(mag l).length=l.length-Jp l:=by rw[mv,jU]
theorem Ey{l:List UInt8}(h:DJ l=true):Jp l<l.length:=by
 simp only[DJ,pG,bK,iH,O9]at h;have:=List.length_pos_iff.2 h.1.1.1;rw[mL]at this;omega
theorem nM{l:List UInt8}(h:DJ l=true):(mag l).all eE=true:=by
 simp only[DJ,pG,bK]at h;exact h.1.1.2
def gV(neg:Bool)(N:Nat):Int:=if neg then -(N:Int)else(N:Int)
theorem sgn_mul(b1 b2:Bool)(M N:Nat):gV (!b1==b2) (M*N)=gV b1 M*gV b2 N:=by
 cases b1<;>cases b2<;>simp[gV,lI,Int.mul_neg,MH]
theorem Zo(neg:Bool):cM (gV neg 0)=[48]:=by
 have:gV neg 0=0:=by cases neg<;>simp[gV]
 rw[this,nK (by decide)];exact jO
end
section
open Go
def cE(B:Nat):List Nat→Nat
 |[]=>0
 |x::xs=>x+B*cE B xs
def cQ(B n:Nat):List Nat:=
 if _h:n=0∨B<2 then[]else(n%B)::cQ B (n/B)
termination_by n
decreasing_by exact wY (by omega) (by omega)
theorem eY(B:Nat):cQ B 0=[]:=by rw[cQ,dif_pos (Or.inl rfl)]
theorem mX{B n:Nat}(hB:2≤B)(hn:n≠0):cQ B n=(n%B)::cQ B (n/B):=by
 rw[cQ,dif_neg (by omega)]
theorem fS{B:Nat}(hB:2≤B)(n:Nat):cE B (cQ B n)=n:=by
 induction n using mP with
 |_ n ih=>
  by_cases h:n=0
  ·subst h;rw[eY];rfl
  ·rw[mX hB h,cE,ih (n/B) (wY (by omega) (by omega))];exact M0 n B
theorem kH{B:Nat}(hB:2≤B)(n:Nat):∀x∈cQ B n,x<B:=by
 induction n using mP with
 |_ n ih=>
  by_cases h:n=0
  ·subst h;rw[eY];simp
  ·rw[mX hB h];intro x hx;rcases List.mem_cons.1 hx with rfl|hx
   ·exact fU _ (by omega)
   ·exact ih (n/B) (wY (by omega) (by omega)) x hx
theorem iO{B n:Nat}(hB:2≤B):cQ B n=[]↔n=0:=by
 constructor
 ·intro h;have:=fS hB n;rw[h]at this;simpa[cE]using this.symm
 ·rintro rfl;exact eY B
def kX:List Nat→List Nat
 |[]=>[]
 |x::xs=>match kX xs with
  |[]=>if x=0 then[]else[x]
  |ys=>x::ys
theorem oQ{x:Nat}{xs:List Nat}(h:kX xs=[]):kX (x::xs)=if x=0 then[]else[x]:=by
 simp[kX,h]
theorem uV{x:Nat}{xs:List Nat}(h:kX xs≠[]):kX (x::xs)=x::kX xs:=by
 cases e:kX xs with
 |nil=>exact absurd e h
 |cons y ys=>simp[kX,e]
theorem D8{B:Nat}(hB:2≤B):∀xs:List Nat,(∀x∈xs,x<B)→cQ B (cE B xs)=kX xs
 |[],_=>by rw[cE,eY];rfl
 |x::xs,h=>by
  have ih:=D8 hB xs fun y hy=>h y (pX _ hy)
  have hx:x<B:=h x (oJ ..)
  by_cases h0:kX xs=[]
  ·rw[oQ h0]
   rw[h0]at ih
   have hz:=(iO hB).1 ih
   rw[cE,hz,DZ,oE]
   by_cases e:x=0
   ·rw[ip e,e,eY]
   ·rw[iN e,mX hB e,fE hx,sF hx,eY]
  ·rw[uV h0]
   have hz:cE B xs≠0:=fun e=>h0 (by rw[←ih,e,eY])
   have hp:0<B*cE B xs:=Nat.mul_pos (by omega) (by omega)
   rw[cE,mX hB (by omega),Nat.add_mul_mod_self_left,fE hx,Nat.add_mul_div_left _ _ (by omega),sF hx,dZ,ih]
theorem Bj:∀(xs:List Nat)(k:Nat),k≤xs.length→(∀i,k≤i→i<xs.length→xs.getD i 0=0)→(k=0∨xs.getD (k-1) 0≠0)→kX xs=xs.take k
 |[],k,_,_,_=>by simp[kX]
 |x::xs,0,_,hz,_=>by
  have ih:=Bj xs 0 (bN _) (fun i _ hi=>by simpa using hz (i+1) (bN _) (by simpa using hi)) (.inl rfl)
  have hx:x=0:=by simpa using hz 0 (aG _) (by simp)
  rw[oQ (by simpa using ih),ip hx];rfl
 |x::xs,k+1,hk,hz,hn=>by
  have JM:k≤xs.length:=by simpa using hk
  by_cases h0:k=0
  ·subst h0
   have ih:=Bj xs 0 (bN _) (fun i _ hi=>by simpa using hz (i+1) (by omega) (by simpa using hi)) (.inl rfl)
   have hx:x≠0:=by simpa using hn
   rw[oQ (by simpa using ih),iN hx];rfl
  ·have hn':xs.getD (k-1) 0≠0:=by
    rcases hn with h|h
    ·omega
    ·rw[show k+1-1=(k-1)+1 by omega]at h;simpa using h
   have ih:=Bj xs k JM (fun i h1 h2=>by simpa using hz (i+1) (by omega) (by simpa using h2)) (.inr hn');have jC:kX xs≠[]:=by
    rw[ih];intro e;have:=congrArg List.length e;simp only[fG,bY]at this;omega
   rw[uV jC,ih];rfl
theorem Cq(B:Nat):∀xs ys:List Nat,cE B (xs++ys)=cE B xs+B^xs.length*cE B ys
 |[],ys=>by simp[cE]
 |x::xs,ys=>by
  rw[bZ,cE,Cq B xs ys,cE,bF,fC,gD,←fV,dJ (B^_) B,RG]
theorem Dk(B:Nat)(xs:List Nat)(y:Nat):cE B (xs++[y])=cE B xs+B^xs.length*y:=by
 rw[Cq,cE,cE,DZ,oE]
theorem yS{B:Nat}(hB:1≤B):∀xs:List Nat,(∀x∈xs,x<B)→cE B xs<B^xs.length
 |[],_=>by simp[cE]
 |x::xs,h=>by
  have ih:=yS hB xs fun y hy=>h y (pX _ hy)
  have hx:x<B:=h x (oJ ..)
  rw[cE,bF,fC]
  calc x+B*cE B xs<B+B*cE B xs:=by omega
   _=B*(cE B xs+1):=by rw[gD,sY,MI]
   _≤B*B^xs.length:=lQ _ ih
   _=B^xs.length*B:=dJ _ _
theorem mY(B:Nat)(xs:List Nat)(k:Nat)(hk:k≤xs.length):cE B xs=cE B (xs.take k)+B^k*cE B (xs.drop k):=by
 have h:=Cq B (xs.take k) (xs.drop k);rw[List.take_append_drop,fG,M6 hk]at h;exact h
theorem KH(B:Nat)(xs:List Nat)(k:Nat)(hk:k<xs.length):cE B (xs.take (k+1))=cE B (xs.take k)+B^k*xs.getD k 0:=by
 rw[List.take_succ_eq_append_getElem hk,Dk,fG,M6 (by omega)];simp[aO,eO hk]
theorem Ez(B n:Nat):cE B (bV n 0)=0:=by
 induction n with
 |zero=>rfl
 |succ n ih=>rw[List.replicate_succ,cE,ih,DZ]
theorem gH{B n k:Nat}(hB:2≤B)(h:n<B^k):(cQ B n).length≤k:=by
 induction k generalizing n with
 |zero=>
  have:n=0:=by simpa using h
  subst this;rw[eY];exact aG _
 |succ k ih=>
  by_cases h0:n=0
  ·subst h0;rw[eY];exact bN _
  ·rw[mX hB h0,bF];refine Nat.succ_le_succ (ih ?_);rw[fC]at h;exact Nat.div_lt_of_lt_mul (by rw[dJ];exact h)
theorem eG{B:Nat}(hB:2≤B)(n:Nat):n<B^(cQ B n).length:=by
 have h:=yS (by omega:1≤B) (cQ B n) (kH hB n);rwa[fS hB]at h
theorem EA{B:Nat}(hB:2≤B)(n:Nat)(h:cQ B n≠[]):(cQ B n).getD ((cQ B n).length-1) 0≠0:=by
 induction n using mP with
 |_ n ih=>
  by_cases h0:n=0
  ·subst h0;exact absurd (eY B) h
  ·rw[mX hB h0];by_cases h1:cQ B (n/B)=[]
   ·have hz:=(iO hB).1 h1;rw[h1];have:n<B:=by
     rcases fK n B with h|h
     ·exact h
     ·have:=Nat.div_pos h (by omega);omega
    simpa[fE this]using h0
   ·have:=ih (n/B) (wY (by omega) (by omega)) h1;have hl:0<(cQ B (n/B)).length:=List.length_pos_iff.2 h1;rw[bF,show(cQ B (n/B)).length+1-1=((cQ B (n/B)).length-1)+1 by omega];simpa using this
theorem JN{B n:Nat}(hB:2≤B)(h:n≠0):B^((cQ B n).length-1)≤n:=by
 induction n using mP with
 |_ n ih=>
  rw[mX hB h,bF,Nat.add_sub_cancel];by_cases h1:n/B=0
  ·rw[h1,eY];simp;omega
  ·have:=ih (n/B) (wY (by omega) (by omega)) h1;have hl:0<(cQ B (n/B)).length:=List.length_pos_iff.2 (fun e=>h1 ((iO hB).1 e));rw[show(cQ B (n/B)).length=(cQ B (n/B)).length-1+1 by omega,fC];exact bE (eV _ this) (Nat.div_mul_le_self n B)
theorem iP{B m n:Nat}(hB:2≤B)(h:m≤n):(cQ B m).length≤(cQ B n).length:=
 gH hB (Nat.lt_of_le_of_lt h (eG hB n))
theorem xC{B m n:Nat}(hB:2≤B)(h:(cQ B m).length<(cQ B n).length):m<n:=by
 rcases fK m n with h'|h'
 ·exact h'
 ·have:=iP hB h';omega
theorem iG{B:Nat}{xs:List Nat}(h:∀x∈xs,x<B)(hB:0<B)(i:Nat):xs.getD i 0<B:=by
 rw[aO];cases e:xs[i]? with
 |none=>simpa using hB
 |some x=>exact h x (List.mem_of_getElem? e)
theorem gI(B:Nat)(xs:List Nat)(k:Nat):cE B (xs.take (k+1))=cE B (xs.take k)+B^k*xs.getD k 0:=by
 rcases fK k xs.length with h|h
 ·exact KH B xs k h
 ·rw[fM (by omega),fM h];simp[aO,mI h]
theorem jL(B:Nat)(xs:List Nat)(k:Nat)(h:xs.length≤k):cE B (xs.take k)=cE B xs:=by rw[fM h]
theorem wE{B:Nat}(hB:1≤B){xs:List Nat}(h:∀x∈xs,x<B)(k:Nat):cE B (xs.take k)<B^k:=by
 have h1:=yS hB (xs.take k) fun x hx=>h x (List.mem_of_mem_take hx);exact bL h1 (bO hB (by simp;omega))
theorem BR(xs ys:List Nat)(k:Nat)(hl:xs.length=ys.length)(hk:k≤xs.length)
 (h:∀i,k≤i→i<xs.length→xs.getD i 0=ys.getD i 0):xs.drop k=ys.drop k:=by
 apply Kg
 ·simp[hl]
 ·intro i h1 h2;simp only[jU]at h1 h2;have:=h (k+i) (by omega) (by omega);simpa[aO,eO (show k+i<xs.length by omega),eO (show k+i<ys.length by omega)]using this
theorem Cr{B:Nat}(hB:1≤B)(xs ys:List Nat)(hx:∀x∈xs,x<B)(k:Nat)(hl:xs.length=ys.length)(hk:k<xs.length)
 (h:∀i,k+1≤i→i<xs.length→xs.getD i 0=ys.getD i 0)(hlt:xs.getD k 0<ys.getD k 0):cE B xs<cE B ys:=by
 have hd:=BR xs ys (k+1) hl (by omega) h;have e1:=mY B xs (k+1) (by omega);have e2:=mY B ys (k+1) (by omega);rw[hd]at e1;have e3:=gI B xs k;have e4:=gI B ys k;have h5:=wE hB hx k;have h6:B^k*(xs.getD k 0+1)≤B^k*ys.getD k 0:=lQ _ hlt;rw[gD,sY]at h6;omega
theorem KI(B:Nat)(xs ys:List Nat)(hl:xs.length=ys.length)(h:∀i,i<xs.length→xs.getD i 0=ys.getD i 0):cE B xs=cE B ys:=by
 have:=BR xs ys 0 hl (bN _) (fun i _ hi=>h i hi);simp only[List.drop_zero]at this;rw[this]
theorem KJ{B n:Nat}(hB:2≤B)(xs:List Nat)(hx:∀x∈xs,x<B)(h:cE B xs=n):kX xs=cQ B n:=by
 rw[←D8 hB xs hx,h]
theorem yT{B:Nat}{xs:List Nat}{y:Nat}(h:∀x∈xs,x<B)(hy:y<B):∀x∈xs++[y],x<B:=by
 intro x hx;rcases List.mem_append.1 hx with h1|h1
 ·exact h x h1
 ·rw[List.mem_singleton.1 h1];exact hy
theorem Zp(B:Nat)(os xs ys:List Nat)(k c s:Nat)(hk:os.length=k)(h:cE B os+c*B^k=cE B (xs.take k)+cE B (ys.take k))
 (hs:s=xs.getD k 0+ys.getD k 0+c):cE B (os++[s%B])+s/B*B^(k+1)=cE B (xs.take (k+1))+cE B (ys.take (k+1)):=by
 rw[Dk,gI,gI,hk,fC];have e:B^k*(s%B)+s/B*(B^k*B)=B^k*s:=by
  conv=>rhs;rw[←M0 s B]
  rw[gD];simp[fV,dJ,pD]
 have e2:B^k*s=B^k*xs.getD k 0+B^k*ys.getD k 0+c*B^k:=by rw[hs,gD,gD,dJ c]
 omega
theorem KK(B:Nat)(os xs ys:List Nat)(k c x b:Nat)(hk:os.length=k)(h:cE B os+cE B (ys.take k)=cE B (xs.take k)+c*B^k)
 (hs:xs.getD k 0+b*B=x+ys.getD k 0+c):cE B (os++[x])+cE B (ys.take (k+1))=cE B (xs.take (k+1))+b*B^(k+1):=by
 rw[Dk,gI,gI,hk,fC];have e:B^k*xs.getD k 0+b*(B^k*B)=B^k*x+B^k*ys.getD k 0+c*B^k:=by
  have:=congrArg (B^k*·) hs;simp only[gD]at this;rw[pD,this,dJ c]
 omega
theorem Zq{B:Nat}(hB:1≤B)(os:List Nat)(m n c k:Nat)(ho:∀x∈os,x<B)(hk:os.length=k)(Vz:n≤m)(h:cE B os+n=m+c*B^k):cE B os=m-n:=by
 have hlt:=yS hB os ho;rw[hk]at hlt;rcases fF c with e|e
 ·subst e;omega
 ·have:1*B^k≤c*B^k:=eV _ e;omega
theorem D9(xs:List Nat)(i v:Nat)(h:i<xs.length):(xs.set i v).getD i 0=v:=by simp[aO,h]
theorem xD(xs:List Nat)(i j v:Nat)(h:i≠j):(xs.set i v).getD j 0=xs.getD j 0:=by simp[aO,h]
theorem FM(B:Nat):∀(xs:List Nat)(i v:Nat),i<xs.length→cE B (xs.set i v)+B^i*xs.getD i 0=cE B xs+B^i*v
 |[],i,v,h=>absurd h (by simp)
 |x::xs,0,v,_=>by simp[cE];omega
 |x::xs,i+1,v,h=>by
  have ih:=FM B xs i v (by simpa using h)
  have e:(x::xs).getD (i+1) 0=xs.getD i 0:=by simp
  rw[bC,cE,cE,e,fC]
  have e1:B^i*B*xs.getD i 0=B*(B^i*xs.getD i 0):=by rw[dJ (B^i) B,fV]
  have e2:B^i*B*v=B*(B^i*v):=by rw[dJ (B^i) B,fV]
  have e3:=congrArg (B*·) ih
  simp only[gD]at e3
  omega
theorem Cs{B:Nat}{xs:List Nat}{i v:Nat}(h:∀x∈xs,x<B)(hv:v<B):∀x∈xs.set i v,x<B:=by
 intro x hx;rcases List.mem_or_eq_of_mem_set hx with h1|h1
 ·exact h x h1
 ·rw[h1];exact hv
theorem KL(B:Nat)(os ys:List Nat)(i k c x s:Nat)(T:Nat)(hi:i+k<os.length)
 (h:cE B os+c*B^(i+k)=T+x*cE B (ys.take k)*B^i)(hs:s=os.getD (i+k) 0+x*ys.getD k 0+c):
 cE B (os.set (i+k) (s%B))+s/B*B^(i+(k+1))=T+x*cE B (ys.take (k+1))*B^i:=by
 have h1:=FM B os (i+k) (s%B) hi;have e:B^(i+k)*(s%B)+s/B*B^(i+(k+1))=B^(i+k)*s:=by
  conv=>rhs;rw[←M0 s B]
  rw[←RG,fC,gD];simp[fV,dJ,pD]
 have e2:B^(i+k)*s=B^(i+k)*os.getD (i+k) 0+B^(i+k)*(x*ys.getD k 0)+c*B^(i+k):=by rw[hs,gD,gD,dJ c]
 have e3:x*cE B (ys.take (k+1))*B^i=x*cE B (ys.take k)*B^i+B^(i+k)*(x*ys.getD k 0):=by
  rw[gI,gD,jH,pE];simp[fV,dJ,pD]
 omega
theorem BS{B:Nat}(hB:1≤B)(xs:List Nat)(k j:Nat)(hk:k≤j)(h:cE B xs<B^k):xs.getD j 0=0:=by
 rcases fK j xs.length with hj|hj
 ·have e:=mY B xs j (by omega);have e2:xs.drop j=xs.getD j 0::xs.drop (j+1):=by
   rw[AV hj];simp[aO,eO hj]
  rw[e2,cE]at e;have h3:B^k≤B^j:=bO hB hk;rcases fF (xs.getD j 0)with h0|h0
  ·exact h0
  ·have h4:B^j*1≤B^j*(xs.getD j 0+B*cE B (xs.drop (j+1))):=lQ _ (by omega);omega
 ·simp[aO,mI hj]
theorem gF(B:Nat)(xs:List Nat)(k:Nat)(h:k<xs.length):cE B (xs.drop k)=xs.getD k 0+B*cE B (xs.drop (k+1)):=by
 rw[AV h,cE];simp[aO,eO h]
theorem VA(B:Nat)(xs qs:List Nat)(k d r n:Nat)(hk:k<xs.length)(hq:k<qs.length)
 (h:cE B (xs.drop (k+1))=cE B (qs.drop (k+1))*d+r)(hn:n=r*B+xs.getD k 0):
 cE B (xs.drop k)=cE B ((qs.set k (n/d)).drop k)*d+n%d:=by
 rw[gF B xs k hk,h,gF B (qs.set k (n/d)) k (by simpa using hq),D9 _ _ _ hq];have e:(qs.set k (n/d)).drop (k+1)=qs.drop (k+1):=by
  apply Kg
  ·simp
  ·intro i h1 h2;simp[show k≠k+1+i by omega]
 rw[e];have e2:=pF n d;have e3:(n/d+B*cE B (qs.drop (k+1)))*d=d*(n/d)+B*(cE B (qs.drop (k+1))*d):=by rw[jH,dJ (n/d),fV]
 have e4:B*(cE B (qs.drop (k+1))*d+r)=B*(cE B (qs.drop (k+1))*d)+r*B:=by rw[gD,dJ B r]
 omega
theorem mw{B d r x:Nat}(hd:0<d)(hr:r<d)(hx:x<B):(r*B+x)/d<B:=by
 rw[Nat.div_lt_iff_lt_mul hd];have:(r+1)*B≤d*B:=eV _ hr;rw[jH,Nat.one_mul]at this;have e:d*B=B*d:=dJ _ _;omega
theorem mx{d m q r:Nat}(hr:r<d)(h:m=q*d+r):q=m/d∧r=m%d:=by
 have hd:0<d:=by omega
 constructor
 ·rw[h,MI,Nat.add_mul_div_right _ _ hd,sF hr,dZ]
 ·rw[h,MI,Nat.add_mul_mod_self_right,fE hr]
theorem Zr(xs:List Nat)(n k:Nat)(h:∀i,k≤i→i<n→xs.getD i 0=0)(h1:xs.getD (k-1) 0=0):∀i,k-1≤i→i<n→xs.getD i 0=0:=by
 intro i hi hn;by_cases e:i=k-1
 ·rw[e];exact h1
 ·exact h i (by omega) hn
theorem JO(xs:List Nat):(kX xs).length≤xs.length:=by
 induction xs with
 |nil=>simp[kX]
 |cons x xs ih=>
  by_cases h:kX xs=[]
  ·rw[oQ h];split <;>simp
  ·rw[uV h];simp;exact ih
theorem RU(xs:List Nat)(k:Nat)(hk:k≤xs.length)(hz:∀i,k≤i→i<xs.length→xs.getD i 0=0)(hn:k=0∨xs.getD (k-1) 0≠0):(kX xs).length=k:=by
 rw[Bj xs k hk hz hn,fG];omega
theorem M7(xs:List Nat):kX xs=xs.take (kX xs).length:=by
 induction xs with
 |nil=>rfl
 |cons x xs ih=>
  by_cases h:kX xs=[]
  ·rw[oQ h];split <;>simp
  ·rw[uV h,bF,List.take_succ_cons,←ih]
theorem Ip(xs:List Nat){n:Nat}(h:xs.length=n):(kX xs).length≤n:=by rw[←h];exact JO xs
theorem VC{B:Nat}(hB:2≤B)(n i:Nat):(cQ B n).getD i 0=n/B^i%B:=by
 induction i generalizing n with
 |zero=>
  by_cases h:n=0
  ·subst h;rw[eY];simp
  ·rw[mX hB h];simp
 |succ i ih=>
  by_cases h:n=0
  ·subst h;rw[eY];simp
  ·rw[mX hB h];have:=ih (n/B);rw[Nat.div_div_eq_div_mul,←Nat.pow_succ']at this;rw[←this];simp
end
section
open Go Go.RowKit
theorem pI{k:IntKind}{a b:Int}(h:a=b):aQ (aD k a)=aQ (aD k b):=by rw[h]
theorem FN{a b:Bool}(h:a=b):aQ (aN a)=aQ (aN b):=by rw[h]
def bs(l:List UInt8):ByteArray:=⟨l.toArray⟩
theorem bP(l:List UInt8):(bs l).data.toList=l:=rfl
theorem cZ(l:List UInt8):(bs l).size=l.length:=by simp[bs,Zb]
theorem XS(s:ByteArray):bs s.data.toList=s:=by cases s;simp[bs]
theorem KM{s:ByteArray}{l:List UInt8}(h:s.data.toList=l):s=bs l:=by rw[←h,XS]
abbrev iv(n:Nat):aS:=aD aE (n:Int)
def Rd(w:aF)(a:Option cT)(xs:List Nat):Prop:=
 ∀i,i<xs.length→∃b off,a=some ⟨b,off,none⟩∧w.cell? ⟨b,off+i,none⟩=some (iv (xs.getD i 0))
theorem Rd.below{w w':aF}{a:Option cT}{xs:List Nat}(h:Rd w a xs)(hb:Below w.heap.size w w'):Rd w' a xs:=by
 intro i hi;obtain⟨b,off,rfl,hc⟩:=h i hi;have hlt:=bG w ⟨b,off+i,none⟩ hc;exact⟨b,off,rfl,(hb.cell (p:=⟨b,off+i,none⟩) hlt).trans hc⟩
theorem Rd.nil(w:aF)(a:Option cT):Rd w a []:=fun i hi=>absurd hi (by simp)
theorem Jq(xs:List Nat)(i:Nat)(h:i<xs.length):(xs.map iv)[i]? =some (iv (xs.getD i 0)):=by
 simp[aO,eO h]
theorem Rd.own{w:aF}{base e:Nat}{a:Option cT}{n cap:Nat}{xs:List Nat}(h:w.ownsRow base e 1 (aB a n cap) n (xs.map iv)):Rd w a xs:=by
 intro i hi;have hl:=h.1;simp only[cO,sY]at hl;rcases h.2 with⟨_,h2⟩|⟨g,c,yU,hv,_⟩
 ·omega
 ·injection hv with e1 e2 e3;subst e1 e3;refine⟨g,0,rfl,?_⟩;have:=eX h i (by omega);rw[dZ,this,Jq xs i hi]
theorem Ea{a b c:aF}{lM:Option Nat}(h:a.grownBy b none)(k:b.grownBy c lM):a.grownBy c lM:=
 ⟨k.os.trans h.os,k.tape.trans h.tape,k.output.trans h.output,bE h.size k.size,fun i hi jC=>(k.block i (bL hi h.size) jC).trans (h.block i hi (by simp))⟩
theorem NR(w:aF)(DK:List aS)(e:eC):∀j u,DK[j]? =some u→(w.alloc (aJ DK.toArray e)).cell? ((⟨w.heap.size,0,none⟩:cT).add j)=some u:=by
 intro j u hj;have:(⟨w.heap.size,0,none⟩:cT).add j=⟨w.heap.size,j,none⟩:=by unfold Addr.add;split <;>simp_all
 rw[this,cell_of_row _ _ j DK.toArray e (0,0) (heap_alloc_new w _)];simpa using hj
theorem gG{w:aF}{base e size:Nat}{g n cap:Nat}{cs:List aS}(h:w.ownsRow base e size (aB (some ⟨g,0,none⟩) n cap) n cs):base≤g∧g<w.heap.size∧n≤cap∧cap≤dL:=by
 rcases h.2 with⟨h1,_⟩|⟨g',c,yU,hv,hb,hg,hn,hc,_⟩
 ·simp at h1
 ·injection hv with e1 e2 e3;injection e1 with e1;injection e1 with e1;subst e1 e3;exact⟨hb,(Array.getElem?_eq_some_iff.1 hg).1,hn,hc⟩
theorem Dl{W:aF}{base e size:Nat}{v:aS}{k:Nat}{xs:List aS}(h:W.ownsRow base e size v (k+1) xs):∃g cap,v=aB (some ⟨g,0,none⟩) (k+1) cap:=by
 rcases h.2 with⟨_,h2⟩|⟨g,cap,yU,hv,_⟩
 ·omega
 ·exact⟨g,cap,hv⟩
theorem xE{W:aF}{base e size:Nat}{v:aS}{n:Nat}{xs:List aS}(hn:0<n)(h:W.ownsRow base e size v n xs):∃g cap,v=aB (some ⟨g,0,none⟩) n cap:=by
 rcases h.2 with⟨_,h2⟩|⟨g,cap,yU,hv,_⟩
 ·omega
 ·exact⟨g,cap,hv⟩
theorem rO{P:dP}{w:aF}{cR:Array gL}{rest:List gL}{o:gL}{a:kZ}{Q:yK→kZ→aF→Prop}(Is:o.guard=none)(s x:qV)(t:eC)
 (ho:o.op=.call {callee:=.builtin .append,args:= #[s,x],argTypes:= #[t,t]})
 (base:Nat)(e:eC)(i:TypeInfo)(z:aS)(size bytes:Nat)(ht:P.underlying t=some (TypeDesc.slice e))(hi:P.info? e=some i)(hz:i.zero=some z)
 (my:i.size=size)(hby:i.bytes=bytes)(hzs:z.cells.size=size)(DM:0<size)
 (v:aS)(n:Nat)(xs:List aS)(hs:a.eval s=v)(hown:w.ownsRow base e size v n xs)
 (DK:List aS)(hx:a.eval x=aB (some ⟨w.heap.size,0,none⟩) 1 1)(hl:DK.length=size)(h1:∀u∈DK,u.oneCell'=true)
 (M8:n+1≤2147483648)(VD:bytes≤4096)(kJ:base≤w.heap.size)
 (h:∀g cap w',w'.ownsRow base e size (aB (some ⟨g,0,none⟩) (n+1) cap) (n+1) (xs++DK)→base≤g→w.grownBy w' v.ownBlock→
  FH P cR Q rest (a.put o.dst (aB (some ⟨g,0,none⟩) (n+1) cap)) w'):
 FH P cR Q (o::rest) a (w.alloc (aJ DK.toArray e)):=by
 refine wpList_append_own _ Is s x t ho base e i z size bytes ht hi hz my hby hzs DM v n xs hs (hown.alloc _) ⟨w.heap.size,0,none⟩ 1 1 DK hx (by simp[hl]) (NR w DK e) h1
  (by simp only[dL];omega) (bE (Nat.mul_le_mul M8 VD) (by decide)) (by simp;omega) ?_
 intro v' w' oR hg It;obtain⟨g',M9,rfl⟩:=Dl oR;exact h g' M9 w' oR (gG oR).1 (Ea (World.grownBy_alloc w _ none) hg)
theorem eP{B:Nat}{a w w':aF}{v:aS}{base e size n:Nat}{cs:List aS}(h:Below B a w)(hg:w.grownBy w' v.ownBlock)(hown:w.ownsRow base e size v n cs)(hB:B≤base)(hs:B≤w.heap.size):Below B a w':=
 h.grown hg hs fun k hk=>bE hB (hown.lt k hk).1
theorem Zs{w:aF}{base e:Nat}{g n cap k:Nat}{xs:List aS}(h:w.ownsRow base e 1 (aB (some ⟨g,0,none⟩) n cap) n xs)(hk:k≤n):
 w.ownsRow base e 1 (aB (some ⟨g,0,none⟩) k cap) k (xs.take k):=by
 have hl:=h.1;rw[sY]at hl;rcases h.2 with⟨h1,_⟩|⟨g',c,yU,hv,hb,hg,hn,hc,hs,ht⟩
 ·simp at h1
 ·injection hv with e1 e2 e3;subst e3;refine⟨by simp;omega,.inr ⟨g',cap,yU,by rw[e1],hb,hg,by omega,hc,hs,?_⟩⟩;rw[←ht,sY,sY,List.take_take,M6 hk]
def RB:Nat:=1000000
def PB:Nat:=1000000000
theorem dB:2≤PB:=by decide
def tY(w:aF)(v:aS)(B N:Nat):Prop:=
 ∃a n cap,v=aB a n cap∧(cQ B N).length=n∧n≤cap∧cap≤dL∧(a=none→cap=0)∧Rd w a (cQ B N)
def tC(w:aF)(base:Nat)(v:aS)(B N:Nat):Prop:=
 ∃g n cap,v=aB (some ⟨g,0,none⟩) n cap∧w.ownsRow base 3 1 (aB (some ⟨g,0,none⟩) n cap) n ((cQ B N).map iv)
theorem tC.inL{w:aF}{base:Nat}{v:aS}{B N:Nat}(h:tC w base v B N):tY w v B N:=by
 obtain⟨g,n,cap,rfl,h⟩:=h;have:=gG h;have hl:=h.1;simp only[cO,sY]at hl;exact⟨_,n,cap,rfl,hl,this.2.2.1,this.2.2.2,by simp,Rd.own h⟩
theorem tY.below{w w':aF}{v:aS}{B N:Nat}(h:tY w v B N)(hb:Below w.heap.size w w'):tY w' v B N:=by
 obtain⟨a,n,cap,e,h1,h2,h3,h4,h5⟩:=h;exact⟨a,n,cap,e,h1,h2,h3,h4,h5.below hb⟩
theorem qG{w:aF}{base g n cap B N:Nat}{os:List Nat}(hB:2≤B)(h:w.ownsRow base 3 1 (aB (some ⟨g,0,none⟩) n cap) n (os.map iv))
 (hn:os.length=n)(hl:∀x∈os,x<B)(hv:cE B os=N):tC w base (aB (some ⟨g,0,none⟩) (kX os).length cap) B N:=by
 refine⟨g,_,cap,rfl,?_⟩;have:=Zs h (Ip os hn);rw[←List.map_take,←M7,KJ hB os hl hv]at this;rw[KJ hB os hl hv];exact this
theorem dI{w w':aF}{base e size n:Nat}{v:aS}{xs:List aS}(h:w.ownsRow base e size v n xs)(hb:Below w.heap.size w w'):w'.ownsRow base e size v n xs:=by
 refine⟨h.1,?_⟩;rcases h.2 with h1|⟨g,cap,yU,hv,hg,hh,r⟩
 ·exact .inl h1
 ·exact .inr ⟨g,cap,yU,hv,hg,(hb.block g (Array.getElem?_eq_some_iff.1 hh).1).trans hh,r⟩
theorem mZ{w:aF}{base Ct e size n:Nat}{v:aS}{xs:List aS}(h:w.ownsRow base e size v n xs)(hb:Ct≤base):w.ownsRow Ct e size v n xs:=by
 refine⟨h.1,?_⟩;rcases h.2 with h1|⟨g,cap,yU,hv,hg,r⟩
 ·exact .inl h1
 ·exact .inr ⟨g,cap,yU,hv,bE hb hg,r⟩
theorem tC.below{w w':aF}{base:Nat}{v:aS}{B N:Nat}(h:tC w base v B N)(hb:Below w.heap.size w w'):tC w' base v B N:=by
 obtain⟨g,n,cap,e,h⟩:=h;exact⟨g,n,cap,e,dI h hb⟩
theorem tC.mono{w:aF}{base Ct:Nat}{v:aS}{B N:Nat}(h:tC w base v B N)(hb:Ct≤base):tC w Ct v B N:=by
 obtain⟨g,n,cap,e,h⟩:=h;exact⟨g,n,cap,e,mZ h hb⟩
theorem aR{B:Nat}{a w w':aF}(h:Below B a w)(k:Below w.heap.size w w')(hB:B≤w.heap.size):Below B a w':=h.trans (k.mono hB)
theorem cF{W w':aF}{p:cT}{v:aS}(hb:Below W.heap.size W w')(h:W.cell? p=some v):w'.cell? p=some v:=
 (hb.cell (bG W p h)).trans h
theorem aU{a w w':aF}(h:Below a.heap.size a w)(k:Below w.heap.size w w'):Below a.heap.size a w':=aR h k h.size
theorem cb{P:dP}{f:FuncId}{a:Array aS}{W:aF}{v:aS}{w:aF}{R:Ending→aF→Prop}(H:aW P f a W (Rt (v) W))(hB:Below w.heap.size w W)(k:∀W',Below W.heap.size W W'→Below w.heap.size w W'→R (aQ v) W'):aW P f a W R:=
 H.mono fun _ W' h=>by obtain⟨rfl,h⟩:=h;exact k W' h (aR hB h hB.size)
def bT(w:aF)(b:Nat)(cs:Array aS)(T:eC):Prop:=w.heap[b]? =some (aJ cs T (0,0))
section
variable{w w':aF}{b:Nat}{cs:Array aS}{T:eC}
theorem bT.cell(h:bT w b cs T)(j:Nat):w.cell? ⟨b,j,none⟩=cs[j]? :=cell_of_row w b j cs T (0,0) h
theorem bT.fz(h:bT w b cs T)(j:Nat):w.frozen? ⟨b,j,none⟩=false:=frozen_of_row w b j cs T h
theorem bT.lt(h:bT w b cs T):b<w.heap.size:=(Array.getElem?_eq_some_iff.1 h).1
theorem bT.new(w:aF)(cs:Array aS)(T:eC):bT (w.alloc (aJ cs T)) w.heap.size cs T:=heap_alloc_new w _
theorem bT.alloc(h:bT w b cs T)(o:Obj):bT (w.alloc o) b cs T:=(vS w o b (Array.getElem?_eq_some_iff.1 h).1).trans h
theorem bT.drewN(h:bT w b cs T)(n:Nat):bT (w.drewN n) b cs T:=h
theorem bT.set(h:bT w b cs T)(j:Nat)(v:aS):bT (w.setCell ⟨b,j,none⟩ v) b (cs.setIfInBounds j v) T:=heap_setCell_same w b j cs T v h
theorem bT.other(h:bT w b cs T){a:cT}(v:aS)(jC:b≠a.block):bT (w.setCell a v) b cs T:=(nY w a b v jC).trans h
theorem bT.below(h:bT w b cs T){B:Nat}(hb:Below B w w')(hlt:b<B):bT w' b cs T:=(hb.block b hlt).trans h
theorem bT.grown(h:bT w b cs T){lM:Option Nat}(hg:w.grownBy w' lM)(jC:some b≠lM):bT w' b cs T:=(hg.block b h.lt jC).trans h
end
theorem fzk{W w':aF}{p:cT}(hb:Below W.heap.size W w')(hp:p.block<W.heap.size)(h:W.frozen? p=false):w'.frozen? p=false:=
 (hb.frozen hp).trans h
theorem lB{w:aF}{base e size n:Nat}{v:aS}{xs:List aS}(h:w.ownsRow base e size v n xs){a:cT}(ha:a.block<base)(u:aS):(w.setCell a u).ownsRow base e size v n xs:=
 ownsRow_setCell_below h ha u
theorem tC.set_other{w:aF}{base:Nat}{v:aS}{B N:Nat}(h:tC w base v B N){a:cT}(ha:a.block<base)(u:aS):tC (w.setCell a u) base v B N:=by
 obtain⟨g,n,cap,e,h⟩:=h;exact⟨g,n,cap,e,lB h ha u⟩
theorem eS{w:aF}{base e size n cap g:Nat}{xs:List aS}(h:w.ownsRow base e size (aB (some ⟨g,0,none⟩) n cap) n xs){a:cT}(ha:g≠a.block)(u:aS):
 (w.setCell a u).ownsRow base e size (aB (some ⟨g,0,none⟩) n cap) n xs:=by
 refine⟨h.1,?_⟩;rcases h.2 with⟨h1,_⟩|⟨g',c,yU,hv,hb,hg,r⟩
 ·simp at h1
 ·injection hv with e1 e2 e3;injection e1 with e1;injection e1 with e1;subst e1 e3;exact .inr ⟨g,cap,yU,rfl,hb,(nY w a g u ha).trans hg,r⟩
theorem wF{w:aF}{base e size n:Nat}{v:aS}{xs:List aS}(h:w.ownsRow base e size v n xs){b:Nat}(hb:b<base):some b≠v.ownBlock:=by
 intro e;have:=h.lt b e.symm;omega
def slLen:aS→Nat
 |aB _ n _=>n
 |_=>0
theorem vE(a:Option cT)(cap n:Nat)(xs:List Nat)(w:aF)(hn:xs.length=n)(hx:n≤cap)(hc:cap≤dL)(hr:Rd w a xs):
 aW aC 277 #[aB a n cap] w fun e w'=>e=aQ (aB a (kX xs).length cap)∧w=w':=by
 unfold dL at hc;have Hn:=zq hn;clear hn;have Hr:=zq hr;clear hr;go_enter func277,ntmps277;go_wp2;go_loop [0] (fun v=>∃k:Nat,v=aB a k cap∧k≤n∧Hid (∀i,k≤i→i<n→xs.getD i 0=0)) slLen;case atStart=>exact⟨n,rfl,aG _,fun i h1 h2=>by omega⟩
 case round=>
  obtain⟨k,rfl,hk,hz⟩:=hrel;by_cases h0:0<k
  ·obtain⟨b,off,rfl,rP⟩:=Hr.out (k-1) (by rw[Hn.out];omega);by_cases h1:xs.getD (k-1) 0=0
   ·rw[h1]at rP;go_wp2;go_round;case rel=>exact⟨k-1,rfl,by omega,Zr xs n k hz.out h1⟩
    case measure=>simp only[slLen];omega
   ·have e:=RU xs k (by rw[Hn.out];exact hk) (by rw[Hn.out];exact hz.out) (.inr h1);have E:=zq e;clear e;have h2:((xs.getD (k-1) 0:Int)==0)=false:=by simp only[beq_eq_false_iff_ne,ne_eq];omega
    have H1:=zq h1;clear h1;generalize xs.getD (k-1) 0=y at *;go_wp2;go_ret;exact⟨by rw[E.out];rfl,rfl⟩
  ·obtain rfl:k=0:=by omega
   have e:=RU xs 0 (bN _) (by rw[Hn.out];exact hz.out) (.inl rfl);have E:=zq e;clear e;go_wp2;go_ret;exact⟨by rw[E.out];rfl,rfl⟩
theorem xF(a:Option cT)(cap n:Nat)(i:Int)(xs:List Nat)(w:aF)(hn:xs.length=n)(hr:Rd w a xs)(h0:0≤i):
 aW aC 286 #[aB a n cap,aD aE i] w fun e w'=>e=aQ (iv (xs.getD i.toNat 0))∧w=w':=by
 obtain⟨i,rfl⟩:=Int.eq_ofNat_of_zero_le h0;rw[Int.toNat_natCast];clear h0;by_cases h:i<xs.length
 ·obtain⟨b,off,rfl,rP⟩:=hr i h;clear hr;have h':i<n:=by omega
  clear h hn;generalize xs.getD i 0=y at *;go_enter func286,ntmps286;go_wp2;go_ret;exact⟨rfl,rfl⟩
 ·have e:xs.getD i 0=0:=by simp[aO,mI (by omega:xs.length≤i)]
  have E:=zq e;clear e hr;have h':¬i<n:=by omega
  clear h hn;go_enter func286,ntmps286;go_wp2;go_ret;exact⟨by rw[E.out];rfl,rfl⟩
theorem RW:(Tryz.prog.info? 3).map (fun i=>(i.zero,i.size,i.bytes))=some (some (aD aE 0),1,8):=by kernel_rfl
theorem Pn{w:aF}{cR:Array gL}{rest:List gL}{o:gL}{a:kZ}{Q:yK→kZ→aF→Prop}(Is:o.guard=none)(s x:qV)
 (ho:o.op=.call {callee:=.builtin .append,args:= #[s,x],argTypes:= #[194,194]})(base:Nat)
 (v:aS)(n:Nat)(xs:List aS)(hs:a.eval s=v)(hown:w.ownsRow base 3 1 v n xs)
 (y:aS)(hx:a.eval x=aB (some ⟨w.heap.size,0,none⟩) 1 1)(h1:y.oneCell'=true)
 (M8:n+1≤2147483648)(kJ:base≤w.heap.size)
 (h:∀g cap w',w'.ownsRow base 3 1 (aB (some ⟨g,0,none⟩) (n+1) cap) (n+1) (xs++[y])→base≤g→w.grownBy w' v.ownBlock→
  FH aC cR Q rest (a.put o.dst (aB (some ⟨g,0,none⟩) (n+1) cap)) w'):
 FH aC cR Q (o::rest) a (w.alloc (aJ #[y] 3)):=by
 obtain⟨i0,hi,zL,vX,oL⟩:=vJ RW;exact rO Is s x 194 ho base 3 i0 (aD aE 0) 1 8 ia hi zL vX oL rfl (by decide) v n xs hs hown [y] hx rfl (by simpa using h1) M8 (by decide) kJ h
theorem FO{w:aF}{cR:Array gL}{rest:List gL}{o:gL}{a:kZ}{Q:yK→kZ→aF→Prop}(Is:o.guard=none)(l c:qV)
 (ho:o.op=Op.makeSlice 194 l c)(base:Nat)(L:Int)(n:Nat)(hl:a.eval l=aD aE L)(hc:a.eval c=aD aE L)(hL:L=(n:Int))
 (hn:n≤2147483648)(kJ:base≤w.heap.size)
 (h:∀w',w'.ownsRow base 3 1 (aB (some ⟨w.heap.size,0,none⟩) n n) n ((bV n 0).map iv)→w.grownBy w' none→
  FH aC cR Q rest (a.put o.dst (aB (some ⟨w.heap.size,0,none⟩) n n)) w'):
 FH aC cR Q (o::rest) a w:=by
 obtain⟨i0,hi,zL,vX,oL⟩:=vJ RW;refine wpList_make_full _ Is l c 194 ho base 3 i0 (aD aE 0) 1 ia hi zL vX aE aE L L n hl hc hL hL (by rw[oL];omega) (by simp only[dL];omega) kJ ?_;intro w' hown hg;refine h w' ?_ hg;have e:(madeCells (aD aE 0).cells (n*1)).toList=(bV n 0).map iv:=by
  rw[sY,show(aD aE 0).cells= #[aD aE 0]from rfl,toList_madeCells_one,List.map_replicate];rfl
 rw[←e];exact hown
abbrev bv(b:UInt8):aS:=aD .u8 (b.toNat:Int)
section
def VG(F:Kh)(n:Nat)(P:dP)(gf:Nat)(lb:Array aS)(mB:Nat→Array aS)(Kp:aF→aF→Prop)(N:Nat)(w:aF):Prop:=
 ∀(l:Nat)(J Jx:Nat→aF→Prop)(W:aF),Below w.heap.size w W→
  (∀k V,k<N→J k V→YieldAt F (n-1) P l (mB k) V fun e V'=>(e=aQ (aN true)∧J (k+1) V'∧Kp V V')∨(e=aQ (aN false)∧Jx (k+1) V'))→
  J 0 W→CallsIn F n P gf (#[.func (.yield l) #[] #[]]++lb) W fun e W'=>(∃v,e=aQ v)∧(J N W'∨∃k,k≤N∧Jx k W')
def pJ(B:Nat)(Kp:aF→aF→Prop)(I:Nat→aF→Prop)(Ix:vK→Nat→aF→Prop)(k:Nat)(W:aF):yK→kZ→aF→Prop
 |.normal,_,V=>gP B W V∧Kp W V∧I k V
 |.ret,_,V=>gP B W V∧Ix .ret k V
 |.exit id,_,V=>gP B W V∧Ix (.exit id) k V
 |.goto t,_,V=>gP B W V∧Ix (.goto t) k V
 |.panic _,_,_=>False
 |.outgrown,_,_=>False
def eA(fn:Nat)(a:kZ)(ps:Array Tmp)(assign body:vK)(D:Nat)(st:LoopState)(pe:Option vK):Loop:=
 {state:=st,pending:=pe,fn,tmps:=a.tmps,params:=ps,assign,body,defers:=D}
variable{F:Kh}{n:Nat}{P:dP}
theorem FP{g:qV}{ps:Array Tmp}{assign body:vK}{Q:yK→kZ→aF→Prop}{a:kZ}{w:aF}
 (Ia:F.round=none)(h1:1≤n){gf:Nat}{lb:Array aS}(hg:a.eval g=.func (.func gf) #[] lb)(hFg:F.fn gf)(eg:∀args w,(callFunc gf args).run P w=.ok (.enter gf args) w)
 {mB:Nat→Array aS}{Kp:aF→aF→Prop}{N:Nat}{w0:aF}(Bk:VG F (n-1) P gf lb mB Kp N w0)(hb0:Below w0.heap.size w0 w)
 (JP:∀{A B C:aF},Kp A B→Kp B C→Kp A C)(Kn:∀(W:aF)(l:Nat)(o o':Obj),w.heap.size≤l→W.heap[l]? =some o→o.isCells=false→o.isWalk=false→Kp W (W.putObj l o'))(wG:∀k,(mB k).size=ps.size)
 (I:Nat→aF→Prop)(Ix:vK→Nat→aF→Prop)(hI:OwnFrom w.heap.size I)(Cf:∀c,OwnFrom w.heap.size (Ix c))(h0:I 0 w)(tZ:Nat→kZ)
 (jM:∀(l:Nat)(k:Nat)(W:aF)(K:kZ→aF→Prop),K (tZ k) W→
  assign.wpIn (F.inRound l) (n-1-1) P (Exit.then K (fun _ _ _=>False)) {tmps:=(ps.zip (mB k)).foldl (fun t(p,v)=>t.setIfInBounds p v) a.tmps,defers:=[]} W)
 (qH:∀(l:Nat)(k:Nat)(W:aF),k<N→I k W→body.wpIn (F.inRound l) (n-1-1) P (pJ w.heap.size Kp I Ix (k+1) W) (tZ k) W)
 (oS:∀(D:Nat)(W:aF),w.heap.size≤D→I N W→W.heap[D]? =some (.deferred (some []))→Q .normal {a with defers:={target:=.collected D,args:= #[]}::a.defers} W)
 (qI:∀(D:Nat)(c:vK)(k:Nat)(W:aF),w.heap.size≤D→k≤N→Ix c k W→W.heap[D]? =some (.deferred (some []))→c.wpIn F n P Q {a with defers:={target:=.collected D,args:= #[]}::a.defers} W):
 (Code.rangeFunc g ps assign body).wpIn F n P Q a w:=by
 refine wpIn_rangeFunc ?_
 intro fn Zt
 rw[Ia]
 have hD:=kE w (.deferred (some []))
 obtain⟨V,hV⟩:∃V,(w.alloc (.deferred (some []))).alloc (.loop (eA fn a ps assign body w.heap.size .ready none))=V:=⟨_,rfl⟩
 have kD:V.heap[w.heap.size]? =some (.deferred (some [])):=by rw[←hV];exact(vS _ _ _ (by simp)).trans hD
 have kL:V.heap[w.heap.size+1]? =some (.loop (eA fn a ps assign body w.heap.size .ready none)):=by
  rw[←hV]
  have:=kE (w.alloc (.deferred (some []))) (.loop (eA fn a ps assign body w.heap.size .ready none))
  rwa[bB]at this
 have kI:I 0 V:=by rw[←hV];exact hI.alloc _ (hI.alloc _ h0)
 have kB:Below w0.heap.size w0 V:=by
  rw[←hV];exact hb0.trans ((((aH _ w).alloc (aG _) _).alloc (by simp) _).mono hb0.size)
 refine⟨w.heap.size+1,[{target:=.collected w.heap.size,args:= #[]}],V,{target:=.fn (.func gf) lb,args:= #[.func (.yield (w.heap.size+1)) #[] #[]]},V,gf,
  #[.func (.yield (w.heap.size+1)) #[] #[]]++lb,V,?_,?_,?_,?_,fun _=>h1,?_⟩
 ·rw[←hV];exact run_enterLoop_outer _ _ _ _ _
 ·simp only[resolve,hg]
  simp[go_sem]
 ·intro f hf
  simp[Target.leads]at hf
  subst hf;exact hFg
 ·simp[invoke,go_sem,eg]
 ·have uA:=Bk (w.heap.size+1)
   (fun k W=>I k W∧W.heap[w.heap.size+1]? =some (.loop (eA fn a ps assign body w.heap.size .ready none))∧W.heap[w.heap.size]? =some (.deferred (some [])))
   (fun k W=>∃c,Ix c k W∧W.heap[w.heap.size+1]? =some (.loop (eA fn a ps assign body w.heap.size .done (some c)))∧W.heap[w.heap.size]? =some (.deferred (some [])))
   V kB ?round ⟨kI,kL,kD⟩
  case round=>
   rintro k W hk⟨hi,hl,hd⟩
   have hlt:w.heap.size+1<W.heap.size:=(Array.getElem?_eq_some_iff.1 hl).1
   have hy:=run_yield (P:=P) (args:=mB k) hl (by exact wG k)
   refine⟨fn,_,assign,body,hy,roundIn_of_wpIn Zt (jM _ k W _ ⟨_,run_beginRound hl rfl,?_⟩)⟩
   obtain⟨U,hU⟩:∃U,W.putObj (w.heap.size+1) (.loop (eA fn a ps assign body w.heap.size .busy none))=U:=⟨_,rfl⟩
   have uL:U.heap[w.heap.size+1]? =some (.loop (eA fn a ps assign body w.heap.size .busy none)):=by rw[←hU];exact iZ hlt
   have uD:U.heap[w.heap.size]? =some (.deferred (some [])):=by rw[←hU];exact(cH (by omega)).trans hd
   have uK:Kp W U:=by rw[←hU];exact Kn _ _ _ _ (by omega) hl rfl rfl
   have uI:I k U:=by rw[←hU];exact hI.putObj _ hi (by omega) hl rfl
   have FU:∀(j:Option vK)(X:aF),gP w.heap.size U X→
    X.heap[w.heap.size+1]? =some (.loop (eA fn a ps assign body w.heap.size .busy none))∧
    (Instr.endRound (w.heap.size+1) j).run P X=.ok (aN j.isNone) (X.putObj (w.heap.size+1) (.loop (eA fn a ps assign body w.heap.size (if j.isNone then .ready else .done) j)))∧
    (X.putObj (w.heap.size+1) (.loop (eA fn a ps assign body w.heap.size (if j.isNone then .ready else .done) j))).heap[w.heap.size+1]? =some (.loop (eA fn a ps assign body w.heap.size (if j.isNone then .ready else .done) j))∧
    (X.putObj (w.heap.size+1) (.loop (eA fn a ps assign body w.heap.size (if j.isNone then .ready else .done) j))).heap[w.heap.size]? =some (.deferred (some [])):=by
    intro j X hX
    have xL:=hX.same _ _ (by omega) uL rfl
    exact⟨xL,run_endRound (P:=P) j xL,iZ (Array.getElem?_eq_some_iff.1 xL).1,(cH (by omega)).trans (hX.same _ _ (aG _) uD rfl)⟩
   show Code.wpIn _ _ _ _ _ _ (W.putObj (w.heap.size+1) (.loop (eA fn a ps assign body w.heap.size .busy none)))
   rw[hU]
   refine wpIn_mono (qH _ k U hk uI) ?_
   intro e a3 X hp
   have Bl:∀c:vK,gP w.heap.size U X∧Ix c (k+1) X→_:=fun c hc=>(FU (some c) X hc.1)
   cases e with
   |normal=>
    obtain⟨xL,xr,yL,yD⟩:=FU none X hp.1
    exact⟨_,_,xr,.inl ⟨rfl,⟨hI.putObj _ hp.2.2 (by omega) xL rfl,yL,yD⟩,JP (JP uK hp.2.1) (Kn _ _ _ _ (by omega) xL rfl rfl)⟩⟩
   |ret=>
    obtain⟨xL,xr,yL,yD⟩:=Bl .ret hp
    exact⟨_,_,xr,.inr ⟨rfl,.ret,(Cf _).putObj _ hp.2 (by omega) xL rfl,yL,yD⟩⟩
   |exit id=>
    obtain⟨xL,xr,yL,yD⟩:=Bl (.exit id) hp
    exact⟨_,_,xr,.inr ⟨rfl,.exit id,(Cf _).putObj _ hp.2 (by omega) xL rfl,yL,yD⟩⟩
   |goto t=>
    obtain⟨xL,xr,yL,yD⟩:=Bl (.goto t) hp
    exact⟨_,_,xr,.inr ⟨rfl,.goto t,(Cf _).putObj _ hp.2 (by omega) xL rfl,yL,yD⟩⟩
   |panic ch=>exact hp.elim
   |outgrown=>exact hp.elim
  refine uA.mono ?_
  rintro e W2⟨⟨v,rfl⟩,(⟨hi,hl,hd⟩|⟨k,hk,c,hi,hl,hd⟩)⟩
  ·exact⟨none,_,Ki (P:=P) hl (by simp[eA]),oS _ _ (aG _) (hI.putObj _ hi (by omega) hl rfl) ((cH (by omega)).trans hd)⟩
  ·exact⟨some c,_,Ki (P:=P) hl (by simp[eA]),qI _ c k _ (aG _) hk ((Cf c).putObj _ hi (by omega) hl rfl) ((cH (by omega)).trans hd)⟩
end
end
section
open Go Go.RowKit Go.Shelf
section
attribute[local go_sem] dW
theorem bT.own{W W':aF}{b:Nat}{cs:Array aS}{T:eC}{lM:Option Nat}(h:bT W b cs T)(hg:W.grownBy W' lM)(hr:∀r,lM=some r→∃o:Obj,W.heap[r]? =some o∧o.isCells=false):bT W' b cs T:=by
 refine h.grown hg ?_;intro e;obtain⟨_,ho,hc⟩:=hr b e.symm;have h':W.heap[b]? =some (aJ cs T (0,0)):=h;rw[h']at ho;cases ho;simp[zk]at hc
theorem oT{W W':aF}{base e size n:Nat}{v:aS}{xs:List aS}{lM:Option Nat}(h:W.ownsRow base e size v n xs)(hg:W.grownBy W' lM)(hr:∀r,lM=some r→∃o:Obj,W.heap[r]? =some o∧o.isCells=false):W'.ownsRow base e size v n xs:=by
 refine h.kept hg ?_;rcases h.2 with⟨rfl,_⟩|⟨g,cap,yU,rfl,hb,hh,_⟩
 ·exact .inl rfl
 ·right;intro e;obtain⟨o,ho,hc⟩:=hr g e.symm;rw[hh]at ho;cases ho;simp[zk]at hc
theorem iC{W W':aF}(h:Below W.heap.size W W'):KeepsOthers W W':=
 ⟨h.size,fun k o hk _=>(h.block k (Array.getElem?_eq_some_iff.1 hk).1).trans hk⟩
theorem iD{P:dP}{fn:Func}{p:Tmp}{ty:eC}(h:fn.results= #[.cell p ty])(tmps:Array aS)(w:aF)(g:Nat)(v:aS)
 (hp:tmps.getD p undef=bA (some ⟨g,0,none⟩))(hc:w.cell? ⟨g,0,none⟩=some v)(ha:(isAgg ty).run P w=.ok false w):
 (results fn tmps).run P w=.ok v w:=by
 have RY:tmps[p]?.getD undef=bA (some ⟨g,0,none⟩):=by simpa using hp
 simp[results,h,go_sem,RY,hc,ha]
theorem bT.putObj{W:aF}{b:Nat}{cs:Array aS}{T:eC}(h:bT W b cs T){l:Nat}{o:Obj}(o':Obj)(hl:W.heap[l]? =some o)(ho:o.isCells=false):bT (W.putObj l o') b cs T:=
 h.own (zm W l o') (fun r e=>by cases e;exact⟨o,hl,ho⟩)
theorem tC.putObj{W:aF}{base:Nat}{v:aS}{B N:Nat}(h:tC W base v B N){l:Nat}{o:Obj}(o':Obj)(hl:W.heap[l]? =some o)(ho:o.isCells=false):tC (W.putObj l o') base v B N:=by
 obtain⟨g,n,cap,e,h⟩:=h;exact⟨g,n,cap,e,oT h (zm W l o') (fun r e=>by cases e;exact⟨o,hl,ho⟩)⟩
def bI(xs:List Nat)(k:Nat):Nat:=xs.length-1-k
def bX(xs:List Nat)(k:Nat):Nat:=xs.getD (xs.length-1-k) 0
abbrev encB(xs:List Nat)(k:Nat):Array aS:= #[iv (bI xs k),iv (bX xs k)]
theorem KN{xs:List Nat}{k len j:Nat}(hl:xs.length=len)(hj:len-1-k=j):bI xs k=j:=by unfold bI;rw[hl,hj]
theorem KO{xs:List Nat}{k len j X:Nat}(hl:xs.length=len)(hj:len-1-k=j)(hX:xs.getD j 0=X):bX xs k=X:=by unfold bX;rw[hl,hj,hX]
def cY(ks:Nat→Prop)(W W':aF):Prop:=∀k,ks k→W'.heap[k]? =W.heap[k]?
theorem cY.refl(ks:Nat→Prop)(W:aF):cY ks W W:=fun _ _=>rfl
theorem cY.trans{ks:Nat→Prop}{A B C:aF}(h:cY ks A B)(k:cY ks B C):cY ks A C:=fun i hi=>(k i hi).trans (h i hi)
theorem cY.cell{ks:Nat→Prop}{A B:aF}(h:cY ks A B){p:cT}(hp:ks p.block):B.cell? p=A.cell? p:=World.cell?_of_block (h p.block hp)
theorem cY.putObj{ks:Nat→Prop}{w:aF}(hk:∀k,ks k→k<w.heap.size)(W:aF)(l:Nat)(o o':Obj)(hl:w.heap.size≤l)(_:W.heap[l]? =some o)(_:o.isCells=false)(_:o.isWalk=false):cY ks W (W.putObj l o'):=
 fun k h=>cH (by have:=hk k h;omega)
theorem cY.below{ks:Nat→Prop}{A B:aF}{n:Nat}(h:Below n A B)(hk:∀k,ks k→k<n):cY ks A B:=fun k h'=>h.block k (hk k h')
theorem cY.setCell{ks:Nat→Prop}{W:aF}{a:cT}(hk:∀k,ks k→k≠a.block)(v:aS):cY ks W (W.setCell a v):=fun k h=>nY W a k v (hk k h)
def lN(Bs:Nat)(a:Option cT)(len:Nat)(k:Nat):Prop:=k=Bs∨(0<len∧∃p,a=some p∧k=p.block)
theorem FV(F:Kh)(n:Nat)(h7:F.fn 313)(Ia:F.round=none)(hn:1≤n)(Bs:Nat)(a:Option cT)(len cap:Nat)(xs:List Nat)(Na:xs.length=len)(mz:len≤2147483648)(w:aF)
 (hBs:w.cell? ⟨Bs,0,none⟩=some (aB a len cap))(hc:Rd w a xs):
 VG F n aC 313 #[bA (some ⟨Bs,0,none⟩)] (encB xs) (cY (lN Bs a len)) len w:=by
 intro l J Jx W hW hY h0;have hBs:=(hW.cell (p:=⟨Bs,0,none⟩) (bG w _ hBs)).trans hBs;have hc:=hc.below hW;have Vd:=zq Na;clear Na;have Hc:=zq hc;clear hc;clear hW;refine GZ Dd rfl h7 ?_ Ia;simp only[ntmps313,bW,bF,bY,cW,cX,bR,bS,cD,bU,cL,bZ];gi_wp2;gi_loopw [3] (fun i wr=>∃k:Nat,k≤len∧i=aD aE ((len:Int)-1-k)∧J k wr∧cY (lN Bs a len) W wr)
  (fun i _=>(aK i+1).toNat)
 case atStart=>exact⟨0,bN _,by simp,h0,cY.refl _ _⟩
 case round=>
  obtain⟨k,hk,rfl,na,R7⟩:=hrel;by_cases hlt:k<len
  ·obtain⟨j,hj⟩:∃j,len-1-k=j:=⟨_,rfl⟩;have hji:(len:Int)-1-k=j:=by omega
   rw[hji];obtain⟨b,off,rfl,NS⟩:=Hc.out j (by rw[Vd.out];omega);have hcx':=(R7.cell (p:=⟨b,off+j,none⟩) (.inr ⟨by omega,_,rfl,rfl⟩)).trans NS;have hbx:wr.cell? ⟨Bs,0,none⟩=some (aB (some ⟨b,off,none⟩) len cap):=(R7.cell (p:=⟨Bs,0,none⟩) (.inl rfl)).trans hBs;obtain⟨fn,tmps,assign,body,hy,hR⟩:=hY k wr hlt na;simp only[encB,KN Vd.out hj,KO Vd.out hj rfl]at hy;have Hj:=zq hj;clear hj;generalize xs.getD j 0=X at *;have hjl:(j:Int)<len:=by omega
   clear NS hji;gi_wp2;refine hR.mono ?_;rintro e W3 (⟨rfl,Ve,hk3⟩|⟨rfl,VH⟩)
   ·gi_wp2;go_roundw;case rel=>exact⟨k+1,by omega,by have:=Hj.out;congr 1;omega,Ve,R7.trans hk3⟩
    case measure=>have:=Hj.out;simp only[aK];omega
   ·gi_wp2;refine cI (tE rfl _ _ _) rfl ?_;exact⟨⟨_,rfl⟩,.inr ⟨k+1,by omega,VH⟩⟩
  ·obtain rfl:k=len:=by omega
   gi_wp2;go_end0;exact⟨⟨_,rfl⟩,.inl na⟩
theorem FX(F:Kh)(n:Nat)(h5:F.fn 281)(Ia:F.round=none)(a:Option cT)(len cap:Nat)(w:aF):
 CallsIn F n aC 281 #[aB a len cap] w fun e w'=>e=aQ (.func (.func 313) #[] #[bA (some ⟨w.heap.size,0,none⟩)])∧w'=w.alloc (aJ #[aB a len cap] 194):=by
 refine GZ func281 rfl h5 ?_ Ia;simp only[ntmps281,bW,bF,bY,cW,cX,bR,bS,cD,bU,cL,bZ];gi_wp2;go_ret;exact⟨rfl,rfl⟩
theorem Cu{w:aF}{Bs len:Nat}{a:Option cT}{xs:List Nat}(h:Rd w a xs)(hl:xs.length=len)(hB:Bs<w.heap.size):∀k,lN Bs a len k→k<w.heap.size:=by
 rintro k (rfl|⟨h0,p,rfl,rfl⟩)
 ·exact hB
 ·obtain⟨b,off,e,hc⟩:=h 0 (by omega);injection e with e;subst e;exact bG w _ hc
end
end
section
open Go Go.RowKit
section
variable{P:dP}{f:FuncId}{ar:Array aS}{W:aF}{v:aS}{S:aF→Prop}{R:Ending→aF→Prop}{p r:Prop}
theorem ka(H:aW P f ar W fun e w'=>e=aQ v∧S w')(k:∀w',S w'→R (aQ v) w'):aW P f ar W R:=
 (H.mono fun _ w'⟨h1,h2⟩=>h1▸k w' h2)
theorem kb{a:aF}(H:aW P f ar W (Rt (v) W))(B:Below a.heap.size a W)(k:∀w',Hid (Below a.heap.size a w')→R (aQ v) w'):aW P f ar W R:=
 (H.mono fun _ w'⟨h1,h2⟩=>h1▸k w' (aR B h2 B.size))
theorem kc{a:aF}(H:aW P f ar W (Rt (v) W))(B:Below a.heap.size a W)(k:∀w',Below a.heap.size a w'→R (aQ v) w'):aW P f ar W R:=
 (H.mono fun _ w'⟨h1,h2⟩=>h1▸k w' (aR B h2 B.size))
theorem kr(H:aW P f ar W fun e w'=>e=aQ v∧W=w')(k:R (aQ v) W):aW P f ar W R:=
 (H.mono fun _ _⟨h1,h2⟩=>h1▸h2▸k)
theorem pu(h:r)(g:r→p:=by intro h;(try simp only[Act.put,List.getElem_toArray,List.getElem_cons_succ,List.getElem_cons_zero,List.setIfInBounds_toArray,List.set_cons_zero,bC]);exact h):p:=g h
end
theorem nm{α:Type}(a:α):∃x,a=x:=⟨a,rfl⟩
theorem bT.ce{w:aF}{b:Nat}{cs:Array aS}{T:eC}(h:bT w b cs T)(i:Nat){v:aS}(e:cs[i]? =some v:=by(simp only[aL,aI,List.getElem?_cons_succ];exact rfl)):w.cell? ⟨b,i,none⟩=some v:=(h.cell i).trans e
theorem Pq(a b:Nat){K:Nat}(h:a*b≤K):(0:Int)≤(a:Int)*b∧(a:Int)*b≤K:=by
 rw[←lI];omega
theorem Iu{B:Nat}(hB:1≤B){xs ys:List Nat}(hx:∀x∈xs,x<B)(hy:∀y∈ys,y<B)(k n:Nat)(hn:ys.length=n):cE B (xs.take k)*cE B ys<B^(k+n):=by
 have h1:=wE hB hx k;have h2:=yS hB ys hy;rw[hn]at h2;rw[pE];exact De h1 h2
theorem R8{B:Nat}(hB:1≤B)(os xs ys:List Nat)(i n2 k c:Nat)(hx:∀x∈xs,x<B)(hy:∀y∈ys,y<B)(hn:ys.length=n2)
 (h:cE B os+c*B^(i+k)=cE B (xs.take i)*cE B ys+xs.getD i 0*cE B (ys.take k)*B^i)(hk:n2+1≤k):c=0:=by
 rw[jL B ys k (by omega)]at h;have e:cE B (xs.take i)*cE B ys+xs.getD i 0*cE B ys*B^i=cE B (xs.take (i+1))*cE B ys:=by
  rw[gI,jH];simp[dJ,pD]
 rw[e]at h;have h1:=Iu hB hx hy (i+1) n2 hn;have h2:B^(i+1+n2)≤B^(i+k):=bO hB (by omega);rcases fF c with h0|h0
 ·exact h0
 ·have:1*B^(i+k)≤c*B^(i+k):=eV _ h0;omega
theorem VI(B:Nat)(os xs ys:List Nat)(i n2 k:Nat)(hn:ys.length=n2)(hk:n2≤k)
 (h:cE B os+0*B^(i+k)=cE B (xs.take i)*cE B ys+xs.getD i 0*cE B (ys.take k)*B^i):cE B os=cE B (xs.take (i+1))*cE B ys:=by
 rw[jL B ys k (by omega),oC,oE]at h;rw[h,gI,jH];simp[dJ,pD]
theorem kP{w:aF}{base e g n cap:Nat}{os:List Nat}(h:w.ownsRow base e 1 (aB (some ⟨g,0,none⟩) n cap) n (os.map iv)):os.length=n:=by
 have:=h.1;simpa using this
theorem nQ{w:aF}{base e g n cap:Nat}{os:List Nat}(h:w.ownsRow base e 1 (aB (some ⟨g,0,none⟩) n cap) n (os.map iv)){j:Nat}(hj:j<n):w.cell? ⟨g,j,none⟩=some (iv (os.getD j 0)):=by
 rw[eX h j (by omega),Jq os j (by rw[kP h];exact hj)]
theorem yV{w:aF}{base e g n cap:Nat}{os:List Nat}(h:w.ownsRow base e 1 (aB (some ⟨g,0,none⟩) n cap) n (os.map iv))(j y:Nat):
 (w.setCell ⟨g,j,none⟩ (iv y)).ownsRow base e 1 (aB (some ⟨g,0,none⟩) n cap) n ((os.set j y).map iv):=by
 have:=(World.ownsRow.stored h j (iv y)).1;rwa[←List.map_set]at this
theorem KP(s:ByteArray)(h:0<s.size):s.data.toList.head? =some 45↔s[0].toNat=45:=by
 have h':0<s.data.toList.length:=h;have e:s.data.toList.head? =some s[0]:=by rw[List.head?_eq_getElem?,eO h'];rfl
 rw[e,rC];constructor
 ·intro h;rw[h];rfl
 ·intro h;exact UInt8.toNat_inj.1 h
def fT(s:ByteArray):Bool:=if h:0<s.size then(s[0].toNat:Int)==45 else false
theorem FY(s:ByteArray)(h:0<s.size):fT s=((s[0].toNat:Int)==45):=by rw[fT,dif_pos h]
theorem Cv(s:ByteArray):Jp s.data.toList=if fT s=true then 1 else 0:=by
 by_cases h:0<s.size
 ·rw[FY s h,Jp];by_cases e:s[0].toNat=45
  ·rw[ip ((KP s h).2 e),ip (by simp[e])]
  ·rw[iN (mt (KP s h).1 e),iN (by simp;omega)]
 ·rw[fT,dif_neg h,Jp,iN (by
   have:s.data.toList=[]:=fW (by show s.size=0;omega);simp[this])]
  rfl
theorem NT(s:ByteArray)(f:Nat)(h:f<s.size):s.data.toList.getD f 0=s[f]:=by
 have h':f<s.data.toList.length:=h;rw[aO,eO h'];rfl
theorem dg_step(s:ByteArray)(f k:Nat){hk:k<s.size}(h:∀i(h:i<s.size),f≤i→i<k→eE s[i]=true)(hd:eE s[k]=true):∀i(h:i<s.size),f≤i→i<k+1→eE s[i]=true:=by
 intro i hi h1 h2;by_cases e:i=k
 ·subst e;exact hd
 ·exact h i hi h1 (by omega)
theorem dg_no{c:UInt8}(h1:48≤(c.toNat:Int))(h2:(c.toNat:Int)≤57)(h:¬eE c=true):False:=h (by simp[eE];omega)
theorem ED(t:ByteArray)(h:t.data.toList.all eE=true)(i:Nat)(hi:i<t.size):48≤(t[i].toNat:Int)∧(t[i].toNat:Int)≤57:=by
 rw[List.all_eq_true]at h;have:=h t[i] (List.getElem_mem (l:=t.data.toList) (n:=i) hi);simp only[eE,bK,decide_eq_true_eq]at this;omega
end
section
open Go Go.RowKit Go.Lib
theorem ck{W w':aF}(hb:Below W.heap.size W w')(b o:Nat)(v:aS)(h:W.cell? ⟨b,o,none⟩=some v:=by simp[*]):w'.cell? ⟨b,o,none⟩=some v:=cF hb h
theorem sgn_add(b:Bool)(M N:Nat):gV b (M+N)=gV b M+gV b N:=by
 cases b<;>simp[gV]<;>omega
theorem XT(b:Bool)(M N:Nat)(h:N≤M):gV b (M-N)=gV b M+gV (!b) N:=by
 cases b<;>simp[gV]<;>omega
end
section
open Go Go.RowKit Go.Lib
theorem Pr(b:Bool)(N:Nat):gV (!b) N= -gV b N:=by cases b<;>simp[gV]
theorem uC(b:Bool)(N:Nat):(gV b N).natAbs=N:=by cases b<;>simp[gV]
end
section
open Go.Shelf
def Tryz.laysM171_ren:iK:=⟨fun |171=>72|243=>146|246=>219|283=>269|284=>270|285=>271|286=>272|129=>253|317=>305|318=>306|319=>307|320=>308|337=>334|338=>335|n=>n,fun |3=>3|9=>9|2=>2|4=>4|171=>315|0=>0|53=>303|37=>266|5=>5|173=>317|212=>340|51=>301|20=>20|213=>341|46=>227|232=>378|233=>379|n=>n,fun |17=>1|18=>2|19=>3|n=>n⟩
theorem Tryz.laysM171:Go.Proofs.LaysM.n171 aC Tryz.laysM171_ren:={
 mixed:=by kernel_rfl
 f129:=func253.trans (congrArg some (by kernel_rfl))
 f171:=func72.trans (congrArg some (by kernel_rfl))
 f243:=func146.trans (congrArg some (by kernel_rfl))
 f246:=func219.trans (congrArg some (by kernel_rfl))
 f283:=func269.trans (congrArg some (by kernel_rfl))
 f284:=func270.trans (congrArg some (by kernel_rfl))
 f285:=func271.trans (congrArg some (by kernel_rfl))
 f286:=func272.trans (congrArg some (by kernel_rfl))
 f317:=func305.trans (congrArg some (by kernel_rfl))
 f318:=func306.trans (congrArg some (by kernel_rfl))
 f319:=func307.trans (congrArg some (by kernel_rfl))
 f320:=func308.trans (congrArg some (by kernel_rfl))
 f337:=func334.trans (congrArg some (by kernel_rfl))
 f338:=func335.trans (congrArg some (by kernel_rfl))
 t0:=vY
 a0:=Fs
 z0:=Df
 v0:=xV
 t2:=zn
 a2:=isAgg2
 z2:=sizeOf2
 v2:=zeroValue2
 t3:=eR
 a3:=kG
 z3:=mU
 v3:=jD
 t4:=gE
 a4:=nG
 z4:=lK
 v4:=iJ
 t5:=nN
 a5:=wO
 z5:=uR
 v5:=oK
 t9:=lF
 a9:=sG
 z9:=pY
 v9:=mJ
 t20:=Je
 a20:=UI
 z20:=QL
 v20:=Kj
 t37:=G9
 a37:=QM
 z37:=NL
 v37:=Jf
 t46:=sB
 a46:=AX
 z46:=yM
 v46:=tM
 t51:=yN
 a51:=FJ
 z51:=D0
 v51:=Af
 t53:=Hu
 a53:=QN
 z53:=NM
 v53:=Jg
 t171:=ib
 a171:=isAgg315
 z171:=sizeOf315
 v171:=kn
 t173:=ic
 a173:=isAgg317
 z173:=sizeOf317
 v173:=ko
 t212:=ie
 a212:=isAgg340
 z212:=sizeOf340
 v212:=ku
 t213:=ig
 a213:=isAgg341
 z213:=sizeOf341
 t232:=ii
 a232:=isAgg378
 z232:=sizeOf378
 v232:=kw
 t233:=ij
 a233:=isAgg379
 z233:=sizeOf379
 v233:=li
 g17:=by kernel_rfl
 g18:=by kernel_rfl
 g19:=by kernel_rfl
 i0:=by kernel_rfl
 i2:=by kernel_rfl
 i3:=by kernel_rfl
 i4:=by kernel_rfl
 i5:=by kernel_rfl
 i9:=by kernel_rfl
 i20:=by kernel_rfl
 i37:=by kernel_rfl
 i46:=by kernel_rfl
 i51:=by kernel_rfl
 i53:=by kernel_rfl
 i171:=by kernel_rfl
 i173:=by kernel_rfl
 i212:=by kernel_rfl
 i232:=by kernel_rfl
 i233:=by kernel_rfl
 m17:=by kernel_rfl
 m18:=by kernel_rfl
 m19:=by kernel_rfl}
def Tryz.lays172_ren:iK:=⟨fun |172=>275|244=>310|245=>311|247=>343|279=>344|280=>345|281=>346|282=>347|287=>360|316=>361|171=>72|205=>362|321=>374|322=>375|243=>146|246=>219|283=>269|284=>270|285=>271|286=>272|129=>253|317=>305|318=>306|319=>307|320=>308|337=>334|338=>335|n=>n,fun |9=>9|3=>3|75=>320|76=>321|4=>4|5=>5|167=>365|37=>266|0=>0|85=>366|2=>2|168=>368|53=>303|175=>384|46=>227|210=>387|127=>375|145=>400|143=>398|21=>21|171=>315|173=>317|212=>340|51=>301|20=>20|213=>341|232=>378|233=>379|80=>348|n=>n,fun |15=>4|16=>5|17=>1|18=>2|19=>3|n=>n⟩
theorem Tryz.lays172:Go.Proofs.Lays.n172 aC Tryz.lays172_ren:={
 mixed:=by kernel_rfl
 f129:=func253.trans (congrArg some (by kernel_rfl))
 f171:=func72.trans (congrArg some (by kernel_rfl))
 f172:=func275.trans (congrArg some (by kernel_rfl))
 f205:=func362.trans (congrArg some (by kernel_rfl))
 f243:=func146.trans (congrArg some (by kernel_rfl))
 f244:=func310.trans (congrArg some (by kernel_rfl))
 f245:=func311.trans (congrArg some (by kernel_rfl))
 f246:=func219.trans (congrArg some (by kernel_rfl))
 f247:=func343.trans (congrArg some (by kernel_rfl))
 f279:=func344.trans (congrArg some (by kernel_rfl))
 f280:=func345.trans (congrArg some (by kernel_rfl))
 f281:=func346.trans (congrArg some (by kernel_rfl))
 f282:=func347.trans (congrArg some (by kernel_rfl))
 f283:=func269.trans (congrArg some (by kernel_rfl))
 f284:=func270.trans (congrArg some (by kernel_rfl))
 f285:=func271.trans (congrArg some (by kernel_rfl))
 f286:=func272.trans (congrArg some (by kernel_rfl))
 f287:=func360.trans (congrArg some (by kernel_rfl))
 f316:=func361.trans (congrArg some (by kernel_rfl))
 f317:=func305.trans (congrArg some (by kernel_rfl))
 f318:=func306.trans (congrArg some (by kernel_rfl))
 f319:=func307.trans (congrArg some (by kernel_rfl))
 f320:=func308.trans (congrArg some (by kernel_rfl))
 f321:=func374.trans (congrArg some (by kernel_rfl))
 f322:=func375.trans (congrArg some (by kernel_rfl))
 f337:=func334.trans (congrArg some (by kernel_rfl))
 f338:=func335.trans (congrArg some (by kernel_rfl))
 t0:=vY
 a0:=Fs
 z0:=Df
 v0:=xV
 t2:=zn
 a2:=isAgg2
 z2:=sizeOf2
 v2:=zeroValue2
 t3:=eR
 a3:=kG
 z3:=mU
 v3:=jD
 t4:=gE
 a4:=nG
 z4:=lK
 v4:=iJ
 t5:=nN
 a5:=wO
 z5:=uR
 v5:=oK
 t9:=lF
 a9:=sG
 z9:=pY
 v9:=mJ
 t20:=Je
 a20:=UI
 z20:=QL
 v20:=Kj
 t21:=lj
 a21:=isAgg21
 z21:=sizeOf21
 v21:=zo
 t37:=G9
 a37:=QM
 z37:=NL
 v37:=Jf
 t46:=sB
 a46:=AX
 z46:=yM
 v46:=tM
 t51:=yN
 a51:=FJ
 z51:=D0
 v51:=Af
 t53:=Hu
 a53:=QN
 z53:=NM
 v53:=Jg
 t75:=ik
 a75:=isAgg320
 z75:=sizeOf320
 v75:=ll
 t76:=il
 a76:=isAgg321
 z76:=sizeOf321
 v76:=lp
 t85:=underlying366
 a85:=isAgg366
 z85:=sizeOf366
 v85:=zeroValue366
 t127:=im
 a127:=isAgg375
 z127:=sizeOf375
 v127:=lu
 t143:=underlying398
 a143:=isAgg398
 z143:=sizeOf398
 v143:=zeroValue398
 t145:=underlying400
 a145:=isAgg400
 z145:=sizeOf400
 v145:=zeroValue400
 t167:=underlying365
 a167:=isAgg365
 z167:=sizeOf365
 v167:=zeroValue365
 t168:=underlying368
 a168:=isAgg368
 z168:=sizeOf368
 v168:=zeroValue368
 t171:=ib
 a171:=isAgg315
 z171:=sizeOf315
 v171:=kn
 t173:=ic
 a173:=isAgg317
 z173:=sizeOf317
 v173:=ko
 t175:=underlying384
 a175:=isAgg384
 z175:=sizeOf384
 v175:=zeroValue384
 t210:=underlying387
 a210:=isAgg387
 z210:=sizeOf387
 v210:=zeroValue387
 t212:=ie
 a212:=isAgg340
 z212:=sizeOf340
 v212:=ku
 t213:=ig
 a213:=isAgg341
 z213:=sizeOf341
 t232:=ii
 a232:=isAgg378
 z232:=sizeOf378
 v232:=kw
 t233:=ij
 a233:=isAgg379
 z233:=sizeOf379
 v233:=li
 g15:=by kernel_rfl
 g16:=by kernel_rfl
 g17:=by kernel_rfl
 g18:=by kernel_rfl
 g19:=by kernel_rfl}
def Tryz.lays101_ren:iK:=⟨fun |101=>144|208=>218|206=>220|n=>n,fun |9=>9|4=>4|3=>3|n=>n,fun |n=>n⟩
theorem Tryz.lays101:Go.Proofs.Lays.n101 aC Tryz.lays101_ren:={
 mixed:=by kernel_rfl
 f101:=func144.trans (congrArg some (by kernel_rfl))
 f206:=func220.trans (congrArg some (by kernel_rfl))
 f208:=func218.trans (congrArg some (by kernel_rfl))
 t3:=eR
 a3:=kG
 z3:=mU
 v3:=jD
 t4:=gE
 a4:=nG
 z4:=lK
 v4:=iJ
 t9:=lF
 a9:=sG
 z9:=pY
 v9:=mJ}
def Tryz.lays99_ren:iK:=⟨fun |99=>147|206=>220|n=>n,fun |9=>9|4=>4|3=>3|n=>n,fun |n=>n⟩
theorem Tryz.lays99:Go.Proofs.Lays.n99 aC Tryz.lays99_ren:={
 mixed:=by kernel_rfl
 f99:=func147.trans (congrArg some (by kernel_rfl))
 f206:=func220.trans (congrArg some (by kernel_rfl))
 t3:=eR
 a3:=kG
 z3:=mU
 v3:=jD
 t4:=gE
 a4:=nG
 z4:=lK
 v4:=iJ
 t9:=lF
 a9:=sG
 z9:=pY
 v9:=mJ}
def Tryz.lays103_ren:iK:=⟨fun |103=>221|210=>273|206=>220|n=>n,fun |9=>9|4=>4|24=>280|3=>3|n=>n,fun |n=>n⟩
theorem Tryz.lays103:Go.Proofs.Lays.n103 aC Tryz.lays103_ren:={
 mixed:=by kernel_rfl
 f103:=func221.trans (congrArg some (by kernel_rfl))
 f206:=func220.trans (congrArg some (by kernel_rfl))
 f210:=func273.trans (congrArg some (by kernel_rfl))
 t3:=eR
 a3:=kG
 z3:=mU
 v3:=jD
 t4:=gE
 a4:=nG
 z4:=lK
 v4:=iJ
 t9:=lF
 a9:=sG
 z9:=pY
 v9:=mJ
 t24:=underlying280
 a24:=isAgg280
 z24:=sizeOf280
 v24:=zeroValue280}
def Tryz.lays122_ren:iK:=⟨fun |122=>153|215=>230|n=>n,fun |3=>3|4=>4|n=>n,fun |n=>n⟩
theorem Tryz.lays122:Go.Proofs.Lays.n122 aC Tryz.lays122_ren:={
 mixed:=by kernel_rfl
 f122:=func153.trans (congrArg some (by kernel_rfl))
 f215:=func230.trans (congrArg some (by kernel_rfl))
 t3:=eR
 a3:=kG
 z3:=mU
 v3:=jD
 t4:=gE
 a4:=nG
 z4:=lK
 v4:=iJ}
def Tryz.lays145_ren:iK:=⟨fun |145=>302|220=>331|219=>355|217=>367|225=>368|224=>369|267=>370|266=>377|314=>378|n=>n,fun |9=>9|4=>4|59=>338|3=>3|5=>5|46=>227|146=>391|51=>301|n=>n,fun |1=>6|n=>n⟩
theorem Tryz.lays145:Go.Proofs.Lays.n145 aC Tryz.lays145_ren:={
 mixed:=by kernel_rfl
 f145:=func302.trans (congrArg some (by kernel_rfl))
 f217:=func367.trans (congrArg some (by kernel_rfl))
 f219:=func355.trans (congrArg some (by kernel_rfl))
 f220:=func331.trans (congrArg some (by kernel_rfl))
 f224:=func369.trans (congrArg some (by kernel_rfl))
 f225:=func368.trans (congrArg some (by kernel_rfl))
 f266:=func377.trans (congrArg some (by kernel_rfl))
 f267:=func370.trans (congrArg some (by kernel_rfl))
 f314:=func378.trans (congrArg some (by kernel_rfl))
 t3:=eR
 a3:=kG
 z3:=mU
 v3:=jD
 t4:=gE
 a4:=nG
 z4:=lK
 v4:=iJ
 t5:=nN
 a5:=wO
 z5:=uR
 v5:=oK
 t9:=lF
 a9:=sG
 z9:=pY
 v9:=mJ
 t46:=sB
 a46:=AX
 z46:=yM
 v46:=tM
 t51:=yN
 a51:=FJ
 z51:=D0
 v51:=Af
 t59:=underlying338
 a59:=isAgg338
 z59:=sizeOf338
 v59:=zeroValue338
 t146:=io
 a146:=isAgg391
 z146:=sizeOf391
 v146:=lv
 g1:=by kernel_rfl}
def Tryz.lays160_ren:iK:=⟨fun |160=>309|232=>337|231=>336|227=>338|234=>340|233=>339|236=>342|235=>341|228=>356|271=>359|151=>358|197=>357|120=>373|152=>372|260=>371|137=>379|119=>380|224=>369|225=>368|217=>367|266=>377|n=>n,fun |9=>9|4=>4|3=>3|5=>5|117=>361|116=>360|0=>0|124=>364|21=>21|105=>381|46=>227|119=>403|139=>406|138=>405|n=>n,fun |3=>7|4=>8|n=>n⟩
theorem Tryz.lays160:Go.Proofs.Lays.n160 aC Tryz.lays160_ren:={
 mixed:=by kernel_rfl
 f119:=func380.trans (congrArg some (by kernel_rfl))
 f120:=func373.trans (congrArg some (by kernel_rfl))
 f137:=func379.trans (congrArg some (by kernel_rfl))
 f151:=func358.trans (congrArg some (by kernel_rfl))
 f152:=func372.trans (congrArg some (by kernel_rfl))
 f160:=func309.trans (congrArg some (by kernel_rfl))
 f197:=func357.trans (congrArg some (by kernel_rfl))
 f217:=func367.trans (congrArg some (by kernel_rfl))
 f224:=func369.trans (congrArg some (by kernel_rfl))
 f225:=func368.trans (congrArg some (by kernel_rfl))
 f227:=func338.trans (congrArg some (by kernel_rfl))
 f228:=func356.trans (congrArg some (by kernel_rfl))
 f231:=func336.trans (congrArg some (by kernel_rfl))
 f232:=func337.trans (congrArg some (by kernel_rfl))
 f233:=func339.trans (congrArg some (by kernel_rfl))
 f234:=func340.trans (congrArg some (by kernel_rfl))
 f235:=func341.trans (congrArg some (by kernel_rfl))
 f236:=func342.trans (congrArg some (by kernel_rfl))
 f260:=func371.trans (congrArg some (by kernel_rfl))
 f266:=func377.trans (congrArg some (by kernel_rfl))
 f271:=func359.trans (congrArg some (by kernel_rfl))
 t0:=vY
 a0:=Fs
 z0:=Df
 v0:=xV
 t3:=eR
 a3:=kG
 z3:=mU
 v3:=jD
 t4:=gE
 a4:=nG
 z4:=lK
 v4:=iJ
 t5:=nN
 a5:=wO
 z5:=uR
 v5:=oK
 t9:=lF
 a9:=sG
 z9:=pY
 v9:=mJ
 t21:=lj
 a21:=isAgg21
 z21:=sizeOf21
 v21:=zo
 t46:=sB
 a46:=AX
 z46:=yM
 v46:=tM
 t105:=underlying381
 a105:=isAgg381
 z105:=sizeOf381
 v105:=zeroValue381
 t116:=underlying360
 a116:=isAgg360
 z116:=sizeOf360
 t117:=underlying361
 a117:=isAgg361
 z117:=sizeOf361
 v117:=zeroValue361
 t119:=underlying403
 a119:=isAgg403
 z119:=sizeOf403
 t124:=underlying364
 a124:=isAgg364
 z124:=sizeOf364
 v124:=zeroValue364
 t138:=underlying405
 a138:=isAgg405
 z138:=sizeOf405
 v138:=zeroValue405
 t139:=underlying406
 a139:=isAgg406
 z139:=sizeOf406
 v139:=zeroValue406
 g3:=by kernel_rfl
 g4:=by kernel_rfl}
def Tryz.lays105_ren:iK:=⟨fun |105=>316|212=>349|99=>147|165=>350|166=>315|170=>351|169=>317|263=>364|264=>365|206=>220|240=>348|241=>366|276=>363|277=>376|n=>n,fun |9=>9|3=>3|4=>4|20=>20|0=>0|46=>227|109=>371|5=>5|72=>345|76=>321|51=>301|146=>391|53=>303|148=>393|70=>343|37=>266|75=>320|127=>375|164=>389|80=>348|n=>n,fun |n=>n⟩
theorem Tryz.lays105:Go.Proofs.Lays.n105 aC Tryz.lays105_ren:={
 mixed:=by kernel_rfl
 f99:=func147.trans (congrArg some (by kernel_rfl))
 f105:=func316.trans (congrArg some (by kernel_rfl))
 f165:=func350.trans (congrArg some (by kernel_rfl))
 f166:=func315.trans (congrArg some (by kernel_rfl))
 f169:=func317.trans (congrArg some (by kernel_rfl))
 f170:=func351.trans (congrArg some (by kernel_rfl))
 f206:=func220.trans (congrArg some (by kernel_rfl))
 f212:=func349.trans (congrArg some (by kernel_rfl))
 f240:=func348.trans (congrArg some (by kernel_rfl))
 f241:=func366.trans (congrArg some (by kernel_rfl))
 f263:=func364.trans (congrArg some (by kernel_rfl))
 f264:=func365.trans (congrArg some (by kernel_rfl))
 f276:=func363.trans (congrArg some (by kernel_rfl))
 f277:=func376.trans (congrArg some (by kernel_rfl))
 t0:=vY
 a0:=Fs
 z0:=Df
 v0:=xV
 t3:=eR
 a3:=kG
 z3:=mU
 v3:=jD
 t4:=gE
 a4:=nG
 z4:=lK
 v4:=iJ
 t5:=nN
 a5:=wO
 z5:=uR
 v5:=oK
 t9:=lF
 a9:=sG
 z9:=pY
 v9:=mJ
 t20:=Je
 a20:=UI
 z20:=QL
 v20:=Kj
 t37:=G9
 a37:=QM
 z37:=NL
 v37:=Jf
 t46:=sB
 a46:=AX
 z46:=yM
 v46:=tM
 t51:=yN
 a51:=FJ
 z51:=D0
 v51:=Af
 t53:=Hu
 a53:=QN
 z53:=NM
 v53:=Jg
 t70:=underlying343
 a70:=isAgg343
 z70:=sizeOf343
 v70:=zeroValue343
 t72:=underlying345
 a72:=isAgg345
 z72:=sizeOf345
 v72:=zeroValue345
 t75:=ik
 a75:=isAgg320
 z75:=sizeOf320
 v75:=ll
 t76:=il
 a76:=isAgg321
 z76:=sizeOf321
 v76:=lp
 t109:=underlying371
 a109:=isAgg371
 z109:=sizeOf371
 v109:=zeroValue371
 t127:=im
 a127:=isAgg375
 z127:=sizeOf375
 v127:=lu
 t146:=io
 a146:=isAgg391
 z146:=sizeOf391
 v146:=lv
 t148:=underlying393
 a148:=isAgg393
 z148:=sizeOf393
 v148:=zeroValue393
 t164:=underlying389
 a164:=isAgg389
 z164:=sizeOf389
 v164:=zeroValue389}
theorem Tryz.Builder_Extra_105:lz aC Tryz.lays105_ren:={
 sizeBuilder:=by kernel_rfl
 liesBuilder:=by kernel_rfl
 t5:=nN
 a5:=wO
 z5:=uR
 v5:=oK
 infoByte:=by kernel_rfl
 cellsByte:=by kernel_rfl
 sizeByte:=by kernel_rfl
 neB5:=by decide}
open Go Go.RowKit Go.Shelf Go.Lib
def nc:String:=String.ofList ([105,110,116,101,114,110,97,108,47,115,116,114,99,111,110,118,46,117,105,110,116,54,52,112,111,119,49,48].map Char.ofNat)
structure iM(w:aF):Prop where
 tab:Lib.TabIs aC w nc .u64 Lib.pow10Tab
 cut:∃m,w.cell? ⟨6,0,none⟩=some (aD aE m)
theorem iM.below{w w':aF}(h:iM w)(hb:Below w.heap.size w w'):iM w':=by
 obtain⟨h1,m,h2⟩:=h;refine⟨?_,m,(hb.cell (bG w _ h2)).trans h2⟩;unfold Lib.TabIs World.var? at h1⊢;cases hg:Tryz.prog.globalNamed nc with
 |none=>rw[hg]at h1;simp at h1
 |some g=>
  rw[hg]at h1;simp only[Option.bind_some]at h1⊢;have hlt:g<w.heap.size:=by
   by_cases h:g<w.heap.size
   ·exact h
   ·rw[Array.getElem?_eq_none (by omega)]at h1;simp at h1
  rw[hb.block g hlt];exact h1
theorem gW(n:Int)(w:aF)(h:iM w)(h0: -9223372036854775808≤n)(h1:n≤9223372036854775807):
 aW aC 72 #[aD aE n] w (Rt (aA (bs (cM n))) w):=by
 refine(Any.strconv_Itoa Tryz.laysM171 n h0 h1 w h.tab).mono ?_;rintro e w'⟨rfl,k,os,rfl⟩;exact⟨rfl,Lib.below_grow _ _ (aG _) _ _⟩
theorem Sa(s:ByteArray)(n:Int)(w:aF)(hl:s.size≤18)(h:Lib.atoi s.data.toList=some n):
 aW aC 275 #[aA s] w (Rt (cC #[aD aE n,.nilIface]) w):=by
 refine(Any.strconv_Atoi Tryz.lays172 s n hl h w).mono ?_;rintro e w'⟨rfl,t,rfl⟩;exact⟨rfl,Lib.bytesWorld_below _ _ _⟩
theorem oU(s p:ByteArray)(w:aF):
 aW aC 144 #[aA s,aA p] w fun e w'=>e=aQ (aA (bs (JI s.data.toList p.data.toList)))∧w=w':=
 (Any.strings_TrimPrefix Tryz.lays101 s p w).mono fun _ _ h=>⟨h.1,h.2.symm⟩
theorem Eb(s p:ByteArray)(w:aF):
 aW aC 147 #[aA s,aA p] w fun e w'=>e=aQ (aN (AY s.data.toList p.data.toList))∧w=w':=
 (Any.strings_HasPrefix Tryz.lays99 s p w).mono fun _ _ h=>⟨h.1,h.2.symm⟩
theorem zM(s p:ByteArray)(w:aF):
 aW aC 221 #[aA s,aA p] w fun e w'=>e=aQ (cC #[aA (bs (JI s.data.toList p.data.toList)),aN (AY s.data.toList p.data.toList)])∧w=w':=
 (Any.strings_CutPrefix Tryz.lays103 s p w).mono fun _ _ h=>⟨h.1,h.2.symm⟩
theorem Jr(x y:Int)(w:aF):
 aW aC 153 #[aD aE x,aD aE y] w fun e w'=>e=aQ (aD aE (Lib.compareInt x y))∧w=w':=
 (Any.cmp_Compare_int Tryz.lays122 x y w).mono fun _ _ h=>⟨h.1,h.2.symm⟩
theorem KQ(s:ByteArray)(c:Nat)(w:aF)(hc:c≤9223372036854775807)(kK:s.size*c≤140737488355328):
 aW aC 316 #[aA s,aD aE c] w (Rt (aA (bs (Lib.repeatL s.data.toList c))) w):=
 Any.strings_Repeat Tryz.lays105 Tryz.Builder_Extra_105 s c w hc kK
theorem lib_Cut(s sep:ByteArray)(w:aF)(h:iM w)(hs:s.size<4294967281):
 aW aC 302 #[aA s,aA sep] w (Rt (cC #[aA (bs (Lib.cut s.data.toList sep.data.toList).1),aA (bs (Lib.cut s.data.toList sep.data.toList).2.1),aN (Lib.cut s.data.toList sep.data.toList).2.2]) w):=by
 obtain⟨m,hm⟩:=h.cut;refine(Any.strings_Cut Tryz.lays145 s sep m w hs hm).mono ?_;rintro e w'⟨rfl,n,rfl⟩;exact⟨rfl,below_drewN (aH _ _) n⟩
def FZ:List UInt8:=[48,49,50,51,52,53,54,55,56,57]
theorem nh(s cs:ByteArray)(w:aF)(hs:s.size≤9223372036854775807)(Fy:cs.data.toList=FZ):
 aW aC 309 #[aA s,aA cs] w (Rt (aA (bs (Lib.trimS s.data.toList FZ))) w):=by
 have:=Any.strings_Trim_laid Tryz.lays160 (by kernel_rfl) s cs w hs (by rw[Zb,←Array.length_toList,Fy];decide) (by rw[Fy];exact ascii_of_all (by decide));rw[Fy]at this;exact this
end
section
open Go Go.Lib
def fX(s t:List UInt8):Int:=if pW s=0 then pW t else pW s
def Sb(s t:List UInt8):List UInt8×Int:=if fX s t=0 then nL (fQ s+fQ t)else([],fX s t)
def VJ(s t:List UInt8):List UInt8×Int:=if fX s t=0 then nL (fQ s-fQ t)else([],fX s t)
def Sc(s t:List UInt8):List UInt8×Int:=if fX s t=0 then nL (fQ s*fQ t)else([],fX s t)
def EF(n:Int):Int:=if n<0 then -1 else if 0<n then 1 else 0
def Se(s t:List UInt8):Int×Int:=if fX s t=0 then(EF (fQ s-fQ t),0)else(0,fX s t)
def Ps(s t:List UInt8):List UInt8×Int:=if fX s t=0 then(cM (dR (fQ s).natAbs (fQ t).natAbs),0)else([],fX s t)
def JQ(s t:List UInt8):List UInt8×List UInt8×Int:=
 if fX s t=0 then(if fQ t=0 then([],[],12)else(cM ((fQ s).fdiv (fQ t)),cM ((fQ s).fmod (fQ t)),0))else([],[],fX s t)
theorem Bm{s t:List UInt8}(h:fX s t=0):pW s=0∧pW t=0:=by
 unfold fX at h;split at h
 ·exact⟨‹_›,h⟩
 ·exact absurd h ‹_›
theorem Ko{s:List UInt8}(h:pW s=0):DJ s=true∧(mag s).length≤300:=by
 unfold pW at h;split at h
 ·split at h
  ·cases h
  ·exact⟨‹_›,by omega⟩
 ·cases h
theorem KR{s:List UInt8}(h:pW s=0):s.length≤301:=by
 have:=(Ko h).2;rw[mL]at this;have:Jp s≤1:=by unfold Jp;split <;>omega
 omega
theorem mC(s:List UInt8):(fQ s).natAbs=num (mag s):=by unfold fQ;split <;>simp
theorem xG{s:List UInt8}(h:pW s=0):num (mag s)<10^300:=by
 obtain⟨h1,h2⟩:=Ko h;exact Pm 300 (nZ _ (nM h1)) h2
theorem Nb{s:List UInt8}(h:DJ s=true){k:Nat}(hk:s.length≤k):num (mag s)<10^k:=by
 have:=mL s;exact bL (nZ _ (nM h)) (bO (by decide) (by omega))
theorem Pu{n:Int}{k:Nat}(h:n.natAbs<10^k)(hk:k≤300):nL n=(cM n,0):=by
 rw[nL,ip (bL h (bO (by decide) hk))]
theorem yW{x y q r:Int}(h:x=q*y+r)(hr:(0≤r∧r<y)∨(y<r∧r≤0)):x.fdiv y=q∧x.fmod y=r:=by
 rcases hr with⟨h1,h2⟩|⟨h1,h2⟩
 ·have hy:0<y:=by omega
  rw[AZ _ (by omega),Pb _ (by omega)];exact(Zc hy).2 ⟨by rw[h,xX];omega,h1,h2⟩
 ·have hy:0< -y:=by omega
  have e:=(Zc (a:= -x) (r:= -r) (q:=q) hy).2 ⟨by rw[h,MH,Int.neg_add,xX];omega,by omega,by omega⟩;rw[←Int.neg_fdiv_neg,←Int.neg_neg (x.fmod y),←Int.neg_fmod_neg,AZ _ (by omega),Pb _ (by omega)];omega
theorem EG(x y:Int)(hy:y≠0):x=x.tdiv y*y+x.tmod y∧(x.tmod y).natAbs<y.natAbs∧(x.tdiv y).natAbs≤x.natAbs:=by
 refine⟨?_,?_,?_⟩
 ·have:=Int.mul_tdiv_add_tmod x y;rw[xX]at this;exact this.symm
 ·rw[Int.natAbs_tmod];exact fU _ (by omega)
 ·rw[Int.natAbs_tdiv];exact Nat.div_le_self _ _
theorem Zu{x y:Int}(hy:y≠0)(h:x.tmod y=0∨(x.tmod y<0↔y<0)):x.fdiv y=x.tdiv y∧x.fmod y=x.tmod y:=by
 obtain⟨h1,h2,-⟩:=EG x y hy;exact yW h1 (by omega)
theorem Zv{x y:Int}(hy:y≠0)(h0:x.tmod y≠0)(h:¬(x.tmod y<0↔y<0)):x.fdiv y=x.tdiv y-1∧x.fmod y=x.tmod y+y:=by
 obtain⟨h1,h2,-⟩:=EG x y hy;refine yW ?_ (by omega);rw[Zd];omega
theorem F4(b:Bool){M N:Nat}(hN:0<N):(gV b M).fdiv (gV b N)=((M/N:Nat):Int)∧(gV b M).fmod (gV b N)=gV b (M%N):=by
 have h1:=pF M N;have h2:=fU M hN;have h3:((N*(M/N)+M%N:Nat):Int)=M:=by rw[h1]
 rw[Et,lI,xX]at h3;cases b
 ·simp only[gV,jQ,if_false];exact yW h3.symm (by omega)
 ·simp only[gV,if_true];exact yW (by rw[Int.mul_neg];omega) (by omega)
theorem F6(b:Bool){M N:Nat}(hN:0<N)(h0:M%N=0):(gV b M).fdiv (gV (!b) N)= -((M/N:Nat):Int)∧(gV b M).fmod (gV (!b) N)=0:=by
 have h1:=pF M N;have h3:((N*(M/N)+M%N:Nat):Int)=M:=by rw[h1]
 rw[Et,lI,xX,h0]at h3;cases b
 ·simp only[gV,vM,jQ,if_false,if_true];exact yW (by rw[Int.neg_mul_neg];omega) (by omega)
 ·simp only[gV,BN,jQ,if_false,if_true];exact yW (by rw[MH];omega) (by omega)
theorem F7(b:Bool){M N:Nat}(hN:0<N)(h0:M%N≠0):(gV b M).fdiv (gV (!b) N)= -((M/N:Nat):Int)-1∧(gV b M).fmod (gV (!b) N)=gV b (M%N)+gV (!b) N:=by
 have h1:=pF M N;have h2:=fU M hN;have h3:((N*(M/N)+M%N:Nat):Int)=M:=by rw[h1]
 rw[Et,lI,xX]at h3;cases b
 ·simp only[gV,vM,jQ,if_false,if_true];exact yW (by rw[Zd,Int.neg_mul_neg];omega) (by omega)
 ·simp only[gV,BN,jQ,if_false,if_true];exact yW (by rw[Zd,MH];omega) (by omega)
end
section
open Go Go.RowKit
theorem qJ(s:ByteArray):fQ s.data.toList=gV (fT s) (num (mag s.data.toList)):=by
 unfold fQ gV;have:=Cv s;unfold Jp at this;by_cases h:fT s=true
 ·rw[ip h]at this⊢;rw[ip (by
   by_cases e:s.data.toList.head? =some 45
   ·exact e
   ·rw[iN e]at this;cases this)]
 ·rw[iN h]at this⊢;rw[iN (by intro e;rw[ip e]at this;cases this)]
theorem NU{B:Nat}(hB:2≤B){s:List UInt8}{k j:Nat}(hBk:B=10^k)(hj:300≤k*j)(h:pW s=0):(cQ B (num (mag s))).length≤j:=by
 refine gH hB ?_;rw[hBk,←Nat.pow_mul];exact bL (xG h) (mu 300 _ hj)
theorem Ah{B M N a b:Nat}(hB:2≤B)(h1:(cQ B M).length≤a)(h2:(cQ B N).length≤b):(cQ B (M*N)).length≤a+b:=by
 have e1:=eG hB M;have e2:=eG hB N;have e3:M<B^a:=bL e1 (bO (by omega) h1);have e4:N<B^b:=bL e2 (bO (by omega) h2);exact gH hB (by rw[pE];exact De e3 e4)
theorem uE{B K M N a:Nat}(hB:2≤B)(h1:(cQ B M).length≤a)(h2:(cQ B N).length≤a)(h:K≤M+N):(cQ B K).length≤a+1:=by
 have e1:=eG hB M;have e2:=eG hB N;have e3:M<B^a:=bL e1 (bO (by omega) h1);have e4:N<B^a:=bL e2 (bO (by omega) h2);refine gH hB ?_;rw[fC];have:B^a*2≤B^a*B:=lQ _ hB;omega
theorem EH{c b1 b2:Bool}{K M N:Nat}(h:gV c K=gV b1 M+gV b2 N):K≤M+N:=by
 have:=congrArg Int.natAbs h;have q1:=uC c K;have q2:=uC b1 M;have q3:=uC b2 N;omega
theorem qK{s:ByteArray}(h:DJ s.data.toList=true){k:Nat}(hk:s.size≤k):(fQ s.data.toList).natAbs<10^k:=by
 rw[mC];exact Nb h hk
theorem Zw{x y:Int}{a b:Nat}(h1:x.natAbs<10^a)(h2:y.natAbs<10^b)(h:a+b≤18):(x*y).natAbs<10^18:=by
 rw[Int.natAbs_mul];exact bL (De h1 h2) (by rw[←pE];exact bO (by decide) h)
theorem Sf{n:Int}(h:n<0):EF n= -1:=by rw[EF,ip h]
theorem Sh{n:Int}(h:0<n):EF n=1:=by rw[EF,iN (by omega),ip h]
theorem NV{n:Int}(h:n=0):EF n=0:=by rw[EF,iN (by omega),iN (by omega)]
end
section
open Go Go.RowKit Go.Lib
theorem ni(x y:Int):dR y.natAbs (x.tmod y).natAbs=dR x.natAbs y.natAbs:=by
 rw[Int.natAbs_tmod,sI x.natAbs,Nat.gcd_rec y.natAbs x.natAbs,sI]
def Pv:Option aS→Nat
 |some (aD _ x)=>x.toNat
 |_=>0
def XU(B:Nat)(w:aF):aS→Nat
 |aB (some ⟨b,off,_⟩) n _=>cE B ((vN n).map fun i=>Pv (w.cell? ⟨b,off+i,none⟩))
 |_=>0
theorem Si{B N:Nat}{w:aF}{v:aS}(hB:2≤B)(h:tY w v B N):XU B w v=N:=by
 obtain⟨a,n,cap,rfl,hn,-,-,-,hr⟩:=h;by_cases h0:n=0
 ·subst h0;have hN:N=0:=(iO hB).1 (fW hn);subst hN;cases a with
  |none=>rfl
  |some a=>simp[XU,cE]
 ·obtain⟨b,off,rfl,-⟩:=hr 0 (by omega);unfold XU;have e:((vN n).map fun i=>Pv (w.cell? ⟨b,off+i,none⟩))=cQ B N:=by
   apply Kg
   ·simp[hn]
   ·intro i h1 h2;obtain⟨b',off',e,hc⟩:=hr i h2;injection e with e;injection e with e1 e2;subst e1 e2;rw[List.getElem_map,List.getElem_range,hc];simp[Pv,aO,h2]
  simp only[e];exact fS hB N
theorem gcd_zero_right(x:Int):dR x.natAbs (0:Int).natAbs=x.natAbs:=by simp
theorem KS{t:List UInt8}(h:DJ t=true):fQ t=0↔t=[48]:=by
 constructor
 ·intro e;have:=Dj t h;rw[e]at this;rw[←this];exact Zo false
 ·rintro rfl;rfl
theorem nj{t:ByteArray}(h:DJ t.data.toList=true):fQ t.data.toList=0↔t={data:= #[48]}:=by
 rw[KS h];constructor
 ·intro e;exact KM e
 ·rintro rfl;rfl
theorem XW{a b:Bool}(h:¬a=b):a= !b:=by cases a<;>cases b<;>simp_all
theorem two_new{w W:aF}{c1 c2:Array aS}{T1 T2:eC}(h:(w.alloc (aJ c1 T1)).alloc (aJ c2 T2)=W):
 bT W w.heap.size c1 T1∧bT W (w.heap.size+1) c2 T2∧Below w.heap.size w W:=by
 subst h;have:=bT.new (w.alloc (aJ c1 T1)) c2 T2;rw[bB]at this;exact⟨(bT.new w _ _).alloc _,this,((aH _ _).alloc (aG _) _).alloc (by simp) _⟩
theorem XX{s t:List UInt8}(h:fX s t=0)(hz:fQ t≠0):JQ s t=(cM ((fQ s).fdiv (fQ t)),cM ((fQ s).fmod (fQ t)),0):=by rw[JQ,ip h,iN hz]
end
section
open Go Go.RowKit Go.Shelf
section
attribute[local go_sem] dW
def dX(s:ByteArray)(k:Nat):Nat:=(s.data.toList.getD (s.size-1-k) 0).toNat-48
abbrev encD(s:ByteArray)(k:Nat):Array aS:= #[iv k,iv (dX s k)]
theorem nk(F:Kh)(n:Nat)(h7:F.fn 312)(Ia:F.round=none)(hn:1≤n)(Bs:Nat)(s:ByteArray)(len:Nat)(Zx:s.size=len)(mz:len≤2147483648)(hd:s.data.toList.all eE=true)(w:aF)
 (hBs:w.cell? ⟨Bs,0,none⟩=some (aA s)):
 VG F n aC 312 #[bA (some ⟨Bs,0,none⟩)] (encD s) (cY (·=Bs)) len w:=by
 intro l J Jx W hW hY h0;have hBs:=(hW.cell (p:=⟨Bs,0,none⟩) (bG w _ hBs)).trans hBs;clear hW;have Hd:=zq hd;clear hd;subst Zx;refine GZ func312 rfl h7 ?_ Ia;simp only[ntmps312,bW,bF,bY,cW,cX,bR,bS,cD,bU,cL,bZ];gi_wp2;gi_loopw [6] (fun i wr=>∃k:Nat,k≤s.size∧i=aD aE (k:Int)∧J k wr∧cY (·=Bs) W wr)
  (fun i _=>s.size-(aK i).toNat)
 case atStart=>exact⟨0,bN _,by simp,h0,cY.refl _ _⟩
 case round=>
  obtain⟨k,hk,rfl,na,R7⟩:=hrel;by_cases hlt:k<s.size
  ·obtain⟨j,hj⟩:∃j,s.size-1-k=j:=⟨_,rfl⟩;have hjs:j<s.size:=by omega
   have e1:(s.size:Int)-1-(k:Int)=(j:Int):=by omega
   have e2:(0:Int)≤(j:Int):=by omega
   have hb:=(R7.cell (p:=⟨Bs,0,none⟩) rfl).trans hBs;have hdg:=ED s Hd.out j hjs;obtain⟨d,NW⟩:∃d:Nat,(s[j].toNat:Int)-48=(d:Int):=⟨s[j].toNat-48,by omega⟩;have q1:IntKind.u8.wrap ((s[j].toNat:Int)-48)=(d:Int):=by rw[NW];exact ma _ (by omega)
   have q2:((s[j].toNat:Int)-48)%256=(d:Int):=by rw[NW];omega
   have hba:(s.data.toList.getD j 0).toNat-48=d:=by rw[NT s j hjs];omega
   obtain⟨fn,tmps,assign,body,hy,hR⟩:=hY k wr hlt na;simp only[encD,dX,hj,hba]at hy;have Hba:=zq hba;clear hba;have Hj:=zq hj;clear hj hdg NW;gi_wp2;refine hR.mono ?_;rintro e W3 (⟨rfl,Ve,hk3⟩|⟨rfl,VH⟩)
   ·gi_wp2;go_roundw;case rel=>exact⟨k+1,by omega,by go_num,Ve,R7.trans hk3⟩
    case measure=>simp only[aK];omega
   ·gi_wp2;refine cI (tE rfl _ _ _) rfl ?_;exact⟨⟨_,rfl⟩,.inr ⟨k+1,by omega,VH⟩⟩
  ·obtain rfl:k=s.size:=by omega
   gi_wp2;go_end0;exact⟨⟨_,rfl⟩,.inl na⟩
theorem digs_in(F:Kh)(n:Nat)(h5:F.fn 276)(Ia:F.round=none)(s:ByteArray)(w:aF):
 CallsIn F n aC 276 #[aA s] w fun e w'=>e=aQ (.func (.func 312) #[] #[bA (some ⟨w.heap.size,0,none⟩)])∧w'=w.alloc (aJ #[aA s] 9):=by
 refine GZ func276 rfl h5 ?_ Ia;simp only[ntmps276,bW,bF,bY,cW,cX,bR,bS,cD,bU,cL,bZ];gi_wp2;go_ret;exact⟨rfl,rfl⟩
end
section
attribute[local go_sem] dW
def BU(v:Int)(M N:Nat):Prop:=(v<0↔M<N)∧(v=0↔M=N)
theorem KT(a1 a2:Option cT)(c1 c2 n1 n2:Nat)(w:aF)(M N:Nat)(yB:(cQ PB M).length=n1)(Ab:(cQ PB N).length=n2)(hx:n1≤1000)(hy:n2≤1000)(jC:n1≠n2):
 aW aC 278 #[aB a1 n1 c1,aB a2 n2 c2] w fun e w'=>(∃v,e=aQ (aD aE v)∧BU v M N)∧Below w.heap.size w w':=by
 have hc:BU ((n1:Int)-n2) M N:=by
  rcases fK n1 n2 with h|h
  ·have:M<N:=xC dB (by omega);exact⟨by omega,by omega⟩
  ·have:N<M:=xC dB (by omega);exact⟨by omega,by omega⟩
 have Hc:=zq hc;clear hc yB Ab;have hb:((n1:Int) !=(n2:Int))=true:=by simp;omega
 have hB:Below w.heap.size w ((w.alloc (aJ #[aB a2 n2 c2] 194)).alloc (aJ #[aD aE ((n1:Int)-n2)] 3)):=((aH _ _).alloc (aG _) _).alloc (by simp) _;go_enter func278,ntmps278;go_wp2;refine cI (iD MJ _ _ (w.heap.size+1) (aD aE ((n1:Int)-n2)) rfl ?_ (kG _)) rfl ⟨⟨_,rfl,Hc.out⟩,hB⟩;have:=(bT.new (w.alloc (aJ #[aB a2 n2 c2] 194)) #[aD aE ((n1:Int)-n2)] 3).cell 0;rwa[bB]at this
theorem KU(F:Kh)(n:Nat)(hF:∀k,F.fn k)(Ia:F.round=none)(hn:5≤n)(a1 a2:Option cT)(c1 c2 len:Nat)(w:aF)(M N:Nat)(yB:(cQ PB M).length=len)(Ab:(cQ PB N).length=len)(hx:len≤1000)(h1:Rd w a1 (cQ PB M))(h2:Rd w a2 (cQ PB N)):
 CallsIn F n aC 278 #[aB a1 len c1,aB a2 len c2] w fun e w'=>(∃v,e=aQ (aD aE v)∧BU v M N)∧Below w.heap.size w w':=by
 have H1:=zq h1;clear h1
 have H2:=zq h2;clear h2
 have yX:=zq yB;clear yB
 have EI:=zq Ab;clear Ab
 have e0:((len:Int) !=(len:Int))=false:=by simp
 refine callsIn_of_wp_marks func278 rfl (hF _) ?_ Ia
 simp only[ntmps278,bW,bF,bY,cW,cX,bR,bS,cD,bU,cL,bZ]
 have h1n:1≤n:=by omega
 gi_wp2_with (gi_at_call 281;refine(FX F (n-1) (hF _) Ia _ _ _ _).mono ?_;rintro e w' ⟨rfl,rfl⟩)
 have fA:Below w.heap.size w (((w.alloc (aJ #[aB a2 len c2] 194)).alloc (aJ #[aD aE 0] 3)).alloc (aJ #[aB a1 len c1] 194)):=(((aH _ w).alloc (aG _) _).alloc (by simp) _).alloc (by simp;omega) _
 obtain⟨W0,eQ⟩:∃W0,(((w.alloc (aJ #[aB a2 len c2] 194)).alloc (aJ #[aD aE 0] 3)).alloc (aJ #[aB a1 len c1] 194))=W0:=⟨_,rfl⟩
 have b0:bT W0 w.heap.size #[aB a2 len c2] 194:=by rw[←eQ];exact((bT.new w _ _).alloc _).alloc _
 have b1:bT W0 (w.heap.size+1) #[aD aE 0] 3:=by
  rw[←eQ]
  have:=(bT.new (w.alloc (aJ #[aB a2 len c2] 194)) #[aD aE 0] 3).alloc (aJ #[aB a1 len c1] 194)
  rwa[bB]at this
 have b2:bT W0 (w.heap.size+1+1) #[aB a1 len c1] 194:=by
  rw[←eQ]
  have:=bT.new ((w.alloc (aJ #[aB a2 len c2] 194)).alloc (aJ #[aD aE 0] 3)) #[aB a1 len c1] 194
  rwa[bB,bB]at this
 have hs0:W0.heap.size=w.heap.size+3:=by rw[←eQ];simp
 rw[eQ]at fA⊢
 clear eQ
 have Cw:=Cu (H1.out.below fA) yX.out (Bs:=w.heap.size+1+1) (by omega)
 refine FP Ia (by omega) (gf:=313) (lb:= #[bA (some ⟨w.heap.size+1+1,0,none⟩)]) rfl (hF _) (enters_of Dd (by kernel_rfl) rfl)
  (FV F (n-1) (hF _) Ia (by omega) (w.heap.size+1+1) a1 len c1 (cQ PB M) yX.out (by omega) W0 (b2.cell 0) (H1.out.below fA)) (aH _ _) cY.trans (cY.putObj Cw) (fun _=>rfl)
  (fun k W=>(Hid (∀i,len-k≤i→i<len→(cQ PB M).getD i 0=(cQ PB N).getD i 0)∧bT W w.heap.size #[aB a2 len c2] 194∧bT W (w.heap.size+1) #[aD aE 0] 3)∧Below w.heap.size w W)
  (fun c _ W=>(c=.ret∧∃v,BU v M N∧bT W (w.heap.size+1) #[aD aE v] 3)∧Below w.heap.size w W)
  (cU (Own.from (fun s A B lM hs hg hr=>⟨hs.1,hs.2.1.own hg hr,hs.2.2.own hg hr⟩) _) (oA (aG _) (by omega)))
  (fun c=>cU (Own.from (fun s A B lM hs hg hr=>by obtain⟨h1,v,h2,h3⟩:=hs;exact⟨h1,v,h2,h3.own hg hr⟩) _) (oA (aG _) (by omega)))
  ⟨⟨fun i h1 h2=>by omega,b0,b1⟩,fA⟩
  ?Jp ?assign ?body ?done ?stop
 case assign=>
  intro l k W K hK
  gi_wp2
  exact hK
 case body=>
  rintro l k W hk⟨⟨VK,hb0,hb1⟩,hB⟩
  obtain⟨j,hj⟩:∃j,len-1-k=j:=⟨_,rfl⟩
  obtain⟨g2,o2,rfl,hcc⟩:=(H2.out.below hB) j (by rw[EI.out];omega)
  have k0:=hb0.cell 0
  have k1:=hb1.cell 0
  have k2:=hb1.fz 0
  simp only[aL,aI]at k0 k1
  have hjl:(j:Int)<len:=by omega
  have hj0:(0:Int)≤j:=by omega
  have hx:=iG (kH dB M) (by decide) j
  have hy:=iG (kH dB N) (by decide) j
  have Hj:=zq hj;clear hj
  generalize jh:(cQ PB M).getD j 0=X at *
  generalize NX:(cQ PB N).getD j 0=Y at *
  have hx:X<1000000000:=hx
  have hy:Y<1000000000:=hy
  rw[KN yX.out Hj.out,KO yX.out Hj.out jh]
  have nl:=zq jh;clear jh
  have XY:=zq NX;clear NX
  by_cases hxy:X=Y
  ·subst hxy
   have jC:((X:Int) !=(X:Int))=false:=by simp
   gi_wp2
   refine⟨zp _ _,cY.refl _ _,⟨fun i h1 h2=>?_,hb0,hb1⟩,hB⟩
   by_cases e:i=j
   ·subst e;rw[nl.out,XY.out]
   ·exact VK.out i (by have:=Hj.out;omega) h2
  ·have jC:((X:Int) !=(Y:Int))=true:=by simp;omega
   have hcmp:Hid (BU ((X:Int)-Y) M N):=by
    show BU _ _ _
    rcases fK X Y with h|h
    ·have:M<N:=by
      rw[←fS dB M,←fS dB N]
      exact Cr (by decide) _ _ (kH dB M) j (by rw[yX.out,EI.out]) (by rw[yX.out];omega) (by rw[yX.out];exact fun i h1 h2=>VK.out i (by have:=Hj.out;omega) h2) (by rw[nl.out,XY.out];exact h)
     exact⟨by omega,by omega⟩
    ·have:N<M:=by
      rw[←fS dB M,←fS dB N]
      exact Cr (by decide) _ _ (kH dB N) j (by rw[yX.out,EI.out]) (by rw[EI.out];omega) (by rw[EI.out];exact fun i h1 h2=>(VK.out i (by have:=Hj.out;omega) h2).symm) (by rw[nl.out,XY.out];omega)
     exact⟨by omega,by omega⟩
   clear hxy
   gi_wp2
   exact⟨(cG _ _ _).from _,⟨rfl,_,hcmp.out,hb1.set 0 _⟩,hB.setCell (p:=⟨w.heap.size+1,0,none⟩) (by show w.heap.size≤w.heap.size+1;omega) _⟩
 case done=>
  rintro D W hD⟨⟨VK,hb0,hb1⟩,hB⟩hK
  have hMN:M=N:=by
   rw[←fS dB M,←fS dB N]
   exact KI PB _ _ (by rw[yX.out,EI.out]) (by rw[yX.out];exact fun i hi=>VK.out i (by omega) hi)
  have k1:=hb1.cell 0
  have k2:=hb1.fz 0
  simp only[aL,aI]at k1
  gi_wp2
  have hK':=(cG W ⟨w.heap.size+1,0,none⟩ (aD aE 0)).same D _ hK rfl
  refine⟨by simp,.inl ⟨_,_,rfl,fH hK',?_⟩⟩
  refine⟨aD aE 0,iD MJ _ _ (w.heap.size+1) (aD aE 0) rfl ?_ (kG _),⟨0,rfl,by unfold BU;omega⟩,?_⟩
  ·exact((hb1.set 0 (aD aE 0)).putObj _ hK' rfl).cell 0
  ·exact(hB.setCell (p:=⟨w.heap.size+1,0,none⟩) (by show w.heap.size≤w.heap.size+1;omega) _).trans (belowK_b (w:=w) (aG _) _ D _ _ (by omega) hK' rfl rfl)
 case stop=>
  rintro D c k W hD hk⟨⟨rfl,v,hv,hb1⟩,hB⟩hK
  gi_wp2
  refine⟨by simp,.inl ⟨_,_,rfl,fH hK,?_⟩⟩
  refine⟨aD aE v,iD MJ _ _ (w.heap.size+1) (aD aE v) rfl ((hb1.putObj _ hK rfl).cell 0) (kG _),⟨v,rfl,hv⟩,?_⟩
  exact hB.trans (belowK_b (w:=w) (aG _) W D _ _ (by omega) hK rfl rfl)
theorem vF(v1 v2:aS)(M N:Nat)(w:aF)(h1:tY w v1 PB M)(h2:tY w v2 PB N)(hM:(cQ PB M).length≤1000)(hN:(cQ PB N).length≤1000):
 aW aC 278 #[v1,v2] w fun e w'=>(∃v,e=aQ (aD aE v)∧BU v M N)∧Below w.heap.size w w':=by
 obtain⟨a1,n1,c1,rfl,q1,_,_,_,q5⟩:=h1;obtain⟨a2,n2,c2,rfl,p1,_,_,_,p5⟩:=h2;by_cases h:n1=n2
 ·subst h;exact callsIn_wide.1 (KU Fence.wide 5 (fun _=>trivial) rfl (aG _) a1 a2 c1 c2 n1 w M N q1 p1 (by omega) q5 p5)
 ·exact KT a1 a2 c1 c2 n1 n2 w M N q1 p1 (by omega) (by omega) h
end
end
end Go.Proofs.YtckgmoobicmbnaaGreatDoor
