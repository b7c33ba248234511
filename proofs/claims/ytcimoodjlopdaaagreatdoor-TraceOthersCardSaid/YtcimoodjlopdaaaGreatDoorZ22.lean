import Derived.KernelRfl
import Derived.Stop.RegionWithIn
import Derived.Deep.RegionHeld3
import Derived.Test.YtcimoodjlopdaaaGreatDoorZ0
import Derived.Test.YtcimoodjlopdaaaGreatDoorZ6
import Derived.Test.YtcimoodjlopdaaaGreatDoorZ8
import Derived.Test.YtcimoodjlopdaaaGreatDoorZ14
import Derived.Test.YtcimoodjlopdaaaGreatDoorZ16
import Derived.Test.YtcimoodjlopdaaaGreatDoorZ18
import Derived.Test.YtcimoodjlopdaaaGreatDoorZ19
import Derived.Test.YtcimoodjlopdaaaGreatDoorZ20
import Derived.Test.YtcimoodjlopdaaaGreatDoorZ21
namespace Go.Proofs.YtcimoodjlopdaaaGreatDoor
set_option maxRecDepth 100000
set_option maxHeartbeats 8000000
set_option linter.all false
open Go.Proofs.Tryz
open _root_.Array renaming replicate->pG
open Bool renaming and_eq_true->bT,eq_iff_iff->EK
open Classical renaming byContradiction->fZ
open Go renaming World->aE,Calls->aQ,Value->bB,bodyPost_ret->cD,Addr->dE,Oper->A8,results_none->Bh,Act->EI,wpAnyH_done->MN,Exit->db
open Go.Act renaming put->eC
open Go.Code renaming region->OK
open Go.Ending renaming returned->aO
open Go.Fence renaming wide->dW
open Go.IntKind renaming i64->aG
open Go.Obj renaming cells->aL
open Go.Proofs.Tryz renaming prog->aC
open Go.RowKit renaming Below->aJ,Hid->aY
open Go.RowKit.Below renaming refl->aI
open Go.Value renaming string->aA,slice->aB,int->aF,bool->aM,pointer->cB
open Int renaming natAbs_natCast->bP,natCast_mul->gZ
open List renaming getD_eq_getElem?_getD->aN,setIfInBounds_toArray->aU,getElem_cons_zero->aZ,getElem_cons_succ->bA,getElem_toArray->bC,set_cons_succ->bG,set_cons_zero->bK,length_map->cG,length_cons->cO,length_append->cU,take_succ_eq_append_getElem->dQ,length_nil->eW,getElem_of_mem->fV,getElem?_eq_none->jP,append_nil->nX,any_eq_true->Ky,range->rv
open Nat renaming le_refl->aD,zero_le->bR,le_trans->cC,lt_of_le_of_lt->dF,lt_or_ge->fC,mod_eq_of_lt->fU,mod_lt->fW,add_mod_right->JY
open Trans renaming trans->cL
section
open Go Go.RowKit Go.Lib
def XK(p q:Po):List UInt8:=(tO (lF p.x q.y).1 (lF q.x p.y).1).1
def jC(ps:List Po):List (List UInt8):=(rv ps.length).map fun k=>XK (ps.getD k default) (ps.getD ((k+1)%ps.length) default)
def iM(PN:List (List Po)):List (List UInt8):=PN.flatMap jC
def Ae(fs:List Fr)(ls:List Lp)(z:List UInt8):List UInt8×Int:=
 if fR fs ls z=0 then(if(mK (iM (gT fs ls z))).2=0 then qH (mK (iM (gT fs ls z))).1 [50]else([],(mK (iM (gT fs ls z))).2))else([],fR fs ls z)
theorem JR{PN:List (List Po)}{i:Nat}(hi:i<PN.length):iM (PN.take (i+1))=iM (PN.take i)++jC (PN.getD i []):=by
 unfold iM;rw[dQ hi,List.flatMap_append];simp[aN,hi]
theorem Fq(ps:List Po):(jC ps).length=ps.length:=by simp[jC]
theorem JS{ps:List Po}{k:Nat}(hk:k<ps.length):(jC ps).take (k+1)=(jC ps).take k++[XK (ps.getD k default) (ps.getD ((k+1)%ps.length) default)]:=by
 rw[dQ (by rw[Fq];exact hk)];simp[jC]
theorem Di{q:Rat}(h1:q.num.natAbs<10^300)(h2:q.den<10^300):(aV q).length≤700:=by
 have:=CS (a:=bs (aV q)) (by rw[aX];exact CL q h1 h2);rwa[bU]at this
theorem GW(s t:List UInt8):(lF s t).1.length≤700:=by
 unfold lF;split
 ·split
  ·rename_i h;unfold Lm at h;rw[bT]at h;have h1:=of_decide_eq_true h.1;have h2:=of_decide_eq_true h.2;rw[←gZ,bP]at h2;have h3:=vZ ((cF s).num*(cF t).num) ((cF s).den*(cF t).den) (rQ _ _);rw[AN]at h3;exact Di (dF h3.1 h1) (dF h3.2 h2)
  ·exact bR _
 ·exact bR _
theorem mq(s t:List UInt8):(tO s t).1.length≤700:=by
 unfold tO;split
 ·split
  ·rename_i h;unfold Jv at h;rw[bT,bT]at h;have h1:=of_decide_eq_true h.1.2;have h2:=of_decide_eq_true h.2;rw[←gZ,bP]at h2;have h3:=vZ ((cF s).num*(cF t).den-(cF t).num*(cF s).den) ((cF s).den*(cF t).den) (rQ _ _);rw[DE]at h3;exact Di (dF h3.1 h1) (dF h3.2 h2)
  ·exact bR _
 ·exact bR _
theorem VU{PN:List (List Po)}{x:List UInt8}(h:x∈iM PN):x.length≤700:=by
 unfold iM at h;obtain⟨ps,-,h2⟩:=List.mem_flatMap.1 h;unfold jC at h2;obtain⟨i,-,h3⟩:=List.mem_map.1 h2;rw[←h3];exact mq _ _
theorem JT(PN:List (List Po))(k:Nat):((iM PN).getD k []).length≤700:=by
 rcases fC k (iM PN).length with h|h
 ·exact VU (cP h [])
 ·simp[aN,jP h]
theorem Tj(xs:List (List UInt8)):(mK xs).1.length≤700:=by
 unfold mK;split
 ·exact bR _
 ·split
  ·split
   ·have:=CS (a:=bs (oH xs xs.length)) (by rw[aX];exact Px ‹_›);rwa[bU]at this
   ·exact bR _
  ·exact bR _
theorem mr{f:Fr}(hf:f.Ok){z:List UInt8}(hz:dR z=0):(Md f z).length≤700:=by
 have h:=hf.good.1.hpos (Aq hz).2.1;have h2:=h.mono (k:=300) (by decide);exact Di h2.1 h2.2
theorem Mu{fs:List Fr}(pK:∀f∈fs,f.Ok){z:List UInt8}(hz:dR z=0)(k:Nat):((iP fs z).getD k []).length≤700:=by
 rcases fC k (iP fs z).length with h|h
 ·have hm:=cP h ([]:List UInt8);generalize(iP fs z).getD k []=x at *;unfold iP at hm;obtain⟨f,h1,rfl⟩:=List.mem_map.1 hm;exact mr (pK f h1) hz
 ·simp[aN,jP h]
theorem IW{fs:List Fr}{ls:List Lp}{z:List UInt8}(pK:∀f∈fs,f.sp.length≤30∧f.st.length≤30)(sW:Fk ls)(h:fR fs ls z=0):
 (gT fs ls z).length≤24∧∀ps∈gT fs ls z,ps.length≤1000000∧∀p∈ps,p.x.length≤8000000∧p.y.length≤8000000:=by
 have h0:fH fs [z] ls=0:=fZ fun k=>by
  unfold fR at h;rw[ip k]at h;exact k h
 obtain⟨h1,h2,h3⟩:=DZ h0;have ZM:∀f∈fs,f.Ok:=fun f hm=>⟨h1 f hm,(pK f hm).1,(pK f hm).2⟩;have hz:=h2 z (List.mem_singleton.2 rfl);unfold gT;rw[ip h];unfold jD;refine⟨by rw[cG];exact h3,fun ps rV=>?_⟩;obtain⟨l,hl,rfl⟩:=List.mem_map.1 rV;refine⟨by rw[cG];exact(sW l hl).1,fun p hp=>?_⟩;obtain⟨q,hq,rfl⟩:=List.mem_map.1 hp;have k1:=((sW l hl).2 q hq).1;have k2:=Mu ZM hz q.side.toNat;unfold iH;split
 ·exact⟨by show((iP fs z).getD _ _).length≤_;omega,k1⟩
 ·exact⟨k1,by show((iP fs z).getD _ _).length≤_;omega⟩
def Co(M k j N:Nat):Prop:=N≤k*M+j
def Ef(k j N:Nat):Prop:=Co 1000000 k j N
theorem Co.zero{M:Nat}:Co M 0 0 0:=bR _
theorem Co.step{M k j N:Nat}(h:Co M k j N):Co M k (j+1) (N+1):=by unfold Co at *;omega
theorem Co.next{M k j N:Nat}(h:Co M k j N)(hj:j≤M):Co M (k+1) 0 N:=by unfold Co at *;rw[Nat.succ_mul];omega
theorem Co.lt{M k j N:Nat}(h:Co M k j N)(hk:k≤24)(hj:j≤M):N≤25*M:=by
 unfold Co at h;have:=Nat.mul_le_mul_right M hk;omega
theorem Ef.zero:Ef 0 0 0:=Co.zero
theorem Ef.step{k j N:Nat}(h:Ef k j N):Ef k (j+1) (N+1):=Co.step h
theorem Ef.next{k j N:Nat}(h:Ef k j N)(hj:j≤1000000):Ef (k+1) 0 N:=Co.next h hj
theorem Ef.lt{k j N:Nat}(h:Ef k j N)(hk:k≤24)(hj:j≤1000000):N+1≤2147483648:=by
 have h1:=Co.lt h hk hj;have h2:25*1000000=25000000:=by decide
 rw[h2]at h1;exact cC (Nat.succ_le_succ h1) (by decide)
def VV(w W:aE)(g h:Nat)(pc qc:Array bB):Prop:=bZ W g pc 56∧bZ W h qc 56∧aJ w.heap.size w W
theorem XL(w:aE)(pc qc:Array bB):VV w ((w.alloc (aL pc 56)).alloc (aL qc 56)).drew w.heap.size (w.heap.size+1) pc qc:=by
 refine⟨(bZ.new w _ _).alloc _,?_,(((aI _ w).alloc (aD _) _).alloc (by simp) _).drew⟩;have:=bZ.new (w.alloc (aL pc 56)) qc 56;rwa[World.size_alloc]at this
theorem jointO2(w:aE)(pc qc:Array bB):VV w ((w.alloc (aL qc 56)).alloc (aL pc 56)).drew (w.heap.size+1) w.heap.size pc qc:=by
 obtain⟨a,b,c⟩:=XL w qc pc;exact⟨b,a,c⟩
def xA(fs:List Fr)(p:Pt):Bool:=(fs.getD p.side.toNat default).up
def Fs(fs:List Fr)(at':List (List UInt8))(p q r:Pt):Pt:=
 ⟨q.side,if xA fs p=xA fs q then q.fr else at'.getD p.side.toNat [],if xA fs q=xA fs r then q.en else at'.getD r.side.toNat []⟩
def mM(fs:List Fr)(at':List (List UInt8))(ps:List Pt):List Pt:=
 (rv ps.length).map fun k=>Fs fs at' (ps.getD ((k+ps.length-1)%ps.length) default) (ps.getD k default) (ps.getD ((k+1)%ps.length) default)
def eV(fs:List Fr)(at':List (List UInt8))(ls:List Lp):List (List Pt):=ls.map fun l=>mM fs at' l.ps
theorem sA(fs:List Fr)(at':List (List UInt8))(ps:List Pt):(mM fs at' ps).length=ps.length:=by simp[mM]
theorem Tk{fs:List Fr}{at':List (List UInt8)}{ps:List Pt}{k:Nat}(hk:k<ps.length):
 (mM fs at' ps).take (k+1)=(mM fs at' ps).take k++[Fs fs at' (ps.getD ((k+ps.length-1)%ps.length) default) (ps.getD k default) (ps.getD ((k+1)%ps.length) default)]:=by
 rw[dQ (by rw[sA];exact hk)];simp[mM]
theorem On{fs:List Fr}{at':List (List UInt8)}{ps:List Pt}{k:Nat}(hk:k<ps.length):
 (mM fs at' ps).getD k default=Fs fs at' (ps.getD ((k+ps.length-1)%ps.length) default) (ps.getD k default) (ps.getD ((k+1)%ps.length) default):=by
 simp[mM,aN,hk]
def EC(fs:List Fr)(at':List (List UInt8))(ps:List Pt)(i:Nat):List Pt:=
 if xA fs (ps.getD i default)=xA fs (ps.getD ((i+1)%ps.length) default)then ps else
  let qs:=ps.set i {ps.getD i default with en:=at'.getD (ps.getD ((i+1)%ps.length) default).side.toNat []}
  qs.set ((i+1)%ps.length) {qs.getD ((i+1)%ps.length) default with fr:=at'.getD (ps.getD i default).side.toNat []}
def Ft(fs:List Fr)(at':List (List UInt8))(ps:List Pt):Nat→List Pt
 |0=>ps
 |i+1=>EC fs at' (Ft fs at' ps i) i
theorem ZN(fs:List Fr)(at':List (List UInt8))(ps:List Pt)(i:Nat):(EC fs at' ps i).length=ps.length:=by
 unfold EC;split <;>simp
theorem Dj(fs:List Fr)(at':List (List UInt8))(ps:List Pt):∀i,(Ft fs at' ps i).length=ps.length
 |0=>rfl
 |i+1=>by rw[Ft,ZN,Dj]
theorem ED{α:Type}{xs:List α}{i:Nat}(h:i<xs.length)(x d:α):(xs.set i x).getD i d=x:=by simp[aN,h]
theorem getD_setN{α:Type}{xs:List α}{i j:Nat}(h:i≠j)(x d:α):(xs.set i x).getD j d=xs.getD j d:=by simp[aN,List.getElem?_set_ne h]
theorem ms{fs:List Fr}{at':List (List UInt8)}{ps:List Pt}{i:Nat}(h2:2≤ps.length)(hi:i<ps.length)(k:Nat)(hk:k<ps.length):
 (EC fs at' ps i).getD k default=
  ⟨(ps.getD k default).side,
   if(i+1)%ps.length=k∧xA fs (ps.getD i default)≠xA fs (ps.getD k default)then at'.getD (ps.getD i default).side.toNat []else(ps.getD k default).fr,
   if i=k∧xA fs (ps.getD i default)≠xA fs (ps.getD ((i+1)%ps.length) default)then at'.getD (ps.getD ((i+1)%ps.length) default).side.toNat []else(ps.getD k default).en⟩:=by
 have hq:(i+1)%ps.length<ps.length:=fW _ (by omega);have lE:i≠(i+1)%ps.length:=by
  rcases SR hi with⟨_,e⟩|⟨_,e⟩<;>omega
 unfold EC;generalize(i+1)%ps.length=q at *;by_cases hu:xA fs (ps.getD i default)=xA fs (ps.getD q default)
 ·rw[ip hu,iN,iN]
  ·rintro⟨rfl,h⟩;exact h hu
  ·rintro⟨rfl,h⟩;exact h hu
 ·rw[iN hu];show((ps.set i _).set q _).getD k default=_;by_cases e1:q=k
  ·subst e1;rw[ED (by simpa using hk),getD_setN lE,ip (show q=q∧xA fs (ps.getD i default)≠xA fs (ps.getD q default)from⟨rfl,hu⟩),iN (show¬(i=q∧xA fs (ps.getD i default)≠xA fs (ps.getD q default))from fun h=>lE h.1)]
  ·rw[getD_setN e1];by_cases e2:i=k
   ·subst e2;rw[ED hk,ip (show i=i∧xA fs (ps.getD i default)≠xA fs (ps.getD q default)from⟨rfl,hu⟩),iN (show¬(q=i∧xA fs (ps.getD i default)≠xA fs (ps.getD i default))from fun h=>e1 h.1)]
   ·rw[getD_setN e2,iN (fun h=>e1 h.1),iN (fun h=>e2 h.1)]
theorem mu{fs:List Fr}{p q:Pt}(h:p.side=q.side):xA fs p=xA fs q:=by unfold xA;rw[h]
theorem P4{fs:List Fr}{at':List (List UInt8)}{ps:List Pt}(h2:2≤ps.length):∀(i:Nat),i≤ps.length→∀k,k<ps.length→
 (Ft fs at' ps i).getD k default=
  ⟨(ps.getD k default).side,
   if(k+ps.length-1)%ps.length<i∧xA fs (ps.getD ((k+ps.length-1)%ps.length) default)≠xA fs (ps.getD k default)then at'.getD (ps.getD ((k+ps.length-1)%ps.length) default).side.toNat []else(ps.getD k default).fr,
   if k<i∧xA fs (ps.getD k default)≠xA fs (ps.getD ((k+1)%ps.length) default)then at'.getD (ps.getD ((k+1)%ps.length) default).side.toNat []else(ps.getD k default).en⟩
 |0,_,k,hk=>by
  rw[Ft,iN (by omega),iN (by omega)]
 |i+1,hi,k,hk=>by
  have hl:=Dj fs at' ps i
  have hq:(i+1)%ps.length<ps.length:=fW _ (by omega)
  have hpk:(k+ps.length-1)%ps.length<ps.length:=fW _ (by omega)
  have ih:=fun k hk=>P4 (fs:=fs) (at':=at') h2 i (by omega) k hk
  have hs:∀j,j<ps.length→((Ft fs at' ps i).getD j default).side=(ps.getD j default).side:=fun j hj=>by rw[ih j hj]
  have hu:∀j,j<ps.length→xA fs ((Ft fs at' ps i).getD j default)=xA fs (ps.getD j default):=fun j hj=>mu (hs j hj)
  rw[Ft,ms (by rw[hl];exact h2) (by rw[hl];omega) k (by rw[hl];exact hk),hl,hs k hk,hu i (by omega),hu k hk,hu _ hq,hs i (by omega),hs _ hq,ih k hk]
  have hprev:(i+1)%ps.length=k↔(k+ps.length-1)%ps.length=i:=by
   rcases SR (show i<ps.length by omega)with⟨a,e⟩|⟨a,e⟩
   ·rw[e];constructor
    ·rintro rfl;rw[show i+1+ps.length-1=i+ps.length by omega,JY,fU (by omega)]
    ·intro h;by_cases k0:k=0
     ·subst k0;rw[show 0+ps.length-1=ps.length-1 by omega,fU (by omega)]at h;omega
     ·rw[show k+ps.length-1=(k-1)+ps.length by omega,JY,fU (by omega)]at h;omega
   ·rw[e];constructor
    ·rintro rfl;rw[show 0+ps.length-1=ps.length-1 by omega,fU (by omega)];omega
    ·intro h;by_cases k0:k=0
     ·exact k0.symm
     ·rw[show k+ps.length-1=(k-1)+ps.length by omega,JY,fU (by omega)]at h;omega
  refine Pt.mk.injEq .. |>.mpr ⟨rfl,?_,?_⟩
  ·generalize(k+ps.length-1)%ps.length=m at *;by_cases e:(i+1)%ps.length=k
   ·have e':=hprev.1 e;subst e';generalize xA fs (ps.getD m default)=um;generalize xA fs (ps.getD k default)=uk;generalize at'.getD (ps.getD m default).side.toNat []=A;generalize(ps.getD k default).fr=F;by_cases hup:um=uk<;>simp[e,hup]
   ·have e':m≠i:=fun h=>e (hprev.2 h);have hlt:m<i+1↔m<i:=by omega
    simp only[e,false_and,if_false,hlt]
  ·by_cases e:i=k
   ·subst e;generalize xA fs (ps.getD ((i+1)%ps.length) default)=um;generalize xA fs (ps.getD i default)=uk;generalize at'.getD (ps.getD ((i+1)%ps.length) default).side.toNat []=A;generalize(ps.getD i default).en=F;by_cases hup:uk=um<;>simp[hup]
   ·have hlt:k<i+1↔k<i:=by omega
    simp only[e,false_and,if_false,hlt]
theorem mv{fs:List Fr}{at':List (List UInt8)}{ps:List Pt}(h2:2≤ps.length):Ft fs at' ps ps.length=mM fs at' ps:=by
 apply XI (by rw[Dj,sA]);intro k hk;rw[Dj]at hk;have hpk:(k+ps.length-1)%ps.length<ps.length:=fW _ (by omega);rw[P4 h2 _ (aD _) k hk,On hk];unfold Fs;refine Pt.mk.injEq .. |>.mpr ⟨rfl,?_,?_⟩
 ·by_cases h:xA fs (ps.getD ((k+ps.length-1)%ps.length) default)=xA fs (ps.getD k default)
  ·rw[ip h,iN (fun x=>x.2 h)]
  ·rw[iN h,ip ⟨hpk,h⟩]
 ·by_cases h:xA fs (ps.getD k default)=xA fs (ps.getD ((k+1)%ps.length) default)
  ·rw[ip h,iN (fun x=>x.2 h)]
  ·rw[iN h,ip ⟨hk,h⟩]
def mw(fs:List Fr)(z:Rat):Prop:=
 ∃i,i<fs.length∧(((fs.getD i default).sp≠[48]∧z=(fs.getD i default).q.t)∨∃k,k<i∧(fs.getD k default).up=(fs.getD i default).up∧eU (fs.getD k default).q (fs.getD i default).q z)
def Tl(fs:List Fr)(x y:List UInt8):Prop:=∃z,mw fs z∧cF x<z∧z<cF y
def oR(fs:List Fr)(p:Pt):Bool:=decide (wG fs p<0)
def uF(p:Pt):Bool:=decide (dR p.fr≠0)||decide (dR p.en≠0)
open Classical in
noncomputable def iO (fs:List Fr) (ls:List Lp) (x y:List UInt8):Int:=
 if fH fs [x,y] ls≠0 then fH fs [x,y] ls else if mL fs (iP fs x) ls true=false then 1 else
  if(gY y x).1<0∨Tl fs x y then 2 else
   if((eV fs (iP fs y) ls).flatten.any (oR fs))=true then 2 else if((eV fs (iP fs y) ls).flatten.any uF)=true then 4 else 0
open Classical in
noncomputable def kZ (fs:List Fr) (ls:List Lp) (x y:List UInt8):List (List Pt):=if iO fs ls x y=0 then eV fs (iP fs y) ls else[]
theorem vH(fs:List Fr)(at':List (List UInt8))(ls:List Lp):(eV fs at' ls).length=ls.length:=by unfold eV;rw[cG]
theorem Oo{fs:List Fr}{at':List (List UInt8)}{ls:List Lp}{i:Nat}(hi:i<ls.length):(eV fs at' ls).getD i []=mM fs at' (ls.getD i default).ps:=by
 simp[eV,aN,hi]
theorem Tm{fs:List Fr}{at':List (List UInt8)}{ls:List Lp}(sW:Fk ls)(Fo:∀k,(at'.getD k []).length≤700){nf:Nat}
 (ue:∀i,i<ls.length→∀j,j<(ls.getD i default).ps.length→∃s:Nat,((ls.getD i default).ps.getD j default).side=s∧s<nf){i:Nat}(hi:i<ls.length):
 ((eV fs at' ls).getD i []).length=(ls.getD i default).ps.length∧∀j,j<(ls.getD i default).ps.length→
  (∃s:Nat,(((eV fs at' ls).getD i []).getD j default).side=s∧s<nf)∧(((eV fs at' ls).getD i []).getD j default).fr.length≤8000000∧(((eV fs at' ls).getD i []).getD j default).en.length≤8000000:=by
 rw[Oo hi];refine⟨sA _ _ _,fun j hj=>?_⟩;rw[On hj];have hm:=sW _ (cP hi default);have hp:=hm.2 _ (cP hj default);refine⟨ue i hi j hj,?_,?_⟩
 ·show(if _ then _ else _:List UInt8).length≤_;split
  ·exact hp.1
  ·have:=Fo ((ls.getD i default).ps.getD ((j+(ls.getD i default).ps.length-1)%(ls.getD i default).ps.length) default).side.toNat;omega
 ·show(if _ then _ else _:List UInt8).length≤_;split
  ·exact hp.2
  ·have:=Fo ((ls.getD i default).ps.getD ((j+1)%(ls.getD i default).ps.length) default).side.toNat;omega
def wI(f:Pt→Bool)(A:List (List Pt))(i j:Nat):Bool:=anyN (fun k=>(A.getD k []).any f) i||anyN (fun k=>f ((A.getD i []).getD k default)) j
theorem Oq(f:Pt→Bool)(A:List (List Pt)):wI f A 0 0=false:=rfl
theorem Ot(f:Pt→Bool)(A:List (List Pt))(i j:Nat):wI f A i (j+1)=(wI f A i j||f ((A.getD i []).getD j default)):=by
 unfold wI;rw[anyN,Bool.or_assoc]
theorem Mv(f:Pt→Bool)(l:List Pt):l.any f=anyN (fun k=>f (l.getD k default)) l.length:=by
 rw[EK,Ky,kA];constructor
 ·rintro⟨x,hx,hf⟩;obtain⟨k,hk,rfl⟩:=fV hx;exact⟨k,hk,by simpa[aN,hk]using hf⟩
 ·rintro⟨k,hk,hf⟩;exact⟨_,cP hk default,hf⟩
theorem Ou(f:Pt→Bool)(A:List (List Pt))(i:Nat):wI f A (i+1) 0=wI f A i (A.getD i []).length:=by
 unfold wI;show(anyN (fun k=>(A.getD k []).any f) (i+1)||false)=_;rw[Bool.or_false];show(anyN (fun k=>(A.getD k []).any f) i||(A.getD i []).any f)=_;rw[Mv]
theorem Tn(f:Pt→Bool)(A:List (List Pt)):wI f A A.length 0=A.flatten.any f:=by
 unfold wI;rw[show anyN (fun k=>f ((A.getD A.length []).getD k default)) 0=false from rfl,Bool.or_false,EK,kA,Ky];constructor
 ·rintro⟨k,hk,h⟩;obtain⟨x,hx,hf⟩:=List.any_eq_true.1 h;exact⟨x,List.mem_flatten.2 ⟨_,cP hk [],hx⟩,hf⟩
 ·rintro⟨x,hx,hf⟩;obtain⟨l,hl,hx⟩:=List.mem_flatten.1 hx;obtain⟨k,hk,rfl⟩:=fV hl;refine⟨k,hk,List.any_eq_true.2 ⟨x,?_,hf⟩⟩;simpa[aN,hk]using hx
theorem mx{f:Pt→Bool}{A:List (List Pt)}{i j:Nat}(hi:i<A.length)(hj:j<(A.getD i []).length)(h:f ((A.getD i []).getD j default)=true):A.flatten.any f=true:=by
 rw[Ky];exact⟨_,List.mem_flatten.2 ⟨_,cP hi [],cP hj default⟩,h⟩
theorem uG(fs:List Fr)(ls:List Lp)(x y:List UInt8):
 (fH fs [x,y] ls≠0→iO fs ls x y=fH fs [x,y] ls)∧
 (fH fs [x,y] ls=0→mL fs (iP fs x) ls true=false→iO fs ls x y=1)∧
 (fH fs [x,y] ls=0→mL fs (iP fs x) ls true=true→((gY y x).1<0∨Tl fs x y)→iO fs ls x y=2)∧
 (fH fs [x,y] ls=0→mL fs (iP fs x) ls true=true→¬(gY y x).1<0→¬Tl fs x y→
  iO fs ls x y=if((eV fs (iP fs y) ls).flatten.any (oR fs))=true then 2 else if((eV fs (iP fs y) ls).flatten.any uF)=true then 4 else 0):=by
 unfold iO;refine⟨fun h=>by rw[ip h],fun h h2=>by rw[iN (by rw[h];decide),ip h2],fun h h2 h3=>by rw[iN (by rw[h];decide),iN (by rw[h2];decide),ip h3],fun h h2 h3 h4=>?_⟩;rw[iN (by rw[h];decide),iN (by rw[h2];decide),iN (fun k=>k.elim h3 h4)]
theorem zC{fs:List Fr}{ls:List Lp}{x y:List UInt8}(h:iO fs ls x y≠0):kZ fs ls x y=[]:=iN h
theorem D4{fs:List Fr}{ls:List Lp}{x y:List UInt8}(h:iO fs ls x y=0):kZ fs ls x y=eV fs (iP fs y) ls:=ip h
def xV:List Fr:=[⟨false,0,1,[49],[48]⟩,⟨true,10,-1,[49],[48]⟩,⟨false,10,-1,[49],[48]⟩,⟨true,0,1,[49],[48]⟩]
def A6(u v:List UInt8):List Pt:=[⟨0,u,v⟩,⟨1,u,v⟩,⟨2,v,u⟩,⟨3,v,u⟩]
theorem my(a:Option dE)(c:Nat):fH xV [[48],[51]] [⟨a,c,A6 [48] [49,48]⟩]=0:=by kernel_rfl
theorem XM(a:Option dE)(c:Nat):mL xV (iP xV [48]) [⟨a,c,A6 [48] [49,48]⟩] true=true:=by kernel_rfl
theorem mz(a:Option dE)(c:Nat):eV xV (iP xV [51]) [⟨a,c,A6 [48] [49,48]⟩]=[A6 [51] [55]]:=by kernel_rfl
theorem na(a:Option dE)(c:Nat):eV xV (iP xV [53]) [⟨a,c,A6 [48] [49,48]⟩]=[A6 [53] [53]]:=by kernel_rfl
theorem nc:[A6 [51] [55]].flatten.any (oR xV)=false:=by kernel_rfl
theorem nh:[A6 [53] [53]].flatten.any (oR xV)=false:=by kernel_rfl
theorem sq_lim3:[A6 [51] [55]].flatten.any uF=false:=by kernel_rfl
theorem sq_lim5:[A6 [53] [53]].flatten.any uF=false:=by kernel_rfl
theorem sq_cmp3:(gY [51] [48]).1=1:=by kernel_rfl
theorem sq_cmp5:(gY [53] [48]).1=1:=by kernel_rfl
theorem ni:(gY [53] [53]).1=0:=by kernel_rfl
theorem sq_v0:cF [48]=0:=by kernel_rfl
theorem sq_v3:cF [51]=3:=by kernel_rfl
theorem sq_v5:cF [53]=5:=by kernel_rfl
theorem sq_q0:(xV.getD 0 default).q=⟨false,0,1,1,0⟩:=by kernel_rfl
theorem sq_q1:(xV.getD 1 default).q=⟨true,10,-1,1,0⟩:=by kernel_rfl
theorem sq_q2:(xV.getD 2 default).q=⟨false,10,-1,1,0⟩:=by kernel_rfl
theorem sq_q3:(xV.getD 3 default).q=⟨true,0,1,1,0⟩:=by kernel_rfl
theorem XN(u:Bool){z:Rat}(hz:0<z):((⟨u,0,1,1,0⟩:FQ).pos z=(⟨u,10,-1,1,0⟩:FQ).pos z∨(⟨u,10,-1,1,0⟩:FQ).pos z=(⟨u,0,1,1,0⟩:FQ).pos z)→z=5:=by
 rw[II (q:=⟨u,0,1,1,0⟩) hz,II (q:=⟨u,10,-1,1,0⟩) hz];unfold FQ.vel;simp only[];intro h;have e:((1:Int):Rat)=1:=rfl;have e2:((-1:Int):Rat)= -1:=rfl;have e3:((0:Int):Rat)=0:=rfl;have e4:((10:Int):Rat)=10:=rfl;rw[e,e2,e3,e4]at h;grind
theorem sq_ev{z:Rat}(h:mw xV z)(hz:0<z):z=5:=by
 obtain⟨i,hi,h⟩:=h;have hi:i<4:=hi;have ht:∀j,j<4→(xV.getD j default).q.t=0:=fun j hj=>by
  match j,hj with
  |0,_=>rw[sq_q0]
  |1,_=>rw[sq_q1]
  |2,_=>rw[sq_q2]
  |3,_=>rw[sq_q3]
 rcases h with⟨-,h⟩|⟨k,hk,hu,hm,-⟩
 ·rw[ht i hi]at h;grind
 ·match i,k,hi,hk with
  |1,0,_,_=>exact absurd hu (by decide)
  |2,0,_,_=>rw[sq_q0,sq_q2]at hm;exact XN false hz (.inl hm)
  |2,1,_,_=>exact absurd hu (by decide)
  |3,0,_,_=>exact absurd hu (by decide)
  |3,1,_,_=>rw[sq_q1,sq_q3]at hm;exact XN true hz (.inr hm)
  |3,2,_,_=>exact absurd hu (by decide)
theorem sq_ev3:¬Tl xV [48] [51]:=fun⟨z,h,h1,h2⟩=>by
 rw[sq_v0]at h1;rw[sq_v3]at h2
 have:=sq_ev h h1
 grind
theorem sq_ev5:¬Tl xV [48] [53]:=fun⟨z,h,h1,h2⟩=>by
 rw[sq_v0]at h1;rw[sq_v5]at h2
 have:=sq_ev h h1
 grind
theorem nj(a:Option dE)(c:Nat):fH xV [[48],[53]] [⟨a,c,A6 [48] [49,48]⟩]=0:=by kernel_rfl
theorem XO(a:Option dE)(c:Nat):iO xV [⟨a,c,A6 [48] [49,48]⟩] [48] [51]=0:=by
 rw[(uG _ _ _ _).2.2.2 (my a c) (XM a c) (by rw[sq_cmp3];decide) sq_ev3,mz,iN (by rw[nc];decide),iN (by rw[sq_lim3];decide)]
theorem XP(a:Option dE)(c:Nat):iO xV [⟨a,c,A6 [48] [49,48]⟩] [48] [53]=0:=by
 rw[(uG _ _ _ _).2.2.2 (nj a c) (XM a c) (by rw[sq_cmp5];decide) sq_ev5,na,iN (by rw[nh];decide),iN (by rw[sq_lim5];decide)]
theorem sq_val3(a:Option dE)(c:Nat):kZ xV [⟨a,c,A6 [48] [49,48]⟩] [48] [51]=[A6 [51] [55]]:=by rw[D4 (XO a c),mz]
theorem sq_val5(a:Option dE)(c:Nat):kZ xV [⟨a,c,A6 [48] [49,48]⟩] [48] [53]=[A6 [53] [53]]:=by rw[D4 (XP a c),na]
theorem sq_perr(a:Option dE)(c:Nat):fR xV [⟨a,c,A6 [51] [55]⟩] [51]=0:=by kernel_rfl
theorem sq_pval(a:Option dE)(c:Nat):gT xV [⟨a,c,A6 [51] [55]⟩] [51]=[[⟨[51],[51]⟩,⟨[55],[51]⟩,⟨[55],[55]⟩,⟨[51],[55]⟩]]:=by kernel_rfl
theorem sq_chk5(a:Option dE)(c:Nat):fH xV [[53]] [⟨a,c,A6 [53] [53]⟩]=0:=by kernel_rfl
theorem sq_all5(a:Option dE)(c:Nat):mL xV (iP xV [53]) [⟨a,c,A6 [53] [53]⟩] false=true:=by kernel_rfl
theorem sq_pt5:∀j,j<4→∃s:Nat,((A6 [53] [53]).getD j default).side=s∧s<4∧iH xV (iP xV [53]) ((A6 [53] [53]).getD j default)=⟨[53],[53]⟩∧((A6 [53] [53]).getD j default).en=[53]:=fun j hj=>
 match j,hj with
 |0,_=>⟨0,rfl,by decide,by kernel_rfl,rfl⟩
 |1,_=>⟨1,rfl,by decide,by kernel_rfl,rfl⟩
 |2,_=>⟨2,rfl,by decide,by kernel_rfl,rfl⟩
 |3,_=>⟨3,rfl,by decide,by kernel_rfl,rfl⟩
end
section
open Go Go.RowKit Go.Shelf Go.Lib
theorem GX(a:Option dE)(c:Nat)(u v:List UInt8)(hu:u.length≤10)(hv:v.length≤10):Fk [⟨a,c,A6 u v⟩]:=by
 intro l hl;rw[List.mem_singleton.1 hl];refine⟨by show 4≤1000000;decide,fun p hp=>?_⟩;simp only[A6,List.mem_cons,List.not_mem_nil,or_false]at hp;rcases hp with rfl|rfl|rfl|rfl<;>exact⟨by simp only[];omega,by simp only[];omega⟩
theorem XQ:∀f∈xV,f.sp.length≤30∧f.st.length≤30:=by decide
theorem sq_dir:∀f∈xV,f.dir=1∨f.dir= -1:=by decide
theorem np(a b:Option dE)(ca cb:Nat)(la:Option dE)(lc:Nat)(w:aE)(hE:eZ w)(rf:wP w a xV)(rl:zP w b [⟨la,lc,A6 [53] [53]⟩]):
 aQ aC 21 #[aB a 4 ca,aB b 1 cb,aA ⟨#[53]⟩] w (Rt (.tuple #[aB none 0 0,aF aG 0]) w):=by
 have e5:(⟨#[53]⟩:ByteArray)=bs [53]:=rfl;have fP:=(aI w.heap.size w).alloc (aD _) (aL #[aA ⟨#[53]⟩] 24);have rz:xO (w.alloc (aL #[aA ⟨#[53]⟩] 24)) (some ⟨w.heap.size,0,none⟩) [[53]]:=by
  have q:=bZ.new w #[aA ⟨#[53]⟩] 24;intro i hi;have hi:i<1:=hi;match i,hi with
  |0,_=>exact⟨_,_,rfl,q.cell 0⟩
 have HN:=zq (uC a b (some ⟨w.heap.size,0,none⟩) 4 1 1 ca cb 1 xV [⟨la,lc,A6 [53] [53]⟩] [[53]] _ (hE.below fP) rfl rfl rfl (by decide) (by decide) (by decide) XQ (fun z hz=>by rw[List.mem_singleton.1 hz];decide) (fun l h=>(GX la lc [53] [53] (by decide) (by decide) l h).1) (rf.below fP) (rl.below fP) rz);have HA:aY (∀a2 c2 W,aJ w.heap.size w W→xO W a2 (iP xV [53])→aQ aC 24 #[.agg #[aB a 4 ca,aB a2 4 c2],aB b 1 cb,aM false] W (Rt (aM true) W)):=fun a2 c2 W hW ra=>by
  have:=VA a a2 b 4 1 ca c2 cb xV (iP xV [53]) [⟨la,lc,A6 [53] [53]⟩] false W (hE.below hW) rfl (by rw[rR];rfl) rfl (by decide) sq_dir (GX la lc [53] [53] (by decide) (by decide)) (rf.below hW) ra (rl.below hW);rwa[sq_all5]at this
 have HG:aY (∀a2 c2 W,aJ w.heap.size w W→xO W a2 (iP xV [53])→aQ aC 57 #[.agg #[aB a 4 ca,aB a2 4 c2],aB b 1 cb] W fun e w'=>(∃G xa ya cx cy,e=aO (cB (some ⟨G,0,none⟩))∧Ih w' G (aB xa 1 cx) (aB ya 1 cy))∧aJ W.heap.size W w'):=fun a2 c2 W hW ra=>
  VJ a a2 b 4 ca c2 cb xV (iP xV [53]) ⟨la,lc,A6 [53] [53]⟩ [53] W (hE.below hW) rfl (by rw[rR];rfl) rfl sq_pt5 (by decide) ni (rf.below hW) ra (rl.below hW)
 have mE:=zq fP;unfold PK at HN;rw[sq_chk5]at HN;clear fP rz rf rl hE e5;go_enter func21,ntmps21;go_wp2_with fail
 refine HN.out.mono ?_;rintro e W1⟨⟨a1,n1,c1,a2,n2,c2,rfl,hk⟩,hb1⟩;obtain⟨e1,e2,e3,hq⟩:=hk (by first |trivial|rfl);obtain⟨e4,hr⟩:=hq (by first |trivial|simp);subst e1;subst e2;subst e3;subst e4;have fK:=zq (aT mE.out hb1);have Hr:=zq hr;clear hb1 hr hk hq HN mE;obtain⟨W2,RU⟩:∃V,W1.alloc (aL #[aB a1 4 c1,aB a2 4 c2] 58)=V:=⟨_,rfl⟩;have hb2:aJ W1.heap.size W1 W2:=by rw[←RU];exact(aI _ _).alloc (aD _) _
 have HT:aY (bZ W2 W1.heap.size #[aB a1 4 c1,aB a2 4 c2] 58):=by rw[←RU];exact bZ.new _ _ _
 have gD:=zq (aT fK.out hb2);have Hr2:=zq (Hr.out.below hb2);clear hb2 fK Hr;obtain⟨t0,t1,-,-,lT⟩:=HT.out.two;go_upto_if 29 with(fail);try rw[RU]
 refine(HA.out _ _ _ gD.out Hr2.out).mono ?_;rintro e W3⟨rfl,hb3⟩;have HB3:=zq (aT gD.out hb3);have HT3:=zq (HT.out.below hb3 HT.out.lt);have Hr3:=zq (Hr2.out.below hb3);clear hb3 HT gD Hr2 t0 t1 lT HA RU;obtain⟨t0,t1,-,-,lT⟩:=HT3.out.two;go_wp2_with fail
 refine(HG.out _ _ _ HB3.out Hr3.out).mono ?_;rintro e W4⟨⟨G,xa,ya,cx,cy,rfl,hg⟩,hb4⟩;have vG:=zq (aT HB3.out hb4);have HT4:=zq (HT3.out.below hb4 HT3.out.lt);have HGr:=zq hg;clear hb4 hg HT3 HB3 Hr3 t0 t1 lT HG;go_wp2_with fail
 refine(VM G xa ya cx cy W4 HGr.out).mono ?_;rintro e W5⟨rfl,hb5⟩;have wV:=zq (aT vG.out hb5);have HT5:=zq (HT4.out.below hb5 HT4.out.lt);clear hb5 HT4 vG HGr;obtain⟨t0,t1,-,-,lT⟩:=HT5.out.two;go_wp2;go_loopw[42] (fun i wr=>i=aF aG 0∧wr=W5) (fun _ _=>0);case atStart=>exact⟨rfl,rfl⟩
 case round=>
  obtain⟨rfl,rfl⟩:=hrel;go_wp2_with fail
  refine(Nm a1 a2 4 4 c1 c2 _).mono ?_;rintro e W6⟨rfl,hb6⟩;have pF:=zq (aT wV.out hb6);clear hb6;go_wp2;go_ret2;exact⟨rfl,pF.out⟩
section
attribute[local go_sem] Oper.semAt_some
def mF(B B1 B2:Nat)(V V':aE):Prop:=aJ B V V'∧dA (fun k=>k=B1∨k=B2) V V'
theorem mF.trans{B B1 B2:Nat}{X Y Z:aE}(h:mF B B1 B2 X Y)(k:mF B B1 B2 Y Z):mF B B1 B2 X Z:=⟨h.1.trans k.1,h.2.trans k.2⟩
theorem mF.refl(B B1 B2:Nat)(X:aE):mF B B1 B2 X X:=⟨aI _ _,dA.refl _ _⟩
theorem mF.call{B B1 B2:Nat}{X Y:aE}(h:aJ X.heap.size X Y)(hB:B≤X.heap.size)(h1:B1<X.heap.size)(h2:B2<X.heap.size):mF B B1 B2 X Y:=
 ⟨h.mono hB,dA.below h (by rintro k (rfl|rfl)<;>assumption)⟩
theorem mF.blk1{B B1 B2:Nat}{X Y:aE}(h:mF B B1 B2 X Y){cs:Array bB}{T:TypeId}(k:bZ X B1 cs T):bZ Y B1 cs T:=(h.2 B1 (.inl rfl)).trans k
theorem mF.blk2{B B1 B2:Nat}{X Y:aE}(h:mF B B1 B2 X Y){cs:Array bB}{T:TypeId}(k:bZ X B2 cs T):bZ Y B2 cs T:=(h.2 B2 (.inr rfl)).trans k
def ce2(f g:FQ):List Rat:=[f.t,g.t]
def cp(f g:FQ):List Rat:=ce2 f g++(if f.vel≠0 then[f.t+zO f g/f.vel]else[])
def ns(f g:FQ):List Rat:=cp f g++(if g.vel≠0 then[g.t-zO f g/g.vel]else[])
theorem GY(f g:FQ):jB f g=ns f g++(if f.vel≠g.vel then[(zO f g+(f.vel*f.t-g.vel*g.t))/(f.vel-g.vel)]else[]):=rfl
theorem P5{xs ys:List Rat}{c:Prop}[Decidable c]{x:Rat}(h:ys=xs++(if c then[x]else[])):(c→ys=xs++[x])∧(¬c→ys=xs):=
 ⟨fun k=>by rw[h,ip k],fun k=>by rw[h,iN k,nX]⟩
theorem P6{P xs ys zs:List Rat}{x:Rat}(h1:ys=xs++[x])(h2:P=ys++zs):P.getD xs.length 0=x∧xs.length<P.length∧ys.length=xs.length+1:=by
 subst h1 h2;refine⟨by simp[aN],by simp,by simp⟩
theorem yb{e:Ending}{P R:Prop}(h:(e=aO (aM true)∧P)∨(e=aO (aM false)∧R)):∃b:Bool,e=aO (aM b)∧aY ((b=true∧P)∨(b=false∧R)):=by
 rcases h with⟨h,p⟩|⟨h,r⟩
 ·exact⟨true,h,.inl ⟨rfl,p⟩⟩
 ·exact⟨false,h,.inr ⟨rfl,r⟩⟩
theorem nw(f g:FQ):∃zs,jB f g=ns f g++zs:=⟨_,GY f g⟩
theorem nz(f g:FQ):∃zs,jB f g=cp f g++zs:=⟨_,(GY f g).trans (List.append_assoc ..)⟩
def Mw(f g:FQ)(k:Nat):Rat:=(jB f g).getD k 0
theorem oa(B1 B2 B:Nat)(f g:FQ)(hf:f.Good)(hg:g.Good)(w:aE)(hB:B≤w.heap.size)(hl1:B1<w.heap.size)(hl2:B2<w.heap.size)
 (hE:∀V,aJ B w V→eZ V)(q1:bZ w B1 f.fr.cells 44)(q2:bZ w B2 g.fr.cells 44):
 jr dW 8 aC 217 #[cB (some ⟨B1,0,none⟩),cB (some ⟨B2,0,none⟩)] (fun k=> #[aA (bs (aV (Mw f g k)))]) (mF B B1 B2) (jB f g).length w:=by
 intro l J Jx W hW hJ hY h0;have K0:mF B B1 B2 w W:=mF.call hW hB hl1 hl2;have p1:=K0.blk1 q1;have p2:=K0.blk2 q2;have hE:=zq (fun V(h:aJ B W V)=>hE V (K0.1.trans h));have Zg:B≤W.heap.size:=cC hB hW.size;have hl1':B1<W.heap.size:=p1.lt;have hl2':B2<W.heap.size:=p2.lt;clear q1 q2 K0 hB hl1 hl2 hW;have Mx:HQ 11 (zO f g):=(hg.hco.sub hf.hco).mono (by decide);have My:=zq (fun V(h:aJ B W V)=>Ab f hf V (hE.out V h));have XR:=zq (fun V(h:aJ B W V)=>Ab g hg V (hE.out V h));have HW1:=zq (fun V(h:aJ B W V)=>GN f.co V (hE.out V h) (by have:=hf.co0;have:=hf.co1;omega));have HW2:=zq (fun V(h:aJ B W V)=>GN g.co V (hE.out V h) (by have:=hg.co0;have:=hg.co1;omega));have HGp:aY (∀V,aJ B W V→aQ aC 184 #[aA (bs (aV (g.co:Rat))),aA (bs (aV (f.co:Rat)))] V (Rt (aA (bs (aV (zO f g)))) V)):=fun V h=>GP hg.hco hf.hco (by decide) V (hE.out V h);have Fb:=zq (fun(h0:f.vel≠0)V(h:aJ B W V)=>PC Mx hf.hvel (by decide) h0 V (hE.out V h));have ZO:=zq (fun(h0:f.vel≠0)V(h:aJ B W V)=>PA hf.t (Mx.div hf.hvel h0) (by decide) V (hE.out V h));have Ew:=zq (fun(h0:g.vel≠0)V(h:aJ B W V)=>PC Mx hg.hvel (by decide) h0 V (hE.out V h));have WP:=zq (fun(h0:g.vel≠0)V(h:aJ B W V)=>GP hg.t (Mx.div hg.hvel h0) (by decide) V (hE.out V h));have ZP:=zq (fun V(h:aJ B W V)=>KG hf.hvel hf.t (by decide) V (hE.out V h));have oc:=zq (fun V(h:aJ B W V)=>KG hg.hvel hg.t (by decide) V (hE.out V h));have HSm:=zq (fun V(h:aJ B W V)=>GP (hf.hvel.mul hf.t) (hg.hvel.mul hg.t) (by decide) V (hE.out V h));have HAm:=zq (fun V(h:aJ B W V)=>PA Mx ((hf.hvel.mul hf.t).sub (hg.hvel.mul hg.t)) (by decide) V (hE.out V h));have HSv:=zq (fun V(h:aJ B W V)=>GP hf.hvel hg.hvel (by decide) V (hE.out V h));have HDl:=zq (fun(h0:f.vel-g.vel≠0)V(h:aJ B W V)=>PC (Mx.add ((hf.hvel.mul hf.t).sub (hg.hvel.mul hg.t))) (hf.hvel.sub hg.hvel) (by decide) h0 V (hE.out V h));have c4:=zq (P5 (GY f g));have c3:=zq (P5 (xs:=cp f g) (ys:=ns f g) rfl);have c2:=zq (P5 (xs:=ce2 f g) (ys:=cp f g) rfl);have z1:=zq (Mq f.vel);have z2:=zq (Mq g.vel);have z3:=zq (JP f.vel g.vel);clear Mx hf hg hE;have ZQ:aY (∀k V,k<(jB f g).length→J k V→YieldAt dW 7 aC l #[aA (bs (aV ((jB f g).getD k 0)))] V fun e V'=>(e=aO (aM true)∧J (k+1) V'∧mF B B1 B2 V V')∨(e=aO (aM false)∧Jx (k+1) V')):=hY;have HJ:=zq hJ;have Jr:(jB f g).getD 0 0=f.t:=rfl;have hg1:(jB f g).getD 1 0=g.t:=rfl;have kN:2≤(jB f g).length:=by rw[GY,ns,cp,ce2];simp only[cU,cO,eW];omega
 have Y2:aY (f.vel≠0→(cp f g).length≤(jB f g).length∧∀V,J (ce2 f g).length V→YieldAt dW 7 aC l #[aA (bs (aV (f.t+zO f g/f.vel)))] V fun e V'=>(e=aO (aM true)∧J (cp f g).length V'∧mF B B1 B2 V V')∨(e=aO (aM false)∧Jx (cp f g).length V')):=fun h=>by
  obtain⟨zs,hz⟩:=nz f g;obtain⟨e1,e2,e3⟩:=P6 (c2.out.1 h) hz;refine⟨by rw[hz,cU];omega,fun V hV=>?_⟩;have:=ZQ.out _ V e2 hV;rwa[e1,←e3]at this
 have Y3:aY (g.vel≠0→(ns f g).length≤(jB f g).length∧∀V,J (cp f g).length V→YieldAt dW 7 aC l #[aA (bs (aV (g.t-zO f g/g.vel)))] V fun e V'=>(e=aO (aM true)∧J (ns f g).length V'∧mF B B1 B2 V V')∨(e=aO (aM false)∧Jx (ns f g).length V')):=fun h=>by
  obtain⟨zs,hz⟩:=nw f g;obtain⟨e1,e2,e3⟩:=P6 (c3.out.1 h) hz;refine⟨by rw[hz,cU];omega,fun V hV=>?_⟩;have:=ZQ.out _ V e2 hV;rwa[e1,←e3]at this
 have Y4:aY (f.vel≠g.vel→∀V,J (ns f g).length V→YieldAt dW 7 aC l #[aA (bs (aV ((zO f g+(f.vel*f.t-g.vel*g.t))/(f.vel-g.vel))))] V fun e V'=>(e=aO (aM true)∧J (jB f g).length V'∧mF B B1 B2 V V')∨(e=aO (aM false)∧Jx (jB f g).length V')):=fun h=>by
  obtain⟨e1,e2,e3⟩:=P6 (zs:=[]) (c4.out.1 h) (nX _).symm;intro V hV;have:=ZQ.out _ V e2 hV;rwa[e1,←e3]at this
 have L2:aY (f.vel=0→(cp f g).length=(ce2 f g).length):=fun h=>by rw[c2.out.2 (fun k=>k h)]
 have L3:aY (g.vel=0→(ns f g).length=(cp f g).length):=fun h=>by rw[c3.out.2 (fun k=>k h)]
 have L4:aY (f.vel=g.vel→(jB f g).length=(ns f g).length):=fun h=>by rw[c4.out.2 (fun k=>k h)]
 have Y0:=zq (fun V(h:J 0 V)=>ZQ.out 0 V (by omega) h);have Y1:=zq (fun V(h:J 1 V)=>ZQ.out 1 V (by omega) h);rw[Jr]at Y0;rw[hg1]at Y1;have c0:W.cell? ⟨B1,0,none⟩=some (aM f.up):=p1.cell 0;have c1:W.cell? ⟨B1,1,none⟩=some (aF aG f.co):=p1.cell 1;have c2':W.cell? ⟨B1,2,none⟩=some (aF aG f.dir):=p1.cell 2;have c3':W.cell? ⟨B1,3,none⟩=some (aA (bs (aV f.v))):=p1.cell 3;have uf:W.cell? ⟨B1,4,none⟩=some (aA (bs (aV f.t))):=p1.cell 4;have d4:W.cell? ⟨B2,4,none⟩=some (aA (bs (aV g.t))):=p2.cell 4;have P1:aY (bZ W B1 #[aM f.up,aF aG f.co,aF aG f.dir,aA (bs (aV f.v)),aA (bs (aV f.t))] 44):=p1;have P2:aY (bZ W B2 #[aM g.up,aF aG g.co,aF aG g.dir,aA (bs (aV g.v)),aA (bs (aV g.t))] 44):=p2;have Q1:=zq P1.out;have Q2:=zq P2.out;have My:aY (∀V,aJ B W V→aQ aC 183 #[.agg #[aM f.up,aF aG f.co,aF aG f.dir,aA (bs (aV f.v)),aA (bs (aV f.t))]] V (Rt (aA (bs (aV f.vel))) V)):=My;have XR:aY (∀V,aJ B W V→aQ aC 183 #[.agg #[aM g.up,aF aG g.co,aF aG g.dir,aA (bs (aV g.v)),aA (bs (aV g.t))]] V (Rt (aA (bs (aV g.vel))) V)):=XR;have H0:=zq h0;have HYa:=zq hY;obtain⟨N,hN⟩:∃N,(jB f g).length=N:=⟨_,rfl⟩;rw[hN]at kN Y2 Y3 Y4 L4⊢;have L1:aY ((ce2 f g).length=2):=rfl;generalize(ce2 f g).length=k2 at *;generalize(cp f g).length=k3 at *;generalize(ns f g).length=k4 at *;have HN:=zq hN;clear p1 p2 h0 hY hJ ZQ Jr hg1 hN;generalize bs (aV f.v)=S1 at *;generalize bs (aV g.v)=S2 at *;generalize bs (aV f.t)=T1 at *;generalize bs (aV g.t)=T2 at *;generalize bs (aV f.vel)=VT at *;generalize bs (aV g.vel)=WT at *;generalize bs (aV (zO f g))=GT at *;generalize bs (aV (f.co:Rat))=C1 at *;generalize bs (aV (g.co:Rat))=C2 at *;generalize f.up=up1 at *;generalize f.dir=dir1 at *;generalize g.up=up2 at *;generalize g.dir=dir2 at *;refine callsIn_of_wp func217 rfl trivial ?_ rfl;simp only[ntmps217,List.size_toArray,cO,eW,Nat.reduceAdd,Nat.reduceSub,Array.replicate_succ,Array.replicate_zero,List.push_toArray,List.append_toArray,List.nil_append,List.cons_append];obtain⟨fn,tmps,assign,body,hy,hR⟩:=Y0.out W H0.out;clear Y0;gi_wp2;refine hR.mono ?_;rintro e W1 (⟨rfl,hJ1,Rm⟩|⟨rfl,hx⟩);case inr=>
  gi_wp2;repeat(refine⟨fun _ h=>(by cases h),?_⟩;gi_wp2)
  refine cD (Bh rfl _ _ _) rfl ?_;exact⟨⟨_,rfl⟩,.inr ⟨1,cC (by decide) kN,hx⟩⟩
 have K1:=zq Rm;have d4:=(K1.out.2.cell (p:=⟨B2,4,none⟩) (.inr rfl)).trans d4;obtain⟨fn,tmps,assign,body,hy,hR⟩:=Y1.out W1 hJ1;clear Y1 H0 hJ1 Rm c0 c1 c2' c3' uf;gi_wp2;refine hR.mono ?_;rintro e W2 (⟨rfl,hJ2,UN⟩|⟨rfl,hx⟩);case inr=>
  gi_wp2;refine cD (Bh rfl _ _ _) rfl ?_;exact⟨⟨_,rfl⟩,.inr ⟨2,kN,hx⟩⟩
 have K2:=zq (K1.out.trans UN);have HJ2:=zq hJ2;clear hJ2 UN K1 d4 kN;have P1:=zq (K2.out.blk1 P1.out);have P2:=zq (K2.out.blk2 P2.out);gi_wp2;obtain⟨c0,c1,c2',c3',uf⟩:=P1.out.front;obtain⟨d0,d1,d2,d3,d4⟩:=P2.out.front;have KB2:=zq K2.out.1;have AB:B≤W2.heap.size:=cC Zg KB2.out.size;gi_cut [4,5]from 7 (fun a b V=>a=aA VT∧b=aA WT∧aY (aJ W2.heap.size W2 V));case first =>
  refine wpIn_wide.2 ?_;go_region_held3 (fun w'=>w'.cell? ⟨B1,0,none⟩=some (aM up1)∧w'.cell? ⟨B1,1,none⟩=some (aF aG f.co)∧w'.cell? ⟨B1,2,none⟩=some (aF aG dir1)∧w'.cell? ⟨B1,3,none⟩=some (aA S1)∧w'.cell? ⟨B1,4,none⟩=some (aA T1)∧w'.cell? ⟨B2,0,none⟩=some (aM up2)∧w'.cell? ⟨B2,1,none⟩=some (aF aG g.co)∧w'.cell? ⟨B2,2,none⟩=some (aF aG dir2)∧w'.cell? ⟨B2,3,none⟩=some (aA S2)∧w'.cell? ⟨B2,4,none⟩=some (aA T2)) (go_keep)
   (first
    |(go_at_call 183;with_reducible refine(My.out _ KB2.out.drew).mono ?_;rintro e w1 ⟨rfl,hb1⟩;have gG:=zq (aT (aI _ W2).drew hb1);have:=ck hb1 B1 0 (aM up1);have:=ck hb1 B1 1 (aF aG f.co);have:=ck hb1 B1 2 (aF aG dir1);have:=ck hb1 B1 3 (aA S1);have:=ck hb1 B1 4 (aA T1);have:=ck hb1 B2 0 (aM up2);have:=ck hb1 B2 1 (aF aG g.co);have:=ck hb1 B2 2 (aF aG dir2);have:=ck hb1 B2 3 (aA S2);have:=ck hb1 B2 4 (aA T2))
    |(go_at_call 183;with_reducible refine(XR.out _ (KB2.out.trans (gG.out.mono AB))).mono ?_;rintro e w2 ⟨rfl,hb2⟩;have eQ:=zq (aT gG.out hb2);have:=ck hb2 B1 0 (aM up1);have:=ck hb2 B1 1 (aF aG f.co);have:=ck hb2 B1 2 (aF aG dir1);have:=ck hb2 B1 3 (aA S1);have:=ck hb2 B1 4 (aA T1);have:=ck hb2 B2 0 (aM up2);have:=ck hb2 B2 1 (aF aG g.co);have:=ck hb2 B2 2 (aF aG dir2);have:=ck hb2 B2 3 (aA S2);have:=ck hb2 B2 4 (aA T2)))
  all_goals
   gi_wp2;gi_meet;case rel=>exact⟨rfl,rfl,eQ.out⟩
 case rest=>
 obtain⟨rfl,rfl,gD⟩:=hcut;rename aE=>W3;have HJ3:=zq (HJ.out _ _ _ HJ2.out gD.out);have K3:=zq (K2.out.trans (mF.call gD.out (cC Zg K2.out.1.size) P1.out.lt P2.out.lt));have KB3:=zq K3.out.1;have ix:B≤W3.heap.size:=cC Zg KB3.out.size;clear c0 c1 c2' c3' uf d0 d1 d2 d3 d4;have P1:=zq (P1.out.below gD.out P1.out.lt);have P2:=zq (P2.out.below gD.out P2.out.lt);clear gD HJ2 K2;obtain⟨c0,c1,c2',c3',uf⟩:=P1.out.front;obtain⟨d0,d1,d2,d3,d4⟩:=P2.out.front;gi_wp2;gi_cut [6]from 7 (fun a V=>a=aA GT∧aY (aJ W3.heap.size W3 V));case first =>
  refine wpIn_wide.2 ?_;go_region_held3 (fun w'=>w'.cell? ⟨B1,1,none⟩=some (aF aG f.co)∧w'.cell? ⟨B1,4,none⟩=some (aA T1)∧w'.cell? ⟨B2,1,none⟩=some (aF aG g.co)∧w'.cell? ⟨B2,4,none⟩=some (aA T2)) (go_keep)
   (first
    |(go_at_call 180;with_reducible refine(HW2.out _ KB3.out.drew).mono ?_;rintro e w1 ⟨rfl,hb1⟩;have gG:=zq (aT (aI _ W3).drew hb1);have:=ck hb1 B1 1 (aF aG f.co);have:=ck hb1 B1 4 (aA T1);have:=ck hb1 B2 1 (aF aG g.co);have:=ck hb1 B2 4 (aA T2))
    |(go_at_call 180;with_reducible refine(HW1.out _ (KB3.out.trans (gG.out.mono ix))).mono ?_;rintro e w2 ⟨rfl,hb2⟩;have eQ:=zq (aT gG.out hb2);have:=ck hb2 B1 1 (aF aG f.co);have:=ck hb2 B1 4 (aA T1);have:=ck hb2 B2 1 (aF aG g.co);have:=ck hb2 B2 4 (aA T2))
    |(go_at_call 184;with_reducible refine(HGp.out _ (KB3.out.trans (eQ.out.mono ix))).mono ?_;rintro e w3 ⟨rfl,hb3⟩;have fN:=zq (aT eQ.out hb3);have:=ck hb3 B1 1 (aF aG f.co);have:=ck hb3 B1 4 (aA T1);have:=ck hb3 B2 1 (aF aG g.co);have:=ck hb3 B2 4 (aA T2)))
  all_goals
   gi_wp2;gi_meet;case rel=>exact⟨rfl,fN.out⟩
 case rest=>
 obtain⟨rfl,HB3⟩:=hcut;rename aE=>W4;have HJ4:aY (J k2 W4):=by have:=HJ.out _ _ _ HJ3.out HB3.out;rw[L1.out];exact this
 have K4:=zq (K3.out.trans (mF.call HB3.out (cC Zg K3.out.1.size) P1.out.lt P2.out.lt));have KB4:=zq K4.out.1;have Uv:B≤W4.heap.size:=cC Zg KB4.out.size;clear c0 c1 c2' c3' uf d0 d1 d2 d3 d4;have P1:=zq (P1.out.below HB3.out P1.out.lt);have P2:=zq (P2.out.below HB3.out P2.out.lt);clear HB3 HJ3 K3 My XR HW1 HW2 HGp;obtain⟨-,c1,-,-,uf⟩:=P1.out.front;obtain⟨-,d1,-,-,d4⟩:=P2.out.front;gi_wp2;gi_cut [42]from 7 (fun v V=>(v=aM false∧aY (J k3 V)∧aY (mF B B1 B2 W V))∨(v=aM true∧aY (∃k,k≤N∧Jx k V)));case first =>
  by_cases hv:f.vel=0
  ·have ti:(VT.toList==[48])=true:=by rw[z1.out];exact decide_eq_true hv
   have L2:=L2.out hv;refine wpIn_wide.2 ?_;refine wp_region_held_drew (S:=(fun _=>True)) (by kernel_rfl) ?_ (fun wF=>?_)
   ·trivial
   refine tH 0 rfl ?_;refine tH 1 rfl ?_;refine tH 2 rfl ?_;refine sH 3 rfl ?_;refine sH 4 rfl ?_;refine sH 5 rfl ?_;refine sH 6 rfl ?_;refine sH 7 rfl ?_;refine sH 8 rfl ?_;refine sH 9 rfl ?_;refine sH 10 rfl ?_;refine sH 11 rfl ?_;refine tH 12 rfl ?_;try simp only[eC,bC,bA,aZ,aU,bK,bG]
   refine MN (by kernel_rfl) ?_ _;gi_wp2;gi_meet;case rel=>exact .inl ⟨rfl,HJ.out k3 W4 _ (by rw[L2];exact HJ4.out) (aI _ W4).drew,K4.out.trans (mF.call (aI _ W4).drew Uv P1.out.lt P2.out.lt)⟩
  ·have ti:(VT.toList==[48])=false:=by rw[z1.out];exact decide_eq_false hv
   have Fb:=zq (Fb.out hv);have ZO:=zq (ZO.out hv);obtain⟨hk3,hY2⟩:=Y2.out hv;have HY2:=zq hY2;clear hv hY2;generalize bs (aV (zO f g/f.vel))=D1 at *;generalize bs (aV (f.t+zO f g/f.vel))=A1 at *;gi_region_with
    (first
     |(refine⟨trivial,?_⟩;gi_at_call 218;(with_reducible refine(callsIn_wide.2 (Fb.out _ KB4.out.drew)).mono ?_);rintro e w1 ⟨rfl,hb1⟩;have gG:=zq (aT (aI _ W4).drew hb1);have:=ck hb1 B1 4 (aA T1);have:=ck hb1 B2 4 (aA T2))
     |(refine⟨trivial,?_⟩;gi_at_call 181;(with_reducible refine(callsIn_wide.2 (ZO.out _ (KB4.out.trans (gG.out.mono Uv)))).mono ?_);rintro e w2 ⟨rfl,hb2⟩;have eQ:=zq (aT gG.out hb2);have:=ck hb2 B1 4 (aA T1);have:=ck hb2 B2 4 (aA T2);obtain⟨fny,tmy,asy,boy,hy,hRy⟩:=HY2.out w2 (HJ.out _ _ _ HJ4.out eQ.out))
     |(refine hRy.mono ?_;rintro e w3 Gi;obtain⟨by3,rfl,HRy⟩:=yb Gi))
   all_goals
    gi_wp2;gi_meet;case rel=>
     rcases HRy.out with⟨hb,QO,hK⟩|⟨hb,hx⟩
     ·exact .inl ⟨by rw[hb];rfl,QO,(K4.out.trans (mF.call eQ.out Uv P1.out.lt P2.out.lt)).trans hK⟩
     ·exact .inr ⟨by rw[hb];rfl,k3,hk3,hx⟩
 case rest=>
 rcases hcut with⟨rfl,HJ5,K5⟩|⟨rfl,HX⟩;case inr=>
  gi_wp2;refine cD (Bh rfl _ _ _) rfl ?_;exact⟨⟨_,rfl⟩,.inr HX.out⟩
 rename aE=>W5;have P1:=zq (K5.out.blk1 Q1.out);have P2:=zq (K5.out.blk2 Q2.out);clear HJ4 K4 KB4 Uv c1 uf d1 d4 Fb ZO Y2 L2 z1;have KB5:=zq K5.out.1;have hs5:B≤W5.heap.size:=cC Zg KB5.out.size;obtain⟨-,c1,-,-,uf⟩:=P1.out.front;obtain⟨-,d1,-,-,d4⟩:=P2.out.front;gi_wp2;gi_cut [55]from 7 (fun v V=>(v=aM false∧aY (J k4 V)∧aY (mF B B1 B2 W V))∨(v=aM true∧aY (∃k,k≤N∧Jx k V)));case first =>
  by_cases hv:g.vel=0
  ·have ti:(WT.toList==[48])=true:=by rw[z2.out];exact decide_eq_true hv
   have L3:=L3.out hv;refine wpIn_wide.2 ?_;refine wp_region_held_drew (S:=(fun _=>True)) (by kernel_rfl) ?_ (fun wF=>?_)
   ·trivial
   refine tH 0 rfl ?_;refine tH 1 rfl ?_;refine tH 2 rfl ?_;refine sH 3 rfl ?_;refine sH 4 rfl ?_;refine sH 5 rfl ?_;refine sH 6 rfl ?_;refine sH 7 rfl ?_;refine sH 8 rfl ?_;refine sH 9 rfl ?_;refine sH 10 rfl ?_;refine sH 11 rfl ?_;refine tH 12 rfl ?_;try simp only[eC,bC,bA,aZ,aU,bK,bG]
   refine MN (by kernel_rfl) ?_ _;gi_wp2;gi_meet;case rel=>exact .inl ⟨rfl,HJ.out k4 W5 _ (by rw[L3];exact HJ5.out) (aI _ W5).drew,K5.out.trans (mF.call (aI _ W5).drew hs5 P1.out.lt P2.out.lt)⟩
  ·have ti:(WT.toList==[48])=false:=by rw[z2.out];exact decide_eq_false hv
   have Ew:=zq (Ew.out hv);have WP:=zq (WP.out hv);obtain⟨Xp,hY3⟩:=Y3.out hv;have HY3:=zq hY3;clear hv hY3;generalize bs (aV (zO f g/g.vel))=D2 at *;generalize bs (aV (g.t-zO f g/g.vel))=A2 at *;gi_region_with
    (first
     |(refine⟨trivial,?_⟩;gi_at_call 218;(with_reducible refine(callsIn_wide.2 (Ew.out _ KB5.out.drew)).mono ?_);rintro e w1 ⟨rfl,hb1⟩;have gG:=zq (aT (aI _ W5).drew hb1);have:=ck hb1 B1 4 (aA T1);have:=ck hb1 B2 4 (aA T2))
     |(refine⟨trivial,?_⟩;gi_at_call 184;(with_reducible refine(callsIn_wide.2 (WP.out _ (KB5.out.trans (gG.out.mono hs5)))).mono ?_);rintro e w2 ⟨rfl,hb2⟩;have eQ:=zq (aT gG.out hb2);have:=ck hb2 B1 4 (aA T1);have:=ck hb2 B2 4 (aA T2);obtain⟨fny,tmy,asy,boy,hy,hRy⟩:=HY3.out w2 (HJ.out _ _ _ HJ5.out eQ.out))
     |(refine hRy.mono ?_;rintro e w3 Gi;obtain⟨by3,rfl,HRy⟩:=yb Gi))
   all_goals
    gi_wp2;gi_meet;case rel=>
     rcases HRy.out with⟨hb,QO,hK⟩|⟨hb,hx⟩
     ·exact .inl ⟨by rw[hb];rfl,QO,(K5.out.trans (mF.call eQ.out hs5 P1.out.lt P2.out.lt)).trans hK⟩
     ·exact .inr ⟨by rw[hb];rfl,k4,Xp,hx⟩
 case rest=>
 rcases hcut with⟨rfl,HJ6,K6⟩|⟨rfl,HX⟩;case inr=>
  gi_wp2;refine cD (Bh rfl _ _ _) rfl ?_;exact⟨⟨_,rfl⟩,.inr HX.out⟩
 rename aE=>W6;have P1:=zq (K6.out.blk1 Q1.out);have P2:=zq (K6.out.blk2 Q2.out);clear HJ5 K5 KB5 hs5 c1 uf d1 d4 Ew WP Y3 L3 z2;have KB6:=zq K6.out.1;have hs6:B≤W6.heap.size:=cC Zg KB6.out.size;obtain⟨-,c1,-,-,uf⟩:=P1.out.front;obtain⟨-,d1,-,-,d4⟩:=P2.out.front;by_cases hv:f.vel=g.vel
 ·have ti:(VT.toList==WT.toList)=true:=by rw[z3.out];exact decide_eq_true hv
  have L4:=zq (L4.out hv);clear hv;gi_wp2;go_end0;exact⟨⟨_,rfl⟩,.inl (by rw[L4.out];exact HJ6.out)⟩
 ·have ti:(VT.toList==WT.toList)=false:=by rw[z3.out];exact decide_eq_false hv
  have HDl:=zq (HDl.out (by grind));have HY4:=zq (Y4.out hv);clear hv Y4 L4;generalize bs (aV (f.vel*f.t))=M1 at *;generalize bs (aV (g.vel*g.t))=M2 at *;generalize bs (aV (f.vel*f.t-g.vel*g.t))=SM at *;generalize bs (aV (zO f g+(f.vel*f.t-g.vel*g.t)))=AM at *;generalize bs (aV (f.vel-g.vel))=SV at *;generalize bs (aV ((zO f g+(f.vel*f.t-g.vel*g.t))/(f.vel-g.vel)))=DL at *;have HC0:aY (aJ W6.heap.size W6 W6.drew):=(aI _ W6).drew;gi_wp2;gi_region_with
   (first
    |(refine⟨trivial,?_⟩;gi_at_call 182;(with_reducible refine(callsIn_wide.2 (ZP.out _ KB6.out.drew)).mono ?_);rintro e w1 ⟨rfl,hb1⟩;have gG:=zq (aT HC0.out hb1);have:=ck hb1 B1 4 (aA T1);have:=ck hb1 B2 4 (aA T2))
    |(refine⟨trivial,?_⟩;gi_at_call 182;(with_reducible refine(callsIn_wide.2 (oc.out _ (KB6.out.trans (gG.out.mono hs6)))).mono ?_);rintro e w2 ⟨rfl,hb2⟩;have eQ:=zq (aT gG.out hb2);have:=ck hb2 B1 4 (aA T1);have:=ck hb2 B2 4 (aA T2))
    |(refine⟨trivial,?_⟩;gi_at_call 184;(with_reducible refine(callsIn_wide.2 (HSm.out _ (KB6.out.trans (eQ.out.mono hs6)))).mono ?_);rintro e w3 ⟨rfl,hb3⟩;have fN:=zq (aT eQ.out hb3))
    |(refine⟨trivial,?_⟩;gi_at_call 181;(with_reducible refine(callsIn_wide.2 (HAm.out _ (KB6.out.trans (fN.out.mono hs6)))).mono ?_);rintro e w4 ⟨rfl,hb4⟩;have hB4:=zq (aT fN.out hb4))
    |(refine⟨trivial,?_⟩;gi_at_call 184;(with_reducible refine(callsIn_wide.2 (HSv.out _ (KB6.out.trans (hB4.out.mono hs6)))).mono ?_);rintro e w5 ⟨rfl,hb5⟩;have yH:=zq (aT hB4.out hb5))
    |(refine⟨trivial,?_⟩;gi_at_call 218;(with_reducible refine(callsIn_wide.2 (HDl.out _ (KB6.out.trans (yH.out.mono hs6)))).mono ?_);rintro e w6 ⟨rfl,hb6⟩;have Cu:=zq (aT yH.out hb6);obtain⟨fny,tmy,asy,boy,hy,hRy⟩:=HY4.out w6 (HJ.out _ _ _ HJ6.out Cu.out))
    |(refine hRy.mono ?_;rintro e w7 Gi;obtain⟨by3,rfl,HRy⟩:=yb Gi))
  all_goals
   gi_wp2;go_end0;rcases HRy.out with⟨-,QO,-⟩|⟨-,hx⟩
   ·exact⟨⟨_,rfl⟩,.inl QO⟩
   ·exact⟨⟨_,rfl⟩,.inr ⟨N,aD _,hx⟩⟩
end
end
section
open Go Go.RowKit
section
variable{P:Program}
theorem ZR{n:Nat}{o:A8}{a:EI}{w:aE}{K:EI→aE→Prop}{Q:db→EI→aE→Prop}(h:Oper.wp P o a w K Q):Oper.wpIn dW n P o a w K Q:=by
 refine⟨fun _ _=>trivial,?_⟩;unfold Oper.wp at h;show Oper.uponIn _ _ _ _ _ _ _ ((Oper.semAt none a.eval o).run P w);rw[Oper.semAt_none];generalize(execOp a.eval o).run P w=r at h⊢;unfold Oper.upon at h;split at h
 ·exact h
 ·exact h
 ·exact h
 ·refine⟨fun h=>(by cases h),(callsIn_wide.2 h).mono ?_⟩;intro e w' he;exact he
 ·refine⟨fun h=>(by cases h),?_⟩;intro c cs _;obtain⟨v,w',r,s⟩:=h c cs;exact⟨v,w',r,stepsIn_wide.2 s⟩
 ·exact h
 ·exact h.elim
theorem op_wide{n:Nat}{fA:Array A8}{Q:db→EI→aE→Prop}{i:Nat}{K:EI→aE→Prop}{a:EI}{w:aE}(hQ:¬LetsOut Q)(h:wpOp P fA Q i K a w):wpOpIn dW n P fA Q i K a w:=by
 unfold wpOp at h;unfold wpOpIn;cases ho:fA[i]? with
 |none=>rw[ho]at h;exact h
 |some o=>
  rw[ho]at h;simp only at h⊢;split
  ·rename_i hw;rw[ip hw]at h;rcases h with h|⟨_,h⟩
   ·exact ZR h
   ·exact absurd h hQ
  ·rename_i hw;rw[iN hw]at h;exact⟨fun _ _=>trivial,h⟩
theorem EF{n:Nat}{md:Region.Mode}{fA:Array A8}{Q:db→EI→aE→Prop}{S:aE→Prop}(hQ:¬LetsOut Q):
 ∀(fuel:Nat)(jN:Array Bool)(a:EI)(w:aE),wpAnyH P md fA Q S fuel jN a w→wpAnyIn dW n P md fA Q fuel jN a w
 |0,_,_,_,h=>h
 |fuel+1,_,_,_,h=>⟨h.1,fun i hi=>op_wide hQ (wpOp_mono (fun a' w' h'=>EF hQ fuel _ a' w' h'.2) (h.2 i hi))⟩
theorem GZ{n:Nat}{id:Nat}{fA:Array A8}{Q:db→EI→aE→Prop}{a:EI}{w:aE}{l:Nat}{S:aE→Prop}(hm:P.follows .mixedOrders=true)(hd:GD fA=true)(hQ:¬LetsOut Q)(hS:S w.drew)
 (h:S w.drew→wpAnyH P .any fA Q S fA.size (pG fA.size false) a w.drew):(OK id fA true).wpIn (Fence.wide.inRound l) n P Q a w:=
 xJ hm hd (EF hQ _ _ _ _ (h hS))
def Cf(Q:db→EI→aE→Prop):db→EI→aE→Prop
 |.normal,a,w=>Q .normal a w
 |_,_,_=>False
theorem Cf.normal{Q:db→EI→aE→Prop}{a:EI}{w:aE}(h:Q .normal a w):Cf Q .normal a w:=h
theorem Cf.imp{Q:db→EI→aE→Prop}:∀(e:db)(a:EI)(w:aE),Cf Q e a w→Q e a w:=fun e a w h=>by
 cases e<;>first |exact h|exact(h:False).elim
theorem Cf.no{Q:db→EI→aE→Prop}:¬LetsOut (Cf Q):=fun⟨_,_,h⟩=>(h:False).elim
theorem zE{n:Nat}{id:Nat}{fA:Array A8}{Q:db→EI→aE→Prop}{a:EI}{w:aE}{l:Nat}{S:aE→Prop}(hm:P.follows .mixedOrders=true)(hd:GD fA=true)(hS:S w.drew)
 (h:S w.drew→wpAnyH P .any fA (Cf Q) S fA.size (pG fA.size false) a w.drew):(OK id fA true).wpIn (Fence.wide.inRound l) n P Q a w:=
 wpIn_mono (GZ hm hd Cf.no hS h) Cf.imp
end
end
end Go.Proofs.YtcimoodjlopdaaaGreatDoor
