import Derived.Test.YtcimoodjlopdaaaGreatDoorProg
import Derived.WalkKit
import Derived.WalkSpells
import Derived.WalkLawsBesides
import Derived.RegionTactic
import Derived.ChangeAlike
import Derived.Deep.QuietTactic
import Derived.BigQuiet
import Derived.Lib.Hide
import Derived.Deep.DeepCutAuto
import Derived.Deep.RegionHeld3
import Derived.Sort.CutIn
import Derived.Sort.QuietIn
import Derived.RegionIn
import Derived.Deep.RegionWith
import Derived.RangeFuncBox
import Derived.RangeFuncNested
import Derived.RangeFuncBound
import Derived.RangeFuncCalls
import Derived.RangeFuncLeaves
import Derived.RangeFuncFrom
import Derived.Shelf.Abstract
import Derived.Shelf.RegionOpen
import Derived.OwnWalkIn
import Derived.TacticsInMore
import Derived.LoopNIn
import Derived.LoopIn
import Derived.Test.YtcimoodjlopdaaaGreatDoorZ0
import Derived.Test.YtcimoodjlopdaaaGreatDoorZ1
import Derived.Test.YtcimoodjlopdaaaGreatDoorZ6
import Derived.Test.YtcimoodjlopdaaaGreatDoorZ7
import Derived.Test.YtcimoodjlopdaaaGreatDoorZ8
import Derived.Test.YtcimoodjlopdaaaGreatDoorZ9
namespace Go.Proofs.YtcimoodjlopdaaaGreatDoor
set_option maxRecDepth 100000
set_option maxHeartbeats 8000000
set_option linter.all false
open Go.Proofs.Tryz
open _root_.Array renaming replicate_succ->eR,replicate_zero->eT
open Go renaming World->aE,Calls->aQ,Value->bB,Addr->dE,KeepsFrom->kC,OwnFrom->Bd,Code->Cz,heap_setCell_other->Dn,Program->X6
open Go.Code renaming rangeFunc->BZ
open Go.Ending renaming returned->aO
open Go.Fence renaming wide->dW
open Go.IntKind renaming i64->aG
open Go.IntWalk renaming i64_in->aP
open Go.KeepsOthers renaming setCell->cE
open Go.Oper renaming semAt_some->mD
open Go.Proofs.Tryz renaming prog->aC,isAgg179->tC,results205->vh
open Go.RowKit renaming Below->aJ,intOf->aK
open Go.RowKit.Below renaming refl->aI
open Go.Value renaming slice->aB,int->aF,bool->aM
open Go.World renaming block_lt_of_cell?->bF,putObj_heap_other->cH,cell?_of_block->jW,putObj_heap_same->mA,alloc_heap_new->nL,drewN_drewN->be
open Int renaming natCast_nonneg->pM
open List renaming getElem?_cons_zero->bD,getElem?_toArray->bJ,length_cons->cO,length_nil->eW,append_toArray->fJ,cons_append->fX,size_toArray->gA,push_toArray->gC,nil_append->iC
open Nat renaming le_refl->aD,pow_le_pow_right->bN,lt_of_lt_of_le->bQ,zero_le->bR,le_trans->cC,mul_comm->cK,pow_succ->dN,mul_le_mul_right->eG,lt_or_ge->fC,mul_assoc->fE,mod_eq_of_lt->fU,mod_lt->fW,zero_add->gL,mul_add->fY,add_mul->gU,eq_zero_or_pos->jL,div_add_mod->jU,reduceAdd->jX,reduceSub->jY,mul_le_mul_left->mT,div_mul_le_self->oL,div_eq_of_lt->oU,pow_add->qU,div_lt_iff_lt_mul->wL,one_mul->Ah,add_zero->Bj,le_div_iff_mul_le->D6,mul_zero->Eg,pow_pos->EJ,mul_lt_mul_of_pos_right->Ns,lt_of_mul_lt_mul_right->OL,zero_mul->UD
open Trans renaming trans->cL
section
open Go Go.RowKit
theorem ir{B q r v1 v0 Kg u0 Q:Nat}(h:q*v1+r=Kg)(hQ:Q*(v1*B+v0)≤Kg*B+u0)(hc:r*B+u0<q*v0):Q<q:=by
 rcases fC Q q with h1|h1
 ·exact h1
 ·exfalso;have h2:q*(v1*B+v0)≤Q*(v1*B+v0):=eG _ h1;rw[fY,←fE]at h2;have h3:Kg*B=q*v1*B+r*B:=by rw[←h,gU]
  omega
theorem YU{B v1 v0 Kg u0 Q:Nat}(hv:0<v1)(hu:u0<B)(hQ:Q*(v1*B+v0)≤Kg*B+u0):Q≤Kg/v1:=by
 rw[D6 hv];rcases fC Kg (Q*v1)with h|h
 ·exfalso;have h1:(Kg+1)*B≤Q*v1*B:=eG _ h;rw[fY,←fE]at hQ;rw[gU,Ah]at h1;omega
 ·exact h
theorem Pp(bu ou nu cu bv ov n cv j u2 u1 u0 v1 v0:Nat)(w:aE)(hn:2≤n)(FH:n≤1000)(bn:nu≤3000)(hj:j+n<nu)
 (k2:w.cell? ⟨bu,ou+(j+n),none⟩=some (iv u2))(k1:w.cell? ⟨bu,ou+(j+n-1),none⟩=some (iv u1))(k0:w.cell? ⟨bu,ou+(j+n-2),none⟩=some (iv u0))
 (l1:w.cell? ⟨bv,ov+(n-1),none⟩=some (iv v1))(l0:w.cell? ⟨bv,ov+(n-2),none⟩=some (iv v0))
 (hu2:u2≤v1)(vU:v1≤999999999)(hv:0<v1)(hu1:u1≤999999999)(hu0:u0≤999999999)(hv0:v0≤999999999):
 aQ aC 259 #[aB (some ⟨bu,ou,none⟩) nu cu,aB (some ⟨bv,ov,none⟩) n cv,aF aG j] w fun e w'=>(∃q:Nat,e=aO (iv q)∧q≤999999999∧
  ∀Q,Q<PB→Q*(v1*PB+v0)≤(u2*PB+u1)*PB+u0→Q≤q)∧∃nd,w'=w.drewN nd:=by
 obtain⟨Kg,QP⟩:∃Kg:Nat,u2*PB+u1=Kg:=⟨_,rfl⟩;have OV:(u2:Int)*1000000000+u1=(Kg:Int):=by rw[←QP];unfold PB;omega
 have htb:Kg≤v1*1000000000+999999999:=by unfold PB at QP;omega
 have ht18:Kg≤999999999999999999:=by omega
 obtain⟨Q0,hQ0⟩:∃Q0,Kg/v1=Q0:=⟨_,rfl⟩;obtain⟨R0,QK⟩:∃R0,Kg%v1=R0:=⟨_,rfl⟩;have hdm:Q0*v1+R0=Kg:=by rw[←hQ0,←QK,cK];exact jU Kg v1
 have hRv:R0<v1:=by rw[←QK];exact fW _ hv
 have hQb:Q0≤1999999999:=by
  have h2:Q0<2000000000:=by
   rw[←hQ0,wL hv];omega
  omega
 have Io:Hid (∀Q,Q<PB→Q*(v1*PB+v0)≤(u2*PB+u1)*PB+u0→Q≤Q0):=by
  intro Q _ h;rw[QP]at h;rw[←hQ0];exact YU hv (by unfold PB;omega) h
 have r5:IntKind.i64.wrap (Q0:Int)=(Q0:Int):=aP _ (by omega);have r6:IntKind.i64.wrap (R0:Int)=(R0:Int):=aP _ (by omega);have q1:IntKind.i64.wrap ((j:Int)+n)=(j:Int)+n:=by exact aP _ (by omega)
 have q2:(0:Int)≤(j:Int)+n:=by omega
 have q3:((j:Int)+n).toNat=j+n:=by omega
 have q4:(j:Int)+n<nu:=by omega
 have q5:IntKind.i64.wrap ((j:Int)+n-1)=(j:Int)+n-1:=by exact aP _ (by omega)
 have q6:(0:Int)≤(j:Int)+n-1:=by omega
 have q7:((j:Int)+n-1).toNat=j+n-1:=by omega
 have q8:(j:Int)+n-1<nu:=by omega
 have q9:IntKind.i64.wrap ((u2:Int)*1000000000)=(u2:Int)*1000000000:=by exact aP _ (by omega)
 have q10:IntKind.i64.wrap ((u2:Int)*1000000000+u1)=(u2:Int)*1000000000+u1:=by exact aP _ (by omega)
 have r3:((Kg:Int))/(v1:Int)=(Q0:Int):=by rw[←hQ0,Int.natCast_ediv]
 have r4:((Kg:Int))%(v1:Int)=(R0:Int):=by rw[←QK,Int.natCast_emod]
 have r1:((Kg:Int)).tdiv (v1:Int)=(Q0:Int):=(Int.tdiv_eq_ediv_of_nonneg (pM _)).trans r3;have r2:((Kg:Int)).tmod (v1:Int)=(R0:Int):=(Int.tmod_eq_emod_of_nonneg (pM _)).trans r4;have Hdm:=zq hdm;have HRv:=zq hRv;have HQb:=zq hQb;have Htb:=zq htb;have Hr:=zq (And.intro r1 (And.intro r2 (And.intro r3 (And.intro r4 (And.intro r5 r6)))));have Ys:=zq OV;have Htn:=zq QP;have HU:=zq (And.intro hu2 (And.intro hu1 (And.intro hu0 hv0)));clear hQ0 QK hdm hRv hQb htb r1 r2 r3 r4 r5 r6 OV QP ht18;go_enter func259,ntmps259;go_wp2;go_quiet (fail)
 rw[Ys.out];clear q1 q2 q3 q4 q5 q6 q7 q8 q9 q10;have p1:IntKind.i64.wrap ((n:Int)-1)=(n:Int)-1:=by exact aP _ (by omega)
 have p2:(0:Int)≤(n:Int)-1:=by omega
 have p3:((n:Int)-1).toNat=n-1:=by omega
 have p4:(n:Int)-1<n:=by omega
 have r7:¬(v1:Int)=0:=by omega
 have r7n:¬v1=0:=by omega
 obtain⟨r1,r2,r3,r4,r5,r6⟩:=Hr.out;have l1n:(w.drewN nq).cell? ⟨bv,ov+(n-1),none⟩=some (iv v1):=l1;go_wp2;go_quiet (fail)
 clear p1 p2 p3 p4 r1 r2 r3 r4 r5 r6 r7 r7n l1n;go_wp2;go_loopw[9,10] (fun q r wr=>∃(Q R:Nat),q=aF aG Q∧r=aF aG R∧Q≤1999999999∧R≤999999999∧Hid (Q*v1+R=Kg∧∀Q',Q'<PB→Q'*(v1*PB+v0)≤(u2*PB+u1)*PB+u0→Q'≤Q)∧∃nd,wr=w.drewN nd)
  (fun q _ _=>(aK q).toNat)
 case atStart=>exact⟨Q0,R0,rfl,rfl,HQb.out,by have:=HRv.out;omega,⟨Hdm.out,Io.out⟩,_,be _ _ _⟩
 case round=>
  clear Io Hdm HRv HQb Hr Ys;obtain⟨Q,R,rfl,rfl,hQ,hR,hH,nd,rfl⟩:=hrel;have e1:IntKind.i64.wrap ((n:Int)-1)=(n:Int)-1:=by exact aP _ (by omega)
  have e2:(0:Int)≤(n:Int)-1:=by omega
  have e3:((n:Int)-1).toNat=n-1:=by omega
  have e4:(n:Int)-1<n:=by omega
  have l1n:(w.drewN nd).cell? ⟨bv,ov+(n-1),none⟩=some (iv v1):=l1;by_cases hA:1000000000≤Q
  ·have hg:decide ((1000000000:Int)≤(Q:Int))=true:=by simp;omega
   have hlt:∀Q',Q'<PB→Q'*(v1*PB+v0)≤(u2*PB+u1)*PB+u0→Q'≤Q-1:=by
    intro Q' h1 _;unfold PB at h1;omega
   have hQ1:1≤Q:=by omega
   obtain⟨P,hP⟩:∃P,Q=P+1:=⟨Q-1,by omega⟩;obtain⟨S,hS⟩:∃S,R+v1=S:=⟨_,rfl⟩;have hS2:S≤1999999998:=by omega
   have s1:IntKind.i64.wrap ((R:Int)+v1)=(S:Int):=by rw[←hS];exact aP _ (by omega)
   have s2:IntKind.i64.wrap ((Q:Int)-1)=(P:Int):=by rw[hP];rw[show((P+1:Nat):Int)-1=(P:Int) by omega];exact aP _ (by omega)
   have HD:Hid (P*v1+S=Kg):=by
    show _=_;have:=hH.out.1;rw[hP,gU,Ah]at this;omega
   have HLT:=zq hlt;have HP:=zq hP;have HS:=zq hS;clear hP hS hlt;by_cases hbr:1000000000≤S
   ·have hbri:(1000000000:Int)≤(S:Int):=by omega
    go_wp2;go_quiet (fail)
    go_wp2;go_quiet (fail)
    go_wp2;go_ret;clear e1 e2 e3 e4;refine⟨⟨P,rfl,?_,fun Q' h1 h2=>by have:=HLT.out Q' h1 h2;have:=HP.out;omega⟩,_,rfl⟩;have h1:=HD.out;have h2:=Htb.out;have h3:P*v1<1000000000*v1:=by rw[cK 1000000000];omega
    have:=OL h3;omega
   ·have hbd:decide ((1000000000:Int)≤(S:Int))=false:=by simp;omega
    have Hbr:=zq hbr;clear hbr;go_wp2;go_quiet (fail)
    go_wp2;go_quiet (fail)
    go_wp2;clear e1 e2 e3 e4;go_roundw;case rel=>exact⟨P,S,rfl,rfl,by have:=HP.out;omega,by have:=Hbr.out;omega,⟨HD.out,fun Q' h1 h2=>by have:=HLT.out Q' h1 h2;have:=HP.out;omega⟩,_,rfl⟩
    case measure=>have:=HP.out;simp only[aK];omega
  ·have hQ9:Q≤999999999:=by omega
   have hg:decide ((1000000000:Int)≤(Q:Int))=false:=by simp;omega
   have xz:decide ((R:Int)<1000000000)=true:=by simp;omega
   obtain⟨p,hp0⟩:∃p,Q*v0=p:=⟨_,rfl⟩;have hpi:(Q:Int)*v0=(p:Int):=by rw[←Int.natCast_mul,hp0]
   have hp3:p≤999999998000000001:=by rw[←hp0];exact cC (Nat.mul_le_mul hQ9 hv0) (by decide)
   have g12:IntKind.i64.wrap ((Q:Int)*v0)=(p:Int):=by rw[hpi];exact aP _ (by omega)
   have Hdec:Hid (R*1000000000+u0<p↔(R:Int)*1000000000+u0<(p:Int)):=by show _↔_;omega
   have G12:=zq g12;have Hp0:=zq hp0;clear hpi hp0 g12;have g1:IntKind.i64.wrap ((n:Int)-2)=(n:Int)-2:=by exact aP _ (by omega)
   have g2:(0:Int)≤(n:Int)-2:=by omega
   have g3:((n:Int)-2).toNat=n-2:=by omega
   have g4:(n:Int)-2<n:=by omega
   have g5:IntKind.i64.wrap ((j:Int)+n)=(j:Int)+n:=by exact aP _ (by omega)
   have g6:IntKind.i64.wrap ((j:Int)+n-2)=(j:Int)+n-2:=by exact aP _ (by omega)
   have g7:(0:Int)≤(j:Int)+n-2:=by omega
   have g8:((j:Int)+n-2).toNat=j+n-2:=by omega
   have g9:(j:Int)+n-2<nu:=by omega
   have g10:IntKind.i64.wrap ((R:Int)*1000000000)=(R:Int)*1000000000:=by exact aP _ (by omega)
   have g11:IntKind.i64.wrap ((R:Int)*1000000000+u0)=(R:Int)*1000000000+u0:=by exact aP _ (by omega)
   have l0n:(w.drewN nd).cell? ⟨bv,ov+(n-2),none⟩=some (iv v0):=l0;have k0n:(w.drewN nd).cell? ⟨bu,ou+(j+n-2),none⟩=some (iv u0):=k0;have HG:=zq (And.intro g1 (And.intro g2 (And.intro g3 (And.intro g4 (And.intro g5 (And.intro g6 (And.intro g7 (And.intro g8 (And.intro g9 (And.intro g10 (And.intro g11 (And.intro l0n k0n))))))))))));have HE:=zq (And.intro e1 (And.intro e2 (And.intro e3 (And.intro e4 l1n))));clear g1 g2 g3 g4 g5 g6 g7 g8 g9 g10 g11 l0n k0n e1 e2 e3 e4 l1n;by_cases hc:R*1000000000+u0<p
   ·have Pq:(R:Int)*1000000000+u0<(p:Int):=Hdec.out.1 hc;have hcd:decide ((R:Int)*1000000000+u0<(p:Int))=true:=decide_eq_true Pq;have hlt:∀Q',Q'<PB→Q'*(v1*PB+v0)≤(u2*PB+u1)*PB+u0→Q'≤Q-1:=by
     intro Q' h1 h2;have:=ir hH.out.1 (by rw[Htn.out]at h2;exact h2) (by rw[Hp0.out];exact hc);omega
    have hQ1:1≤Q:=by
     rcases jL Q with h|h
     ·exfalso;have h0:=Hp0.out;rw[h,UD]at h0;rw[←h0]at hc;exact Nat.not_lt_zero _ hc
     ·exact h
    obtain⟨P,hP⟩:∃P,Q=P+1:=⟨Q-1,by omega⟩;obtain⟨S,hS⟩:∃S,R+v1=S:=⟨_,rfl⟩;have hS2:S≤1999999998:=by omega
    have s1:IntKind.i64.wrap ((R:Int)+v1)=(S:Int):=by rw[←hS];exact aP _ (by omega)
    have s2:IntKind.i64.wrap ((Q:Int)-1)=(P:Int):=by rw[hP];rw[show((P+1:Nat):Int)-1=(P:Int) by omega];exact aP _ (by omega)
    have HD:Hid (P*v1+S=Kg):=by
     show _=_;have:=hH.out.1;rw[hP,gU,Ah]at this;omega
    have HLT:=zq hlt;have HP:=zq hP;have HS:=zq hS;clear hP hS hlt;by_cases hbr:1000000000≤S
    ·have hbri:(1000000000:Int)≤(S:Int):=by omega
     obtain⟨g1,g2,g3,g4,g5,g6,g7,g8,g9,g10,g11,l0n,k0n⟩:=HG.out;obtain⟨e1,e2,e3,e4,l1n⟩:=HE.out;have g12:=G12.out;go_wp2;go_quiet (fail)
     clear g1 g2 g3 g4 g5 g6 g7 g8 g9 g10 g11 g12;go_wp2;go_quiet (fail)
     go_wp2;go_ret;clear e1 e2 e3 e4;refine⟨⟨P,rfl,?_,fun Q' h1 h2=>by have:=HLT.out Q' h1 h2;have:=HP.out;omega⟩,_,rfl⟩;have h1:=HD.out;have h2:=Htb.out;have h3:P*v1<1000000000*v1:=by rw[cK 1000000000];omega
     have:=OL h3;omega
    ·have hbd:decide ((1000000000:Int)≤(S:Int))=false:=by simp;omega
     have Hbr:=zq hbr;clear hbr;obtain⟨g1,g2,g3,g4,g5,g6,g7,g8,g9,g10,g11,l0n,k0n⟩:=HG.out;obtain⟨e1,e2,e3,e4,l1n⟩:=HE.out;have g12:=G12.out;go_wp2;go_quiet (fail)
     clear g1 g2 g3 g4 g5 g6 g7 g8 g9 g10 g11 g12;go_wp2;go_quiet (fail)
     go_wp2;clear e1 e2 e3 e4;go_roundw;case rel=>exact⟨P,S,rfl,rfl,by have:=HP.out;omega,by have:=Hbr.out;omega,⟨HD.out,fun Q' h1 h2=>by have:=HLT.out Q' h1 h2;have:=HP.out;omega⟩,_,rfl⟩
     case measure=>have:=HP.out;simp only[aK];omega
   ·have Pq:¬(R:Int)*1000000000+u0<(p:Int):=fun h=>hc (Hdec.out.2 h);have hcd:decide ((R:Int)*1000000000+u0<(p:Int))=false:=decide_eq_false Pq;obtain⟨g1,g2,g3,g4,g5,g6,g7,g8,g9,g10,g11,l0n,k0n⟩:=HG.out;obtain⟨e1,e2,e3,e4,l1n⟩:=HE.out;have g12:=G12.out;go_wp2;go_quiet (fail)
    go_wp2;go_ret;exact⟨⟨Q,rfl,hQ9,hH.out.2⟩,_,be _ _ _⟩
end
section
open Go
theorem Ap{B:Nat}(hB:1≤B)(xs:List Nat)(hx:∀x∈xs,x<B)(k:Nat)(hk:k≤xs.length):bS B (xs.drop k)=bS B xs/B^k:=by
 have h1:=nQ B xs k hk;have h2:=xB hB hx k;rw[h1,Nat.add_mul_div_left _ _ (EJ (by omega)),oU h2,gL]
theorem Xk{B:Nat}(hB:2≤B)(os ys:List Nat)(ho:∀x∈os,x<B)(hy:∀y∈ys,y<B)(n j:Nat)(hn:ys.length=n)(h2:2≤n)(hj:j+n<os.length)
 (hU:bS B os<bS B ys*B^(j+1)):
 os.getD (j+n) 0≤ys.getD (n-1) 0∧0<bS B ys∧bS B os<B^(j+(n+1))∧bS B os/(bS B ys*B^j)<B∧
 bS B os/(bS B ys*B^j)*(ys.getD (n-1) 0*B+ys.getD (n-2) 0)≤(os.getD (j+n) 0*B+os.getD (j+n-1) 0)*B+os.getD (j+n-2) 0:=by
 obtain⟨m,rfl⟩:∃m,n=m+2:=⟨n-2,by omega⟩;rw[show m+2-1=m+1 by omega,show m+2-2=m by omega,show j+(m+2)-1=j+m+1 by omega,show j+(m+2)-2=j+m by omega,show j+(m+2)=j+m+2 by omega];rw[show j+(m+2)=j+m+2 by omega]at hj;have hV:=zV (by omega:1≤B) ys hy;rw[hn]at hV;have hV0:0<bS B ys:=by
  rcases jL (bS B ys)with h|h
  ·rw[h,UD]at hU;omega
  ·exact h
 have yd:bS B os<B^(j+m+3):=by
  refine bQ hU ?_;rw[show j+m+3=(m+2)+(j+1) by omega,qU B (m+2)];exact eG _ (Nat.le_of_lt hV)
 have d0:=fO B os (j+m) (by omega);have d1:=fO B os (j+m+1) (by omega);have d2:=fO B os (j+m+2) (by omega);have d3:bS B (os.drop (j+m+2+1))=0:=by
  rw[Ap (by omega) os ho _ (by omega)];exact oU yd
 rw[d3,Eg]at d2;rw[d2]at d1;rw[d1]at d0;rw[Ap (by omega) os ho _ (by omega)]at d0 d2;have e0:=fO B ys m (by omega);have e1:=fO B ys (m+1) (by omega);have e2:bS B (ys.drop (m+1+1))=0:=by rw[List.drop_of_length_le (by omega)];rfl
 rw[e2,Eg]at e1;rw[e1]at e0;rw[Ap (by omega) ys hy _ (by omega)]at e0 e1;generalize os.getD (j+m) 0=u0 at *;generalize os.getD (j+m+1) 0=u1 at *;generalize os.getD (j+m+2) 0=u2 at *;generalize ys.getD (m+1) 0=y1 at *;generalize ys.getD m 0=y0 at *;generalize bS B os=U at *;generalize bS B ys=V at *;simp only[Bj]at d0 d1 d2 e0 e1;have ye:∀k,0<B^k:=fun k=>EJ (by omega);refine⟨?_,hV0,by rw[show j+(m+2+1)=j+m+3 by omega];exact yd,?_,?_⟩
 ·rcases fC y1 u2 with h|h
  ·exfalso;have k1:u2*B^(j+m+2)≤U:=by rw[←d2];exact oL _ _
   have k2:V<(y1+1)*B^(m+1):=by
    rw[←e1,gU,Ah];have:=jU V (B^(m+1));have h3:=fW V (ye (m+1));rw[cK]at this;omega
   have k3:V*B^(j+1)<(y1+1)*B^(m+1)*B^(j+1):=Ns k2 (ye _);have k4:(y1+1)*B^(m+1)*B^(j+1)≤u2*B^(j+m+2):=by
    rw[fE,←qU,show m+1+(j+1)=j+m+2 by omega];exact eG _ h
   omega
  ·exact h
 ·rw[wL (Nat.mul_pos hV0 (ye _))];rw[dN]at hU;rw[cK B,fE];exact hU
 ·have hT:U/B^(j+m)=(u2*B+u1)*B+u0:=by
   rw[d0,fY,gU];have:B*(B*u2)=u2*B*B:=by rw[cK B u2,cK B]
   rw[this,cK B u1];omega
  have hE:V/B^m=y1*B+y0:=by rw[e0,cK B y1];omega
  rw[←hT,←hE,D6 (ye _)];have k1:V/B^m*B^m≤V:=oL _ _;have k2:U/(V*B^j)*(V*B^j)≤U:=oL _ _;refine cC ?_ k2;rw[fE];refine mT _ ?_;rw[show j+m=m+j by omega,qU,←fE];exact eG _ k1
theorem YV{U V P q X:Nat}(hV:0<V*P)(h:X+q*V*P=U)(hle:U/(V*P)≤q):q=U/(V*P)∧X<V*P:=by
 have h1:=jU U (V*P);have h2:=fW U hV;have h3:q≤U/(V*P):=by rw[D6 hV,←fE];omega
 have h4:q=U/(V*P):=by omega
 refine⟨h4,?_⟩;rw[←h4,cK,←fE]at h1;omega
theorem it{U V P W q X cc:Nat}(hV:0<V*P)(h:X+q*V*P=U+cc*W)(hX:X<W)(hc:0<cc):U/(V*P)<q:=by
 rw[wL hV,←fE];have:W≤cc*W:=Nat.le_mul_of_pos_left _ hc;omega
theorem Pr{U T X c2 cc W:Nat}(h1:X+c2*W=T)(h2:T=U+cc*W)(hX:X<W)(hU:U<W):X=U:=by
 have h:=h1.trans h2;have h3:=congrArg (·%W) h;simp only[Nat.add_mul_mod_self_right]at h3;rwa[fU hX,fU hU]at h3
theorem St{B:Nat}(hB:1≤B)(xs:List Nat)(hx:∀x∈xs,x<B)(k:Nat)(h:∀i,k≤i→xs.getD i 0=0):bS B xs<B^k:=by
 rcases fC k xs.length with hk|hk
 ·rw[nQ B xs k (by omega)];have:bS B (xs.drop k)=0:=by
   have hz:xs.drop k=List.replicate (xs.length-k) 0:=by
    apply List.ext_getElem
    ·simp
    ·intro i h1 h2;simp only[List.length_drop]at h1;have:=h (k+i) (by omega);rw[List.getD_eq_getElem?_getD,List.getElem?_eq_getElem (by omega)]at this;simpa using this
   rw[hz,Bn]
  rw[this,Eg,Bj];exact xB hB hx k
 ·exact bQ (zV hB xs hx) (bN hB hk)
theorem YW{B:Nat}(qs:List Nat)(j Q U X V U0:Nat)(hj:j<qs.length)(h:U+V*bS B (qs.drop (j+1))*B^(j+1)=U0)(hX:X+Q*V*B^j=U):
 X+V*bS B ((qs.set j Q).drop j)*B^j=U0:=by
 have h1:=fO B (qs.set j Q) j (by rw[List.length_set];exact hj);rw[Ak _ _ _ hj]at h1;have h2:(qs.set j Q).drop (j+1)=qs.drop (j+1):=by
  rw[List.drop_set];simp
 rw[h2]at h1;rw[h1,←h,←hX,dN,fY,gU];have e1:V*Q*B^j=Q*V*B^j:=by rw[cK V Q]
 have e2:V*(B*bS B (qs.drop (j+1)))*B^j=V*bS B (qs.drop (j+1))*(B^j*B):=by ac_rfl
 omega
theorem Vn{M N f U Q:Nat}(hf:0<f)(h:U+N*f*Q=M*f)(hU:U<N*f):Q=M/N∧U=M%N*f:=by
 have hN:0<N:=by
  rcases jL N with h0|h0
  ·subst h0;simp at hU
  ·exact h0
 have h1:=OT (d:=N*f) (m:=M*f) (q:=Q) (r:=U) hU (by rw[cK Q];omega);rw[Nat.mul_div_mul_right _ _ hf,Nat.mul_mod_mul_right]at h1;exact h1
theorem Ps{B N n t:Nat}(hB:2≤B)(hn:(bM B N).length=n)(h1:1≤n)(ht:(bM B N).getD (n-1) 0=t):
 0<t∧t<B∧0<B/(t+1)∧B/(t+1)<B∧(bM B (N*(B/(t+1)))).length=n:=by
 have lE:bM B N≠[]:=by intro e;rw[e]at hn;simp at hn;omega
 have ht0:t≠0:=by have:=EO hB N lE;rw[hn]at this;rwa[ht]at this
 have htB:t<B:=by rw[←ht];exact eJ (eA hB N) (by omega) _
 have hf0:0<B/(t+1):=Nat.div_pos (by omega) (by omega);have hN0:N≠0:=fun e=>lE ((eB hB).2 e);have OV:N/B^(n-1)=t:=by
  have h:=pS hB N (n-1);rw[ht]at h;have hlt:=cS hB N;rw[hn,show n=n-1+1 by omega,dN]at hlt;have:N/B^(n-1)<B:=by rw[wL (EJ (by omega)),cK];exact hlt
  rw[fU this]at h;exact h.symm
 have OU:N<(t+1)*B^(n-1):=by
  have:=jU N (B^(n-1));have h3:=fW N (EJ (n:=n-1) (show 0<B by omega));rw[OV,cK]at this;rw[gU,Ah];omega
 have hup:N*(B/(t+1))<B^n:=by
  have k1:N*(B/(t+1))<(t+1)*B^(n-1)*(B/(t+1)):=Ns OU hf0;have k2:(t+1)*B^(n-1)*(B/(t+1))=B^(n-1)*(B/(t+1)*(t+1)):=by ac_rfl
  have k3:B^(n-1)*(B/(t+1)*(t+1))≤B^(n-1)*B:=mT _ (oL _ _);rw[show n=n-1+1 by omega,dN];omega
 refine⟨by omega,htB,hf0,Nat.div_lt_self (by omega) (by omega),?_⟩;refine Nat.le_antisymm (fD hB hup) ?_;rw[←hn];exact eP hB (Nat.le_mul_of_pos_right _ hf0)
theorem iu{B A V n nu:Nat}(hB:2≤B)(hA:(bM B A).length+1≤nu)(hV:(bM B V).length=n)(hn:1≤n)(hle:n≤nu):A<V*B^(nu-n):=by
 have h1:=cS hB A;have hV0:V≠0:=by rintro rfl;rw[dO]at hV;simp at hV;omega
 have h2:=J0 hB hV0;rw[hV]at h2;have h3:B^(bM B A).length≤B^(nu-1):=bN (by omega) (by omega);have h4:B^(n-1)*B^(nu-n)≤V*B^(nu-n):=eG _ h2;rw[←qU,show n-1+(nu-n)=nu-1 by omega]at h4;omega
end
section
open Go Go.RowKit Go.Shelf
section
attribute[local go_sem] mD
theorem nR.nil(w:aE)(B:Nat):nR w (aB none 0 0) B 0:=
 ⟨none,0,0,rfl,by rw[dO];rfl,aD _,bR _,fun _=>rfl,by rw[dO];exact Rd.nil _ _⟩
theorem Cd.neg{v:Int}{M N:Nat}(h:Cd v M N)(hl:M<N):v<0:=h.1.2 hl
theorem Cd.ge{v:Int}{M N:Nat}(h:Cd v M N)(hl:¬M<N):¬v<0:=fun e=>hl (h.1.1 e)
theorem Kh(v1 v2:bB)(M N:Nat)(w:aE)(h1:nR w v1 PB M)(h2:nR w v2 PB N)(hM:(bM PB M).length≤1000)(hN:(bM PB N).length≤1000)(hlt:M<N):
 aQ aC 205 #[v1,v2] w fun e w'=>∃v u,e=aO (.tuple #[v,u])∧nR w' v PB (M/N)∧nR w' u PB (M%N)∧aJ w.heap.size w w':=by
 have hc:=fun W hb=>wC v1 v2 M N W (h1.below (w':=W) hb) (h2.below hb) hM hN;have Hc:=zq hc;clear hc;have H1:=zq h1;clear h1 h2;have Hl:=zq hlt;clear hlt hM hN;have Z0:=zq (bZ.new w #[aB none 0 0] 179);refine jT func205 rfl ?_;simp only[ntmps205,gA,cO,eW,jX,jY,eR,eT,gC,fJ,iC,fX];go_wp2_with fail
 refine(Hc.out _ ((aI _ _).alloc (aD _) _)).mono ?_;rintro e w1⟨⟨v,rfl,hv⟩,hb1⟩;have hvl:=hv.neg Hl.out;have zq1:bZ w1 w.heap.size #[aB none 0 0] 179:=Z0.out.below hb1 (by simp);have k1:=zq1.cell 0;have k2:=zq1.fz 0;simp only[bJ,bD]at k1;have HB:Hid (aJ w.heap.size w w1):=((aI _ _).alloc (aD _) _).trans (hb1.mono (by simp));have Hzq:=zq zq1;clear hb1 hv Z0 zq1;go_wp2;refine⟨_,gI vh _ _ w.heap.size (aB none 0 0) rfl ((Hzq.out.set 0 (aB none 0 0)).cell 0) (tC _),_,_,rfl,?_,?_,?_⟩
 ·rw[oU Hl.out];exact nR.nil _ _
 ·rw[fU Hl.out];have h1:=H1.out.below HB.out;have eQ:=Below.setCell (p:=⟨w.heap.size,0,none⟩) (aI w.heap.size w1) (aD _) (aB none 0 0);exact H1.out.below (HB.out.trans eQ)
 ·exact HB.out.setCell (p:=⟨w.heap.size,0,none⟩) (aD _) _
theorem BL{N:Nat}(h:(bM PB N).length=1):bM PB N=[N]∧0<N∧N<PB:=by
 have lE:N≠0:=by rintro rfl;rw[dO]at h;simp at h
 have hlt:=cS cR N;rw[h,Nat.pow_one]at hlt;refine⟨?_,by omega,hlt⟩;rw[nO cR lE,fU hlt,oU hlt,dO]
theorem LM(v1 v2:bB)(M N:Nat)(w:aE)(h1:nR w v1 PB M)(h2:nR w v2 PB N)(hM:(bM PB M).length≤1000)(hN:(bM PB N).length=1)(hlt:¬M<N):
 aQ aC 205 #[v1,v2] w fun e w'=>∃v u,e=aO (.tuple #[v,u])∧nR w' v PB (M/N)∧nR w' u PB (M%N)∧aJ w.heap.size w w':=by
 have hc:=fun W hb=>wC v1 v2 M N W (h1.below (w':=W) hb) (h2.below hb) hM (by omega);have Hc:=zq hc;clear hc;have hs:=fun(W:aE)(hb:aJ w.heap.size w W)=>N3 v1 M N W (h1.below hb) hM (BL hN).2.1 (BL hN).2.2;have Hs:=zq hs;clear hs;obtain⟨a2,n2,c2,rfl,q1,q2,q3,q4,q5⟩:=h2;rw[hN]at q1;obtain rfl:n2=1:=q1.symm;rw[(BL hN).1]at q5;obtain⟨b2,o2,rfl,pT⟩:=q5 0 (by simp);simp only[Bj,List.getD_cons_zero]at pT;have hlt2:=bF w _ pT;have iw:=zq pT;have Hl:=zq hlt;clear hlt hM hN h1 pT q2 q3 q4;have Z0:=zq (bZ.new w #[aB none 0 0] 179);refine jT func205 rfl ?_;simp only[ntmps205,gA,cO,eW,jX,jY,eR,eT,gC,fJ,iC,fX];go_wp2_with fail
 refine(Hc.out _ ((aI _ _).alloc (aD _) _)).mono ?_;rintro e w1⟨⟨v,rfl,hv⟩,hb1⟩;have hvl:=hv.ge Hl.out;have zq1:bZ w1 w.heap.size #[aB none 0 0] 179:=Z0.out.below hb1 (by simp);have gG:aJ w.heap.size w w1:=((aI _ _).alloc (aD _) _).trans (hb1.mono (by simp));have pT:w1.cell? ⟨b2,o2,none⟩=some (iv N):=(gG.cell (p:=⟨b2,o2,none⟩) hlt2).trans iw.out;have Hzq:=zq zq1;have HB:=zq gG;clear hb1 hv Z0 zq1 gG;go_wp2_with fail
 refine(Hs.out _ HB.out).mono ?_;rintro e w2⟨x,y,rfl,ox,oy,hb2⟩;have zq2:bZ w2 w.heap.size #[aB none 0 0] 179:=Hzq.out.below hb2 Hzq.out.lt;have k1:=zq2.cell 0;have k2:=zq2.fz 0;simp only[bJ,bD]at k1;have Hzq2:=zq zq2;have oB:=HB.out.size;have hlt1:=Hzq.out.lt;have gD:Hid (aJ w.heap.size w w2):=HB.out.trans (hb2.mono oB);obtain⟨gx,nx,cx,rfl,oxr⟩:=ox;have Hox:Hid (mI w2 w1.heap.size (aB (some ⟨gx,0,none⟩) nx cx) PB (M/N)):=⟨gx,nx,cx,rfl,oxr⟩;have Hoy:=zq oy;clear hb2 zq2 oxr oy oB pT;go_wp2;refine⟨_,gI vh _ _ w.heap.size _ rfl ((Hzq2.out.set 0 _).cell 0) (tC _),_,_,rfl,?_,?_,?_⟩
 ·exact(Hox.out.set_other (a:=⟨w.heap.size,0,none⟩) hlt1 _).inL
 ·exact(Hoy.out.set_other (a:=⟨w.heap.size,0,none⟩) hlt1 _).inL
 ·exact gD.out.setCell (p:=⟨w.heap.size,0,none⟩) (aD _) _
end
end
section
open Go Go.RowKit
section
def SeqK(F:Fence)(n:Nat)(P:X6)(gf:Nat)(lb:Array bB)(nV:Nat→Array bB)(Kp:Nat→aE→aE→Prop)(N:Nat)(w:aE):Prop:=
 ∀(l:Nat)(J Jx:Nat→aE→Prop)(W:aE),aJ w.heap.size w W→
  (∀k V,k<N→J k V→YieldAt F (n-1) P l (nV k) V fun e V'=>(e=aO (aM true)∧J (k+1) V'∧Kp k V V')∨(e=aO (aM false)∧Jx (k+1) V'))→
  J 0 W→CallsIn F n P gf (#[.func (.yield l) #[] #[]]++lb) W fun e W'=>(∃v,e=aO v)∧(J N W'∨∃k,k≤N∧Jx k W')
variable{F:Fence}{n:Nat}{P:X6}
theorem Pu{g:Operand}{ps:Array Tmp}{assign body:Cz}{Q:Exit→Act→aE→Prop}{a:Act}{w:aE}
 (Ig:F.round=none)(h1:1≤n){gf:Nat}{lb:Array bB}(hg:a.eval g=.func (.func gf) #[] lb)(xm:F.fn gf)(eg:∀args w,(callFunc gf args).run P w=.ok (.enter gf args) w)
 {nV:Nat→Array bB}{Kp:Nat→aE→aE→Prop}{N:Nat}{w0:aE}(BF:SeqK F (n-1) P gf lb nV Kp N w0)(hb0:aJ w0.heap.size w0 w)
 (Kd:∀{k:Nat} {A B C:aE},Kp k A B→Kp k B C→Kp k A C)(KD:∀(k:Nat)(W:aE)(l:Nat)(o o':Obj),w.heap.size≤l→W.heap[l]? =some o→o.isCells=false→o.isWalk=false→Kp k W (W.putObj l o'))(rV:∀k,(nV k).size=ps.size)
 (I:Nat→aE→Prop)(Ix:Cz→Nat→aE→Prop)(hI:Bd w.heap.size I)(DP:∀c,Bd w.heap.size (Ix c))(h0:I 0 w)(vE:Nat→Act)
 (kW:∀(l:Nat)(k:Nat)(W:aE)(K:Act→aE→Prop),K (vE k) W→
  assign.wpIn (F.inRound l) (n-1-1) P (Exit.then K (fun _ _ _=>False)) {tmps:=(ps.zip (nV k)).foldl (fun t(p,v)=>t.setIfInBounds p v) a.tmps,defers:=[]} W)
 (tS:∀(l:Nat)(k:Nat)(W:aE),k<N→I k W→body.wpIn (F.inRound l) (n-1-1) P (sM w.heap.size (Kp k) I Ix (k+1) W) (vE k) W)
 (pV:∀(D:Nat)(W:aE),w.heap.size≤D→I N W→W.heap[D]? =some (.deferred (some []))→Q .normal {a with defers:={target:=.collected D,args:= #[]}::a.defers} W)
 (tT:∀(D:Nat)(c:Cz)(k:Nat)(W:aE),w.heap.size≤D→k≤N→Ix c k W→W.heap[D]? =some (.deferred (some []))→c.wpIn F n P Q {a with defers:={target:=.collected D,args:= #[]}::a.defers} W):
 (BZ g ps assign body).wpIn F n P Q a w:=by
 refine wpIn_rangeFunc ?_
 intro fn YQ
 rw[Ig]
 have hD:=nL w (.deferred (some []))
 obtain⟨V,hV⟩:∃V,(w.alloc (.deferred (some []))).alloc (.loop (dP fn a ps assign body w.heap.size .ready none))=V:=⟨_,rfl⟩
 have kD:V.heap[w.heap.size]? =some (.deferred (some [])):=by rw[←hV];exact(Below.heap_alloc _ _ _ (by simp)).trans hD
 have kL:V.heap[w.heap.size+1]? =some (.loop (dP fn a ps assign body w.heap.size .ready none)):=by
  rw[←hV]
  have:=nL (w.alloc (.deferred (some []))) (.loop (dP fn a ps assign body w.heap.size .ready none))
  rwa[World.size_alloc]at this
 have kI:I 0 V:=by rw[←hV];exact hI.alloc _ (hI.alloc _ h0)
 have kB:aJ w0.heap.size w0 V:=by
  rw[←hV];exact hb0.trans ((((aI _ w).alloc (aD _) _).alloc (by simp) _).mono hb0.size)
 refine⟨w.heap.size+1,[{target:=.collected w.heap.size,args:= #[]}],V,{target:=.fn (.func gf) lb,args:= #[.func (.yield (w.heap.size+1)) #[] #[]]},V,gf,
  #[.func (.yield (w.heap.size+1)) #[] #[]]++lb,V,?_,?_,?_,?_,fun _=>h1,?_⟩
 ·rw[←hV];exact run_enterLoop_outer _ _ _ _ _
 ·simp only[resolve,hg]
  simp[go_sem]
 ·intro f hf
  simp[Target.leads]at hf
  subst hf;exact xm
 ·simp[invoke,go_sem,eg]
 ·have yR:=BF (w.heap.size+1)
   (fun k W=>I k W∧W.heap[w.heap.size+1]? =some (.loop (dP fn a ps assign body w.heap.size .ready none))∧W.heap[w.heap.size]? =some (.deferred (some [])))
   (fun k W=>∃c,Ix c k W∧W.heap[w.heap.size+1]? =some (.loop (dP fn a ps assign body w.heap.size .done (some c)))∧W.heap[w.heap.size]? =some (.deferred (some [])))
   V kB ?round ⟨kI,kL,kD⟩
  case round=>
   rintro k W hk⟨hi,hl,hd⟩
   have hlt:w.heap.size+1<W.heap.size:=(Array.getElem?_eq_some_iff.1 hl).1
   have hy:=run_yield (P:=P) (args:=nV k) hl (by exact rV k)
   refine⟨fn,_,assign,body,hy,roundIn_of_wpIn YQ (kW _ k W _ ⟨_,run_beginRound hl rfl,?_⟩)⟩
   obtain⟨U,hU⟩:∃U,W.putObj (w.heap.size+1) (.loop (dP fn a ps assign body w.heap.size .busy none))=U:=⟨_,rfl⟩
   have uL:U.heap[w.heap.size+1]? =some (.loop (dP fn a ps assign body w.heap.size .busy none)):=by rw[←hU];exact mA hlt
   have uD:U.heap[w.heap.size]? =some (.deferred (some [])):=by rw[←hU];exact(cH (by omega)).trans hd
   have uK:Kp k W U:=by rw[←hU];exact KD _ _ _ _ _ (by omega) hl rfl rfl
   have uI:I k U:=by rw[←hU];exact hI.putObj _ hi (by omega) hl rfl
   have GA:∀(j:Option Cz)(X:aE),kC w.heap.size U X→
    X.heap[w.heap.size+1]? =some (.loop (dP fn a ps assign body w.heap.size .busy none))∧
    (Instr.endRound (w.heap.size+1) j).run P X=.ok (aM j.isNone) (X.putObj (w.heap.size+1) (.loop (dP fn a ps assign body w.heap.size (if j.isNone then .ready else .done) j)))∧
    (X.putObj (w.heap.size+1) (.loop (dP fn a ps assign body w.heap.size (if j.isNone then .ready else .done) j))).heap[w.heap.size+1]? =some (.loop (dP fn a ps assign body w.heap.size (if j.isNone then .ready else .done) j))∧
    (X.putObj (w.heap.size+1) (.loop (dP fn a ps assign body w.heap.size (if j.isNone then .ready else .done) j))).heap[w.heap.size]? =some (.deferred (some [])):=by
    intro j X hX
    have xL:=hX.same _ _ (by omega) uL rfl
    exact⟨xL,run_endRound (P:=P) j xL,mA (Array.getElem?_eq_some_iff.1 xL).1,(cH (by omega)).trans (hX.same _ _ (aD _) uD rfl)⟩
   show Code.wpIn _ _ _ _ _ _ (W.putObj (w.heap.size+1) (.loop (dP fn a ps assign body w.heap.size .busy none)))
   rw[hU]
   refine wpIn_mono (tS _ k U hk uI) ?_
   intro e a3 X hp
   have BG:∀c:Cz,kC w.heap.size U X∧Ix c (k+1) X→_:=fun c hc=>(GA (some c) X hc.1)
   cases e with
   |normal=>
    obtain⟨xL,xr,yL,yD⟩:=GA none X hp.1
    exact⟨_,_,xr,.inl ⟨rfl,⟨hI.putObj _ hp.2.2 (by omega) xL rfl,yL,yD⟩,Kd (Kd uK hp.2.1) (KD _ _ _ _ _ (by omega) xL rfl rfl)⟩⟩
   |ret=>
    obtain⟨xL,xr,yL,yD⟩:=BG .ret hp
    exact⟨_,_,xr,.inr ⟨rfl,.ret,(DP _).putObj _ hp.2 (by omega) xL rfl,yL,yD⟩⟩
   |exit id=>
    obtain⟨xL,xr,yL,yD⟩:=BG (.exit id) hp
    exact⟨_,_,xr,.inr ⟨rfl,.exit id,(DP _).putObj _ hp.2 (by omega) xL rfl,yL,yD⟩⟩
   |goto t=>
    obtain⟨xL,xr,yL,yD⟩:=BG (.goto t) hp
    exact⟨_,_,xr,.inr ⟨rfl,.goto t,(DP _).putObj _ hp.2 (by omega) xL rfl,yL,yD⟩⟩
   |panic ch=>exact hp.elim
   |outgrown=>exact hp.elim
  refine yR.mono ?_
  rintro e W2⟨⟨v,rfl⟩,(⟨hi,hl,hd⟩|⟨k,hk,c,hi,hl,hd⟩)⟩
  ·exact⟨none,_,run_endLoop (P:=P) hl (by simp[dP]),pV _ _ (aD _) (hI.putObj _ hi (by omega) hl rfl) ((cH (by omega)).trans hd)⟩
  ·exact⟨some c,_,run_endLoop (P:=P) hl (by simp[dP]),tT _ c k _ (aD _) hk ((DP c).putObj _ hi (by omega) hl rfl) ((cH (by omega)).trans hd)⟩
end
end
section
open Go Go.RowKit Go.Shelf
section
attribute[local go_sem] mD
variable{P:X6}
theorem Vo{g:Operand}{ps:Array Tmp}{assign body:Cz}{Q:Exit→Act→aE→Prop}{a:Act}{w:aE}
 {gf:Nat}{lb:Array bB}(hg:a.eval g=.func (.func gf) #[] lb)(eg:∀args w,(callFunc gf args).run P w=.ok (.enter gf args) w)
 {nV:Nat→Array bB}{Kp:Nat→aE→aE→Prop}{N:Nat}(BF:SeqK dW 8 P gf lb nV Kp N w)
 (Kd:∀{k:Nat} {A B C:aE},Kp k A B→Kp k B C→Kp k A C)(KD:∀(k:Nat)(W:aE)(l:Nat)(o o':Obj),w.heap.size≤l→W.heap[l]? =some o→o.isCells=false→o.isWalk=false→Kp k W (W.putObj l o'))(rV:∀k,(nV k).size=ps.size)
 (I:Nat→aE→Prop)(Ix:Cz→Nat→aE→Prop)(hI:Bd w.heap.size I)(DP:∀c,Bd w.heap.size (Ix c))(h0:I 0 w)(vE:Nat→Act)
 (kW:∀(l:Nat)(k:Nat)(W:aE)(K:Act→aE→Prop),K (vE k) W→
  assign.wpIn (Fence.wide.inRound l) 7 P (Exit.then K (fun _ _ _=>False)) {tmps:=(ps.zip (nV k)).foldl (fun t(p,v)=>t.setIfInBounds p v) a.tmps,defers:=[]} W)
 (tS:∀(l:Nat)(k:Nat)(W:aE),k<N→I k W→body.wpIn (Fence.wide.inRound l) 7 P (sM w.heap.size (Kp k) I Ix (k+1) W) (vE k) W)
 (pV:∀(D:Nat)(W:aE),w.heap.size≤D→I N W→W.heap[D]? =some (.deferred (some []))→Q .normal {a with defers:={target:=.collected D,args:= #[]}::a.defers} W)
 (tT:∀(D:Nat)(c:Cz)(k:Nat)(W:aE),w.heap.size≤D→k≤N→Ix c k W→W.heap[D]? =some (.deferred (some []))→c.wp P Q {a with defers:={target:=.collected D,args:= #[]}::a.defers} W):
 (BZ g ps assign body).wp P Q a w:=
 (wpIn_wide (n:=9)).1 (Pu (F:=dW) rfl (by decide) hg trivial eg BF (aI _ _) Kd KD rV I Ix hI DP h0 vE kW tS pV (fun D c k W h1 h2 h3 h4=>wpIn_wide.2 (tT D c k W h1 h2 h3 h4)))
def yS(Bs:Nat)(a:Option dE)(len k:Nat)(A B:aE):Prop:=
 B.cell? ⟨Bs,0,none⟩=A.cell? ⟨Bs,0,none⟩∧∀b off,a=some ⟨b,off,none⟩→∀i,i+1+k<len→B.cell? ⟨b,off+i,none⟩=A.cell? ⟨b,off+i,none⟩
theorem yS.refl(Bs:Nat)(a:Option dE)(len k:Nat)(W:aE):yS Bs a len k W W:=⟨rfl,fun _ _ _ _ _=>rfl⟩
theorem yS.trans{Bs:Nat}{a:Option dE}{len k:Nat}{A B C:aE}(h:yS Bs a len k A B)(g:yS Bs a len k B C):yS Bs a len k A C:=
 ⟨g.1.trans h.1,fun b off e i hi=>(g.2 b off e i hi).trans (h.2 b off e i hi)⟩
theorem yS.putObj{Bs:Nat}{a:Option dE}{len:Nat}{w:aE}(hB:Bs<w.heap.size)(ha:∀p,a=some p→p.block<w.heap.size)(k:Nat)(W:aE)(l:Nat)(o o':Obj)(hl:w.heap.size≤l)(_:W.heap[l]? =some o)(_:o.isCells=false)(_:o.isWalk=false):yS Bs a len k W (W.putObj l o'):=
 ⟨jW (cH (by show Bs≠l;omega)),fun b off e i _=>jW (cH (by have h9:b<w.heap.size:=ha _ e;show b≠l;omega))⟩
theorem Vp(F:Fence)(n:Nat)(h7:F.fn 289)(Ig:F.round=none)(hn:1≤n)(Bs:Nat)(a:Option dE)(len cap:Nat)(xs:List Nat)(hxl:xs.length=len)(ii:len≤2147483648)(w:aE)
 (hBs:w.cell? ⟨Bs,0,none⟩=some (aB a len cap))(hc:Rd w a xs):
 SeqK F n aC 289 #[.pointer (some ⟨Bs,0,none⟩)] (xt xs) (yS Bs a len) len w:=by
 intro l J Jx W hW hY h0;have hBs:=(hW.cell (p:=⟨Bs,0,none⟩) (bF w _ hBs)).trans hBs;have hc:=hc.below hW;have J5:=zq hxl;clear hxl;have Hc:=zq hc;clear hc;clear hW;refine callsIn_of_wp func289 rfl h7 ?_ Ig;simp only[ntmps289,gA,cO,eW,jX,jY,eR,eT,gC,fJ,iC,fX];gi_wp2;gi_loopw [3] (fun i wr=>∃k:Nat,k≤len∧i=aF aG ((len:Int)-1-k)∧J k wr∧yS Bs a (len+1) k W wr)
  (fun i _=>(aK i+1).toNat)
 case atStart=>exact⟨0,bR _,by simp,h0,yS.refl _ _ _ _ _⟩
 case round=>
  obtain⟨k,hk,rfl,ij,KA⟩:=hrel;by_cases hlt:k<len
  ·obtain⟨j,hj⟩:∃j,len-1-k=j:=⟨_,rfl⟩;have hji:(len:Int)-1-k=j:=by omega
   rw[hji];obtain⟨b,off,rfl,zK⟩:=Hc.out j (by rw[J5.out];omega);have YR:=(KA.2 b off rfl j (by omega)).trans zK;have UY:wr.cell? ⟨Bs,0,none⟩=some (aB (some ⟨b,off,none⟩) len cap):=KA.1.trans hBs;obtain⟨fn,tmps,assign,body,hy,hR⟩:=hY k wr hlt ij;simp only[xt,LD J5.out hj,LH J5.out hj rfl]at hy;have Hj:=zq hj;clear hj;generalize xs.getD j 0=X at *;have sv:(j:Int)<len:=by omega
   clear zK hji;gi_wp2;refine hR.mono ?_;rintro e W3 (⟨rfl,QO,hk3⟩|⟨rfl,Vg⟩)
   ·gi_wp2;go_roundw;case rel=>exact⟨k+1,by omega,by have:=Hj.out;congr 1;omega,QO,⟨hk3.1.trans KA.1,fun b' fm e i hi=>(hk3.2 b' fm e i (by omega)).trans (KA.2 b' fm e i (by omega))⟩⟩
    case measure=>have:=Hj.out;simp only[aK];omega
   ·gi_wp2;refine bodyPost_ret (results_none rfl _ _ _) rfl ?_;exact⟨⟨_,rfl⟩,.inr ⟨k+1,by omega,Vg⟩⟩
  ·obtain rfl:k=len:=by omega
   gi_wp2;go_end0;exact⟨⟨_,rfl⟩,.inl ij⟩
end
def Vq(M N f L k:Nat)(os qs:List Nat):Prop:=
 (∀x∈os,x<PB)∧(∀x∈qs,x<PB)∧bS PB os+N*f*bS PB (qs.drop (L-k))*PB^(L-k)=M*f∧bS PB os<N*f*PB^(L-k)
theorem oE.from{g B:Nat}{A C:aE}(h:oE g A C)(hg:g<B):kC B A C:=
 ⟨by rw[h.2.2];exact aD _,fun k o hk ho _=>(h.2.1 k (by omega)).trans ho⟩
structure yT(w W:aE)(B G6 gq L k g4 g nu cap gv n2 cv base:Nat)(qs ys:List Nat)(A:aE):Prop where
 below:aJ w.heap.size w A
 kept:kC B W A
 keepB:yS G6 (some ⟨gq,0,none⟩) L k W A
 bq:bZ A w.heap.size #[aB (some ⟨gq,0,none⟩) L L] 179
 bu:bZ A g4 #[aB (some ⟨g,0,none⟩) nu cap] 179
 bv:bZ A (g4+1) #[aB (some ⟨gv,0,none⟩) n2 cv] 179
 oq:A.ownsRow gq 3 1 (aB (some ⟨gq,0,none⟩) L L) L (qs.map iv)
 ov:A.ownsRow base 3 1 (aB (some ⟨gv,0,none⟩) n2 cv) n2 (ys.map iv)
section
variable{w W A C:aE}{B G6 gq L k g4 g nu cap gv n2 cv base:Nat}{qs ys:List Nat}
theorem JF{w A C:aE}{base e size n c r g:Nat}{xs:List bB}(h:A.ownsRow base e size (aB (some ⟨r,0,none⟩) n c) n xs)(hb:oE g A C)(lE:r≠g):C.ownsRow base e size (aB (some ⟨r,0,none⟩) n c) n xs:=by
 refine⟨h.1,?_⟩;rcases h.2 with⟨h1,_⟩|⟨g',c',D7,hv,h2,hg,h3⟩
 ·simp at h1
 ·injection hv with e1 e2 e3;injection e1 with e1;injection e1 with e1;subst e1 e3;exact .inr ⟨r,c,D7,rfl,h2,(hb.2.1 r lE).trans hg,h3⟩
theorem bZ.but{b:Nat}{cs:Array bB}{T:TypeId}(h:bZ A b cs T)(hb:oE g A C)(lE:b≠g):bZ C b cs T:=(hb.2.1 b lE).trans h
theorem yT.but(h:yT w W B G6 gq L k g4 g nu cap gv n2 cv base qs ys A)(hb:oE g A C)(h1:w.heap.size<g)(h2:g<g4)(h3:g≠gq)(h4:g≠gv)(h5:g≠G6)(h6:g<B):yT w W B G6 gq L k g4 g nu cap gv n2 cv base qs ys C:={
 below:=h.below.trans (hb.1.mono (by omega))
 kept:=h.kept.trans (hb.from h6)
 keepB:=h.keepB.trans ⟨jW (hb.2.1 _ (by show G6≠g;omega)),fun b off e i _=>by cases e;exact jW (hb.2.1 _ (by show gq≠g;omega))⟩
 bq:=h.bq.but hb (by omega)
 bu:=h.bu.but hb (by omega)
 bv:=h.bv.but hb (by omega)
 oq:=JF (w:=w) h.oq hb (by omega)
 ov:=JF (w:=w) h.ov hb (by omega)}
theorem yT.drewN(h:yT w W B G6 gq L k g4 g nu cap gv n2 cv base qs ys A)(n:Nat):yT w W B G6 gq L k g4 g nu cap gv n2 cv base qs ys (A.drewN n):={
 below:=below_drewN h.below n
 kept:=⟨h.kept.size,h.kept.same⟩
 keepB:=h.keepB
 bq:=h.bq
 bu:=h.bu
 bv:=h.bv
 oq:=h.oq
 ov:=h.ov}
theorem yT.set4(h:yT w W B G6 gq L k g4 g nu cap gv n2 cv base qs ys A)(h1:w.heap.size<g4)(h3:g4≠gq)(h4:g4≠gv)(h5:g4≠G6):
 yT w W B G6 gq L k g4 g nu cap gv n2 cv base qs ys (A.setCell ⟨g4,0,none⟩ (aB (some ⟨g,0,none⟩) nu cap)) where
 below:=h.below.setCell (p:=⟨g4,0,none⟩) (by show w.heap.size≤g4;omega) _
 kept:=h.kept.trans ((cE _ _ _).from _)
 keepB:=h.keepB.trans ⟨jW (Dn A ⟨g4,0,none⟩ G6 _ (by show G6≠g4;omega)),fun b off e i _=>by cases e;exact jW (Dn A ⟨g4,0,none⟩ gq _ (by show gq≠g4;omega))⟩
 bq:=h.bq.other _ (by show w.heap.size≠g4;omega)
 bu:=h.bu.set 0 _
 bv:=h.bv.other _ (by show g4+1≠g4;omega)
 oq:=cX h.oq (by show gq≠g4;omega) _
 ov:=cX h.ov (by show gv≠g4;omega) _
end
theorem LN(g nu cap gv n2 cv j base base' V P:Nat)(os ys:List Nat)(w:aE)(ho:w.ownsRow base 3 1 (aB (some ⟨g,0,none⟩) nu cap) nu (os.map iv))(hv:w.ownsRow base' 3 1 (aB (some ⟨gv,0,none⟩) n2 cv) n2 (ys.map iv))
 (M7:∀x∈os,x<PB)(Xl:∀y∈ys,y<PB)(OV:0<ys.getD (n2-1) 0)(h2:2≤n2)(hn:n2≤1000)(bn:nu≤3000)(hj:j+n2<nu)(hV:bS PB ys=V)(hP:PB^j=P)(hU:bS PB os<V*PB^(j+1)):
 aQ aC 259 #[aB (some ⟨g,0,none⟩) nu cap,aB (some ⟨gv,0,none⟩) n2 cv,aF aG j] w fun e w'=>(∃q:Nat,e=aO (iv q)∧q≤999999999∧bS PB os/(V*P)≤q)∧∃nd,w'=w.drewN nd:=by
 subst hV hP;have tk:=iE ho;have Ct:=iE hv;obtain⟨p1,p2,p3,p4,p5⟩:=Xk cR os ys M7 Xl n2 j Ct h2 (by omega) hU;have b1:=eJ M7 (by decide) (j+n2-1);have b0:=eJ M7 (by decide) (j+n2-2);have b2:=eJ Xl (by decide) (n2-1);have b3:=eJ Xl (by decide) (n2-2);unfold PB at b0 b1 b2 b3;have hc:=Pp g 0 nu cap gv 0 n2 cv j _ _ _ _ _ w h2 hn bn hj (by rw[gL];exact lL ho hj) (by rw[gL];exact lL ho (show j+n2-1<nu by omega)) (by rw[gL];exact lL ho (show j+n2-2<nu by omega))
  (by rw[gL];exact lL hv (show n2-1<n2 by omega)) (by rw[gL];exact lL hv (show n2-2<n2 by omega)) p1 (by omega) OV (by omega) (by omega) (by omega)
 refine hc.mono ?_;rintro e w'⟨⟨q,rfl,hq,hQ⟩,nd,rfl⟩;exact⟨⟨q,rfl,hq,hQ _ p4 p5⟩,nd,rfl⟩
theorem Vr(g nu cap gv n2 cv j q base base' V U:Nat)(os ys:List Nat)(w:aE)(ho:w.ownsRow base 3 1 (aB (some ⟨g,0,none⟩) nu cap) nu (os.map iv))(hv:w.ownsRow base' 3 1 (aB (some ⟨gv,0,none⟩) n2 cv) n2 (ys.map iv))
 (M7:∀x∈os,x<PB)(Xl:∀y∈ys,y<PB)(hn:n2≤1000)(bn:nu≤3000)(hj:j+n2<nu)(hV:bS PB ys=V)(hV0:0<V)(hU:bS PB os=U)(yd:U<PB^(j+(n2+1)))(hq:q≤999999999)(hQ:U/(V*PB^j)≤q)(lE:gv≠g):
 aQ aC 260 #[aB (some ⟨g,0,none⟩) nu cap,aB (some ⟨gv,0,none⟩) n2 cv,aF aG j,aF aG q] w fun e w'=>oE g w w'∧
  ∃LO:List Nat,w'.ownsRow base 3 1 (aB (some ⟨g,0,none⟩) nu cap) nu (LO.map iv)∧(∀x∈LO,x<PB)∧
   ((e=aO (aM false)∧bS PB LO+q*V*PB^j=U∧bS PB LO<V*PB^j)∨
    (e=aO (aM true)∧U/(V*PB^j)<q∧(∀i,j+n2+1≤i→LO.getD i 0=0)∧∃cc,bS PB LO+q*V*PB^j=U+cc*PB^(j+(n2+1)))):=by
 subst hV hU;have Ct:=iE hv;have hup:∀i,j+n2+1≤i→os.getD i 0=0:=fun i hi=>Cb (by decide) os (j+(n2+1)) i (by omega) yd;have hVP:0<bS PB ys*PB^j:=Nat.mul_pos hV0 (EJ (by decide));refine(iq g nu cap (some ⟨gv,0,none⟩) cv n2 j q base os ys w ho M7 Ct hn bn (Rd.own hv) Xl (by omega) hq (fun p hp=>by cases hp;exact lE)).mono ?_;rintro e w'⟨hb,LO,cc,rfl,o1,o2,o3,o4⟩;refine⟨hb,LO,o1,o2,?_⟩;have hz:∀i,j+n2+1≤i→LO.getD i 0=0:=fun i hi=>(o3 i hi).trans (hup i hi);by_cases hcc:cc=0
 ·subst hcc;rw[UD,Bj]at o4;exact .inl ⟨by simp,o4,(YV hVP o4 hQ).2⟩
 ·have hX:=St (by decide:1≤PB) LO o2 (j+(n2+1)) (fun i hi=>hz i (by omega));exact .inr ⟨by simp;omega,it hVP o4 hX (by omega),hz,cc,o4⟩
theorem M8(g nu cap gv n2 cv j q cc base base' V U:Nat)(os ys:List Nat)(w:aE)(ho:w.ownsRow base 3 1 (aB (some ⟨g,0,none⟩) nu cap) nu (os.map iv))(hv:w.ownsRow base' 3 1 (aB (some ⟨gv,0,none⟩) n2 cv) n2 (ys.map iv))
 (M7:∀x∈os,x<PB)(Xl:∀y∈ys,y<PB)(hn:n2≤1000)(bn:nu≤3000)(hj:j+n2<nu)(hV:bS PB ys=V)(yd:U<PB^(j+(n2+1)))(hq:q≤999999999)(hz:∀i,j+n2+1≤i→os.getD i 0=0)(hcc:bS PB os+q*V*PB^j=U+cc*PB^(j+(n2+1)))(lE:gv≠g):
 aQ aC 261 #[aB (some ⟨g,0,none⟩) nu cap,aB (some ⟨gv,0,none⟩) n2 cv,aF aG j,aF aG q] w fun e w'=>e=aO (aB (some ⟨g,0,none⟩) nu cap)∧oE g w w'∧
  ∃LO:List Nat,w'.ownsRow base 3 1 (aB (some ⟨g,0,none⟩) nu cap) nu (LO.map iv)∧(∀x∈LO,x<PB)∧bS PB LO=U:=by
 subst hV;have Ct:=iE hv;refine(Ss g nu cap (some ⟨gv,0,none⟩) cv n2 j q base os ys w ho M7 Ct hn bn (Rd.own hv) Xl (by omega) hq (fun p hp=>by cases hp;exact lE)).mono ?_;rintro e w'⟨rfl,hb,LO,c2,o1,o2,o3,o4⟩;have hX:=St (by decide:1≤PB) LO o2 (j+(n2+1)) (fun i hi=>(o3 i (by omega)).trans (hz i (by omega)));exact⟨rfl,hb,LO,o1,o2,Pr o4 hcc hX yd⟩
end
end Go.Proofs.YtcimoodjlopdaaaGreatDoor
