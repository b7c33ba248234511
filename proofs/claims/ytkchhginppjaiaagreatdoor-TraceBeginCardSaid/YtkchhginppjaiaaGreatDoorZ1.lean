import Derived.Test.YtkchhginppjaiaaGreatDoorProg
import Derived.WalkKit
import Derived.WalkSpells
import Derived.WalkLawsBesides
import Derived.RegionTactic
import Derived.ChangeAlike
import Derived.Deep.QuietTactic
import Derived.BigQuiet
import Derived.Lib.Hide
import Derived.Deep.DeepCutAuto
import Derived.Laws.BytesArg
import Derived.RangeFuncBox
import Derived.RangeFuncNested
import Derived.RangeFuncBound
import Derived.RangeFuncCalls
import Derived.RangeFuncLeaves
import Derived.RangeFuncFrom
import Derived.Shelf.Abstract
import Derived.Shelf.RegionOpen
import Derived.OwnWalkIn
import Derived.TacticsInMore
import Derived.LoopNIn
import Derived.LoopIn
import Derived.Deep.RegionHeld3
import Derived.Test.YtkchhginppjaiaaGreatDoorZ0
namespace Go.Proofs.YtkchhginppjaiaaGreatDoor
set_option maxRecDepth 100000
set_option maxHeartbeats 8000000
set_option linter.all false
open Go.Proofs.Tryz
open _root_.Array renaming replicate_succ->cA,replicate_zero->cB,append_empty->Hu
open _root_.Go renaming World->aF,Value->aP,undef->aO,Calls->bE,Addr->cO,Program->dN,TypeId->dT,bodyPost_ret->dU,below_drewN->eF,results->lF,callFunc->rL,grownBy_putObj'->rO,FuncId->BS,run_string_add_lists->Ij
open Go.ByteArray renaming toList_eq->dV
open Go.Ending renaming returned->bA
open Go.Instr renaming lookup->iR,index->Wf
open Go.IntKind renaming i64->aB
open Go.IntWalk renaming i64_in->bI
open Go.KeepsOthers renaming setCell->dG
open Go.Lib renaming decDigits->bZ,itoa->cG
open Go.Obj renaming cells->aN
open Go.Op renaming stringOp->pm
open Go.Oper renaming semAt_some->gM
open Go.OwnFrom renaming and->eO
open Go.Proofs renaming enters_of->mB
open Go.Proofs.Tryz renaming prog->aE,sizeOf126->yB,isAgg126->AU,results150->Ni,ntmps135->RT,ntmps117->RU,ntmps146->RW,func135->VC,ntmps77->VD,func156->VG,func117->VH,func146->VI,func77->YJ
open Go.RowKit renaming intOf->aK,Hid->bK
open Go.RowKit.Below renaming refl->aL,setCell->oF,alloc->rX
open Go.Sem renaming run->eH
open Go.Value renaming string->aA,int->aC,slice->aD,bool->aV,pointer->aY,agg->cF,tuple->cK
open Go.World renaming block_lt_of_cell?->bB,size_alloc->bH,putObj_heap_other->dH
open Go.World.ownsRow renaming cellAt->dZ
open _root_.Int renaming natAbs_natCast->eD,add_zero->lJ,mul_nonneg->nE,mul_le_mul->vO,natCast_mul->wT,natAbs_mul->G9,natCast_ediv->Lh,mul_ne_zero->NH,natAbs_neg->PR
open _root_.List renaming getD_eq_getElem?_getD->aG,length_map->aZ,length_cons->bD,getElem?_eq_getElem->bN,length_nil->bV,size_toArray->cD,append_toArray->cH,cons_append->cJ,push_toArray->cR,nil_append->dF,mem_singleton->eJ
open _root_.Nat renaming le_refl->aH,le_trans->aU,zero_le->bM,zero_add->cC,lt_of_lt_of_le->dC,reduceAdd->dQ,reduceSub->dR,gcd->iA,le_of_lt->jS,lt_of_le_of_lt->jZ,le_succ_of_le->tF,gcd_pos_of_pos_right->Sy
open _root_.Rat renaming intCast_mul->lX,num_intCast->pA,le_of_lt->pR,den_intCast->wU
section
open Go Go.RowKit Go.Lib
theorem Oy(n:Int)(d:Nat)(h1:n.natAbs<10^18)(h2:d<10^18):bK ((∀W,(pm .add (bs (cG n)) {data:= #[47]}).run aE W=.ok (aA (bs (cG n++[47]))) W)∧
 ∀W,(pm .add (bs (cG n++[47])) (bs (cG (d:Int)))).run aE W=.ok (aA (bs (cG n++[47]++cG (d:Int)))) W):=by
 have ln:=xF h1 (by decide);have ld:=wJ h2 (by decide);exact⟨fun W=>Ij W (cG n) [47] (by omega) (by decide),fun W=>Ij W (cG n++[47]) (cG (d:Int)) (by rw[List.length_append];simp only[bD,bV];omega) (by omega)⟩
theorem Ta{x:Rat}(h:x.den=1):bG x=cG x.num:=ip h
theorem Tc{x:Rat}(h:¬x.den=1):bG x=cG x.num++[47]++cG (x.den:Int):=by rw[bG,iN h,uG];simp
theorem Gd(n d:Int)(w:aF)(hE:mN w)(hn:n.natAbs<10^18)(hd:d.natAbs<10^18)(h0:d≠0):
 bE aE 149 #[cF #[aC aB n,aC aB d]] w fun e w'=>e=bA (aA (bs (bG (mkRat (ID n d) d.natAbs))))∧Below w.heap.size w w':=by
 generalize hTT:bs (bG (mkRat (ID n d) d.natAbs))=TT;have HT:=zq hTT;clear hTT;go_enter func149,ntmps149;go_upto_if 8 with fail;go_cut[] (fun w'=>Below w.heap.size w w'∧bT w' w.heap.size #[aC aB (ID n d),iv d.natAbs] 122);case first =>
  by_cases hneg:d<0
  ·have w1:IntKind.i64.wrap (-n)= -n:=bI _ (by omega);have w2:IntKind.i64.wrap (-d)= -d:=bI _ (by omega);have e1:bK (ID n d= -n):=ip hneg;have e2:bK (((d.natAbs:Nat):Int)= -d):=by show _=_;omega
   clear hE hn hd h0;go_wp2;go_meet;case rel=>
    rw[e1.out,show iv d.natAbs=aC aB (-d) by unfold iv;rw[e2.out]];exact⟨(aL _ w).alloc (aH _) _,bT.new w _ _⟩
  ·have e1:bK (ID n d=n):=iN hneg;have e2:bK (((d.natAbs:Nat):Int)=d):=by show _=_;omega
   clear hE hn hd h0;go_wp2;go_meet;case rel=>
    rw[e1.out,show iv d.natAbs=aC aB d by unfold iv;rw[e2.out]];exact⟨(aL _ w).alloc (aH _) _,bT.new w _ _⟩
 case rest=>
  obtain⟨hB,hb⟩:=hcut;have hu:(ID n d).natAbs<10^18:=by unfold ID;split <;>omega
  generalize ID n d=u at *;generalize hV:d.natAbs=v at *;have hv0:v≠0:=by omega
  clear hn h0 hV;obtain⟨q1,q2⟩:=Cx u v hv0;obtain⟨l1,l2⟩:=Al u v hv0;have IF:0<iA u.natAbs v:=Sy _ (by omega);have Hg:=zq (fun W=>Y8 u.natAbs v W (by omega) (by omega));have hdu:((iA u.natAbs v:Nat):Int)∣u:=Int.natAbs_dvd_natAbs.1 (by rw[eD];exact Nat.gcd_dvd_left _ _);generalize iA u.natAbs v=g at *;have e1:u.tdiv (g:Int)=(mkRat u v).num:=by rw[q1];exact Int.tdiv_eq_ediv_of_dvd hdu
  have e2:(v:Int).tdiv (g:Int)=(((mkRat u v).den:Nat):Int):=by rw[q2];exact(Int.tdiv_eq_ediv_of_nonneg (by omega)).trans (Lh _ _).symm
  have e1':u/(g:Int)=(mkRat u v).num:=q1.symm;have e2':(v:Int)/(g:Int)=(((mkRat u v).den:Nat):Int):=by rw[q2];exact(Lh _ _).symm
  have T1:bK (_→TT=_):=fun h=>HT.out.symm.trans (congrArg bs (Ta (x:=mkRat u v) h));have T2:bK (_→TT=_):=fun h=>HT.out.symm.trans (congrArg bs (Tc (x:=mkRat u v) h));clear q1 q2 hdu HT;generalize(mkRat u v).num=N at *;generalize(mkRat u v).den=D at *;have HI1:=zq (fun(W:aF)(hb:Below w.heap.size w W)=>oO N W (hE.below hb) (by omega) (by omega));have wu:=zq (fun(W:aF)(hb:Below w.heap.size w W)=>oO (D:Int) W (hE.below hb) (by omega) (by omega));have c0:=hb.ce 0;have c1:=hb.ce 1;unfold iv at c1 Hg;have q0:((g:Int) !=0)=true:=by rw[bne_iff_ne];omega
  have q4:¬(g:Int)=0:=by omega
  have hmx:max u (-u)=((u.natAbs:Nat):Int):=by omega
  have b1: -999999999999999999≤N:=by omega
  have b2:N≤999999999999999999:=by omega
  have b3:(D:Int)≤999999999999999999:=by omega
  have w1:IntKind.i64.wrap (-u)= -u:=bI _ (by omega);have w2:IntKind.i64.wrap N=N:=bI _ (by omega);have w3:IntKind.i64.wrap (D:Int)=(D:Int):=bI _ (by omega);have CS:=Oy N D (by omega) (by omega);generalize u.natAbs=U at *;clear hE hb hu hd hv0 l1 l2 IF;by_cases h1:D=1
  ·have d1:(((D:Nat):Int)==1)=true:=by rw[h1];rfl
   have R:=zq (T1.out h1);clear h1 T1 T2 CS;go_wp2_with fail
   refine(Hg.out _).mono ?_;rintro e W1⟨rfl,k1,rfl⟩;go_wp2;go_region;go_wp2_with fail
   refine kc (HI1.out _ (eF hB _)) (eF hB _) fun W2 hb2=>?_;go_wp2;go_ret;exact⟨by rw[R.out];rfl,hb2⟩
  ·have d1:(((D:Nat):Int)==1)=false:=by rw[beq_eq_false_iff_ne];omega
   have R:=zq (T2.out h1);obtain⟨c1',de⟩:=CS.out;clear h1 T1 T2 CS;go_wp2_with fail
   refine(Hg.out _).mono ?_;rintro e W1⟨rfl,k1,rfl⟩;go_wp2;go_region;go_wp2_with fail
   refine kc (HI1.out _ (eF hB _)) (eF hB _) fun W2 lM=>?_;go_wp2_with fail
   refine kc (wu.out _ lM) lM fun W3 hb3=>?_;go_wp2;go_ret;exact⟨by rw[R.out];simp,hb3⟩
theorem LB(n:Nat)(s:ByteArray)(w:aF)(e:s.data.toList=bZ n)(hs:s.size≤1000):
 bE aE 235 #[aA s] w fun e w'=>e=bA (aC aB s.size)∧w=w':=by
 obtain⟨BX,h0,hd,-,h48⟩:=Ow (r:=[]) (by rw[e,List.append_nil]) rfl (.inl rfl);rw[bV,Nat.add_zero]at BX;rw[←BX]at hd h48 h0;have e2:1<s.size→((s[0].toNat:Int)==48)=false:=fun h1=>by rw[beq_eq_false_iff_ne];exact fun e=>h48 h1 h0 (by omega)
 have Hd:=zq hd;clear BX e hd h48;go_enter func235,ntmps235;go_wp2;go_loop [3] (fun i=>∃k:Nat,i=aC aB k∧k≤s.size) (fun i=>s.size-(aK i).toNat);case atStart=>exact⟨0,rfl,bM _⟩
 case round=>
  obtain⟨k,rfl,hk⟩:=hrel;by_cases hlt:k<s.size
  ·obtain⟨g48,g57⟩:=Hd.out k hlt hlt;have g48':48≤(s[k].toNat:Int):=by omega
   have g57':(s[k].toNat:Int)≤57:=by omega
   clear g48 g57 e2;go_wp2;go_round;case rel=>exact⟨k+1,by go_num,by omega⟩
   case measure=>simp only[aK];omega
  ·have hk2:k=s.size:=by omega
   subst hk2;by_cases h1:1<s.size
   ·have e2:=e2 h1;go_wp2;go_ret;exact⟨rfl,rfl⟩
   ·clear e2;go_wp2;go_ret;exact⟨rfl,rfl⟩
theorem iG{P:dN}{fn:Func}{p u:Tmp}{ty T:dT}(h:fn.results= #[.cell p ty,.tmp u])(tmps:Array aP)(w:aF)(g:Nat)(x y:aP)
 (hp:tmps.getD p aO=aY (some ⟨g,0,none⟩))(hb:bT w g #[x,y] T)(ha:∀w,(isAgg ty).run P w=.ok true w)(hs:∀w,(sizeOf ty).run P w=.ok 2 w):
 (lF fn tmps).run P w=.ok (cK #[cF #[x,y],tmps.getD u aO]) w:=by
 have Td:tmps[p]?.getD aO=aY (some ⟨g,0,none⟩):=by simpa using hp
 have c0:=hb.ce 0;have c1:=hb.ce 1;simp[lF,h,go_sem,Td,c0,c1,ha,hs]
theorem JF:∀l:List UInt8,Lib.index l [47]=if JE l=true then((nS l).length:Int)else -1
 |[]=>by decide
 |c::l=>by
  have ih:=JF l
  by_cases h:c=47
  ·subst h
   rw[(Cw l).2.2,(Cw l).1]
   simp[Lib.index,List.isPrefixOf]
  ·obtain⟨h1,_,h3⟩:=F7 c l h
   rw[h1,h3]
   have hp:([47]:List UInt8).isPrefixOf (c::l)=false:=by simp[List.isPrefixOf];exact fun e=>h e.symm
   rw[Lib.index,hp,ih]
   by_cases hs:JE l=true
   ·rw[hs];simp
   ·simp[hs]
theorem dh(l:List UInt8):Lib.cut l [47]=(nS l,dS l,JE l):=by
 unfold Lib.cut;rw[JF];by_cases hs:JE l=true
 ·have e:=Lv l hs;rw[hs,ip rfl,ip (by omega),Int.toNat_natCast];generalize nS l=N at *;generalize dS l=D at *;subst e;simp
 ·have e:=F8 l (by simpa using hs);rw[iN hs,iN (by decide),e.1,e.2];simp[hs]
abbrev Nq(x:Rat):aP:=cF #[aA (bs (cG x.num)),aA (bs (cG (x.den:Int)))]
theorem rat_cut(x:Rat)(w:aF)(hE:mN w)(hx:HB 17 17 x):
 bE aE 200 #[aA (bs (bG x))] w fun e w'=>e=bA (cK #[Nq x,aV true])∧Below w.heap.size w w':=by
 have hl:=S9 hx (by decide) (by decide);have HC:=zq (fun(W:aF)(hb:Below w.heap.size w W)=>lib_Cut (bs (bG x)) {data:= #[47]} W (hE.below hb) (by rw[lD];omega));obtain⟨p1,-,-,p2,p3⟩:=EW x;rw[show({data:= #[47]}:ByteArray).data.toList=[47]from rfl,fY,dh,p1]at HC;have HP:=zq (fun W=>Ej (bs (cG x.num)) {data:= #[45]} W);rw[fY,show({data:= #[45]}:ByteArray).data.toList=[45]from rfl,wI,Cy]at HP;have sN:=iD hx.1 (by decide);have sD:=iD hx.2 (by decide);rw[←lD]at sN sD;have HdN:=zq (fun W=>LB x.num.natAbs (bs (bZ x.num.natAbs)) W rfl (by omega));have HdD:=zq (fun W=>LB x.den (bs (bZ x.den)) W rfl (by omega));have zN:decide (x.num<0)=true→((bs (bZ x.num.natAbs)).toList==[48])=false:=fun h=>by
  have:=of_decide_eq_true h;rw[xE,←uG,nZ];exact decide_eq_false (by omega)
 have zD:((bs (bZ x.den)).toList==[48])=false:=by
  rw[xE,←uG,nZ];exact decide_eq_false (by have:=x.den_nz;omega)
 have oD:¬x.den=1→((bs (bZ x.den)).toList==[49])=false:=fun h=>by
  rw[xE,←uG,Ga];exact decide_eq_false h
 have pN:((bs (bZ x.num.natAbs)).size:Int)≠0:=by
  rw[lD];have:=List.length_pos_iff.2 (gS x.num.natAbs);omega
 have pD:((bs (bZ x.den)).size:Int)≠0:=by
  rw[lD];have:=List.length_pos_iff.2 (gS x.den);omega
 have pN:(((bs (bZ x.num.natAbs)).size:Int)==0)=false:=by rw[beq_eq_false_iff_ne];exact pN
 have pD:(((bs (bZ x.den)).size:Int)==0)=false:=by rw[beq_eq_false_iff_ne];exact pD
 have FC:bK (∀W1,Below (w.alloc (aN #[aA {data:= #[]},aA {data:= #[]}] 126)).heap.size (w.alloc (aN #[aA {data:= #[]},aA {data:= #[]}] 126)) W1→
  Below w.heap.size w W1∧bT W1 w.heap.size #[aA {data:= #[]},aA {data:= #[]}] 126):=fun W1 h=>
  ⟨cI ((aL _ w).alloc (aH _) _) h (by simp),(bT.new w _ _).below h (by simp)⟩
 unfold Nq;have e1:x.den=1→cG (x.den:Int)=[49]:=fun h=>by rw[h];exact Qk
 rw[uG]at *;have hdd:x.den=1∨¬x.den=1:=Classical.em _;have P2:bK (x.den=1→JE (bG x)=false):=fun h=>by
  cases hs:JE (bG x)with
  |false=>rfl
  |true=>exact absurd h (p3 hs).2
 have P3:bK (¬x.den=1→JE (bG x)=true∧dS (bG x)=bZ x.den):=fun h=>by
  cases hs:JE (bG x)with
  |false=>exact absurd (p2 hs) h
  |true=>exact⟨rfl,(p3 hs).1⟩
 clear p1 p2 p3 hl hx hE;generalize bs (bG x)=A at *;generalize bs (cG x.num)=B at *;generalize bs (bZ x.num.natAbs)=N at *;generalize decide (x.num<0)=m at *;generalize JE (bG x)=s at *;generalize dS (bG x)=dd at *;generalize bZ x.den=D at *;generalize x.den=dn at *;go_enter func200,ntmps200;go_wp2_with fail
 refine ka (HC.out _ ((aL _ w).alloc (aH _) _)) fun W1 hb1=>?_;obtain⟨hB,hb⟩:=FC.out _ hb1;have tL:=hb.lt;have c0:=hb.ce 0;have c1:=hb.ce 1;have f0:=hb.fz 0;have f1:=hb.fz 1;have JG:=zq hb;clear hb1 hb FC HC;go_wp2_with fail
 refine kr (HP.out _) ?_;go_wp2_with fail
 refine kr (HdN.out _) ?_;rcases hdd with hdd|hdd
 ·have hs:=P2.out hdd;have e1:=e1 hdd;subst hs;clear P2 P3 oD hdd zD pD HdD sD;cases m;case' false=>clear zN
  case' true=>replace zN:=zN rfl
  all_goals
   go_wp2;exact dU (iG (T:=126) Tryz.results200 _ _ w.heap.size _ _ rfl ((JG.out.set 0 _).set 1 _) AU yB) rfl ⟨by rw[e1];rfl,(hB.setCell (aH _) _).setCell (aH _) _⟩
 ·obtain⟨hs,hdT⟩:=P3.out hdd;have oD:=oD hdd;subst hs hdT;clear P2 P3 hdd e1;cases m;case' false=>clear zN
  case' true=>replace zN:=zN rfl
  all_goals
   go_wp2_with fail
   refine kr (HdD.out _) ?_;go_wp2;exact dU (iG (T:=126) Tryz.results200 _ _ w.heap.size _ _ rfl ((JG.out.set 0 _).set 1 _) AU yB) rfl ⟨rfl,(hB.setCell (aH _) _).setCell (aH _) _⟩
theorem Ao(x:Rat)(w:aF)(hE:mN w)(hx:HB 17 17 x):
 bE aE 150 #[aA (bs (bG x))] w fun e w'=>e=bA (cK #[Nq x,aC aB 0])∧Below w.heap.size w w':=by
 have Hc:=zq (rat_cut x _ (hE.below ((aL _ w).alloc (aH _) (aN #[aA {data:= #[]},aA {data:= #[]}] 126))) hx);have FC:bK (∀W1,Below (w.alloc (aN #[aA {data:= #[]},aA {data:= #[]}] 126)).heap.size (w.alloc (aN #[aA {data:= #[]},aA {data:= #[]}] 126)) W1→
  Below w.heap.size w W1∧bT W1 w.heap.size #[aA {data:= #[]},aA {data:= #[]}] 126):=fun W1 h=>
  ⟨cI ((aL _ w).alloc (aH _) _) h (by simp),(bT.new w _ _).below h (by simp)⟩
 have Hn:=zq (fun W=>nN x W hx);have HT:=zq (fun W=>sB (bs (cG x.num)) {data:= #[45]} W);rw[fY,show({data:= #[45]}:ByteArray).data.toList=[45]from rfl,wI]at HT;have sN:=iD hx.1 (by decide);have sD:=wJ hx.2 (by decide);rw[←lD]at sN sD;have HG:=zq (fun W(hW:Below w.heap.size w W)=>Y7 x.num x.den W hx.1 hx.dz (hE.below hW));rw[eD,x.reduced]at HG;have e1:(bs (cG ((1:Nat):Int))).toList=[49]:=by rw[dV,fY];exact Qk
 have h1:((bs (cG (x.den:Int))).toList==[49])=decide (x.den=1):=by rw[xE,Ga]
 unfold Nq at *;generalize decide (x.den=1)=one at *;generalize bs (bG x)=A at *;generalize bs (bZ x.num.natAbs)=M at *;generalize bs (cG x.num)=N at *;generalize bs (cG (x.den:Int))=DT at *;generalize bs (cG ((1:Nat):Int))=G at *;clear hE hx;have l1:(M.size:Int)≤300:=by omega
 have l2:(DT.size:Int)≤300:=by omega
 go_enter func150,ntmps150;go_wp2_with fail
 refine ka Hc.out fun W1 hb1=>?_;obtain⟨hB,hb⟩:=FC.out _ hb1;have hlt:=hb.lt;have hq:bT (W1.alloc (aN #[aA N,aA DT] 126)) W1.heap.size #[aA N,aA DT] 126:=bT.new W1 _ _;have hb:=hb.alloc (aN #[aA N,aA DT] 126);have hB:=hB.alloc (jS hlt) (aN #[aA N,aA DT] 126);clear hb1 FC Hc;by_cases hQ:Nv x
 ·rw[ip hQ]at Hn;clear hQ HG h1 HT;go_wp2_with fail
  refine ka (Hn.out _) fun W2 hb2=>?_;have JH:=hb2.size;simp only[bH]at JH;have hq:=hq.below hb2 (by simp);have hb:=hb.below hb2 (by simp;omega);have hB:=cI hB hb2 (by simp;omega);have c0:=hb.ce 0;have c1:=hb.ce 1;have f0:=hb.fz 0;have f1:=hb.fz 1;have d0:=hq.ce 0;have d1:=hq.ce 1;have JG:=zq hb;have hlt2:W1.heap.size<W2.heap.size:=by omega
  have hlt3:w.heap.size<W2.heap.size:=by omega
  clear hb2 hq hb JH;go_wp2;exact dU (iG (T:=126) Ni _ _ w.heap.size _ _ rfl (by first |exact(JG.out.set 0 _).set 1 _|exact((JG.out.set 0 _).set 1 _).alloc _) AU yB) rfl ⟨rfl,by repeat(first |exact hB|refine oF ?_ (by exact aH _) _|refine rX ?_ (by simp;omega) _)⟩
 ·rw[iN hQ]at Hn;clear hQ;go_wp2_with fail
  refine ka (Hn.out _) fun W2 hb2=>?_;have JH:=hb2.size;simp only[bH]at JH;have hq:=hq.below hb2 (by simp);have hb:=hb.below hb2 (by simp;omega);have hB:=cI hB hb2 (by simp;omega);have hlt2:W1.heap.size<W2.heap.size:=by omega
  have hlt3:w.heap.size<W2.heap.size:=by omega
  have c0:=hb.ce 0;have c1:=hb.ce 1;have f0:=hb.fz 0;have f1:=hb.fz 1;have d0:=hq.ce 0;have d1:=hq.ce 1;have JG:=zq hb;have hq':=zq hq;clear hb2 hq JH Hn hb;cases one
  ·go_wp2_with fail
   refine kr (HT.out _) ?_;go_wp2_with fail
   refine ka (HG.out _ (hB.alloc (by omega) _)) fun W4 hb4=>?_;have hs4:=hb4.size;simp only[bH]at hs4;have hb:=(JG.out.alloc _).below hb4 (by simp;omega);have hq:=(hq'.out.alloc _).below hb4 (by simp;omega);have hB:=cI (hB.alloc (by omega) _) hb4 (by simp;omega);have c0:=hb.ce 0;have c1:=hb.ce 1;have f0:=hb.fz 0;have f1:=hb.fz 1;have d0:=hq.ce 0;have d1:=hq.ce 1;have hlt4:w.heap.size<W4.heap.size:=by omega
   replace JG:=zq hb;clear hb hq hb4 hs4 HG;go_wp2;exact dU (iG (T:=126) Ni _ _ w.heap.size _ _ rfl (by first |exact(JG.out.set 0 _).set 1 _|exact((JG.out.set 0 _).set 1 _).alloc _) AU yB) rfl ⟨rfl,by repeat(first |exact hB|refine oF ?_ (by exact aH _) _|refine rX ?_ (by simp;omega) _)⟩
  ·go_wp2_with fail
   refine kr (HT.out _) ?_;go_wp2;exact dU (iG (T:=126) Ni _ _ w.heap.size _ _ rfl (by first |exact(JG.out.set 0 _).set 1 _|exact((JG.out.set 0 _).set 1 _).alloc _) AU yB) rfl ⟨rfl,by repeat(first |exact hB|refine oF ?_ (by exact aH _) _|refine rX ?_ (by simp;omega) _)⟩
theorem IG(x:Rat)(w:aF)(hE:mN w)(hx:HB 17 17 x):
 bE aE 85 #[aA (bs (bG x))] w fun e w'=>e=bA (aC aB 0)∧Below w.heap.size w w':=by
 have Hr:=zq (Ao x w hE hx);unfold Nq at Hr;go_enter func85,ntmps85;go_wp2_with fail
 refine ka Hr.out fun W1 hb1=>?_;go_wp2;go_ret;exact⟨rfl,hb1.alloc hb1.size _⟩
theorem Oz(x:Rat)(w:aF)(hE:mN w)(hx:HB 17 17 x):
 bE aE 121 #[aA (bs (bG x))] w fun e w'=>e=bA (cK #[aA (bs (cG x.num)),aA (bs (cG (x.den:Int))),aC aB 0])∧Below w.heap.size w w':=by
 have Hr:=zq (Ao x w hE hx);unfold Nq at Hr;generalize bs (cG x.num)=N at *;generalize bs (cG (x.den:Int))=D at *;go_enter func121,ntmps121;go_wp2_with fail
 refine ka Hr.out fun W1 hb1=>?_;go_wp2;go_region;go_wp2;go_ret3;exact⟨rfl,eF (hb1.alloc hb1.size _) 1⟩
theorem Ge(z:Int)(w:aF)(hz:z.natAbs<10^17):
 bE aE 135 #[aA (bs (cG z))] w fun e w'=>e=bA (aA (bs (cG (-z))))∧w=w':=by
 have h0:((bs (cG z)).toList==[48])=decide (z=0):=by rw[xE];exact nZ z
 have HP:=zq (fun W=>Ej (bs (cG z)) {data:= #[45]} W);rw[show(bs (cG z)).data.toList=cG z from rfl,show({data:= #[45]}:ByteArray).data.toList=[45]from rfl,Cy,wI]at HP;have ls:=xF hz (by decide);have Hcat:bK (0<z→∀W,(pm .add {data:= #[45]} (bs (cG z))).run aE W=.ok (aA (bs (cG (-z)))) W):=by
  intro h W;have:=Ij (P:=aE) W [45] (cG z) (by decide) (by omega);rw[show[45]++cG z=cG (-z) by rw[xD (n:= -z) (by omega),kN (by omega),PR];rfl]at this;exact this
 by_cases c0:z=0
 ·subst c0;rw[show(-(0:Int))=0 from rfl];clear HP Hcat hz ls;generalize bs (cG 0)=A at *;rw[decide_eq_true rfl]at h0;go_enter VC,RT;go_wp2;go_ret;exact⟨rfl,rfl⟩
 ·rw[decide_eq_false c0]at h0;by_cases cn:z<0
  ·rw[decide_eq_true cn,show bZ z.natAbs=cG (-z) by rw[kN (by omega),PR]]at HP;clear Hcat hz ls c0 cn;generalize bs (cG z)=A at *;generalize bs (cG (-z))=B at *;go_enter VC,RT;go_wp2_with fail
   refine kr (HP.out _) ?_;go_wp2;go_ret;exact⟨rfl,rfl⟩
  ·have hc:=Hcat.out (by omega);rw[decide_eq_false cn]at HP;clear Hcat hz ls c0 cn;generalize bs (cG z)=A at *;generalize bs (cG (-z))=B at *;go_enter VC,RT;go_wp2_with fail
   refine kr (HP.out _) ?_;go_wp2;go_ret;exact⟨rfl,rfl⟩
theorem Bi(x y:Int)(w:aF)(hE:mN w)(hx:x.natAbs<10^17)(hy:y.natAbs<10^17)(h0:y≠0):
 bE aE 65 #[aA (bs (cG x)),aA (bs (cG y))] w fun e w'=>e=bA (cK #[aA (bs (bG (mkRat (ID x y) y.natAbs))),aC aB 0])∧Below w.heap.size w w':=by
 have HP:=zq (fun W=>Ei (bs (cG y)) {data:= #[45]} W);rw[show(bs (cG y)).data.toList=cG y from rfl,show({data:= #[45]}:ByteArray).data.toList=[45]from rfl,Cy]at HP;have LC:=zq (fun W=>Ge x W hx);have Nr:=zq (fun W=>Ge y W hy);obtain⟨X,hX⟩:=nm (bs (cG x));obtain⟨Y,hY⟩:=nm (bs (cG y));rw[hY]at HP;rw[hX]at LC;rw[hY]at Nr;rw[hX,hY];have HX:=zq hX;have HY:=zq hY;clear hX hY;generalize hTT:bs (bG (mkRat (ID x y) y.natAbs))=TT;have HT:=zq hTT;clear hTT;go_enter func65,ntmps65;go_wp2_with fail
 refine kr (HP.out _) ?_;go_upto_if 9 with fail;go_cut[0,1] (fun n d w'=>n=aA (bs (cG (ID x y)))∧d=aA (bs (cG ((y.natAbs:Nat):Int)))∧w=w');case first =>
  by_cases hy0:y<0
  ·have EX:bK (ID x y= -x):=ip hy0;have EY:bK (((y.natAbs:Nat):Int)= -y):=by show _=_;omega
   clear hx hy h0 hE;go_wp2_with fail
   refine kr (LC.out _) ?_;go_wp2_with fail
   refine kr (Nr.out _) ?_;go_wp2;go_meet;case rel=>exact⟨by rw[EX.out],by rw[EY.out],rfl⟩
  ·have EX:bK (ID x y=x):=iN hy0;have EY:bK (((y.natAbs:Nat):Int)=y):=by show _=_;omega
   clear hx hy h0 hE;go_wp2;go_meet;case rel=>exact⟨by rw[EX.out,HX.out],by rw[EY.out,HY.out],rfl⟩
 case rest=>
  obtain⟨rfl,rfl,rfl⟩:=hcut;have hv:y.natAbs≠0:=by omega
  have hu:(ID x y).natAbs<10^17:=by unfold ID;split <;>omega
  clear HX HY hx h0 HP LC Nr;generalize ID x y=u at *;generalize y.natAbs=v at *;have hvz:((v:Nat):Int).natAbs<10^17:=by rw[eD];exact hy
  obtain⟨f1,f2⟩:=Cx u v hv;have IF:0<iA u.natAbs v:=Sy _ (by omega);have hgv:iA u.natAbs v≤v:=Nat.gcd_le_right _ (by omega);have d1:((iA u.natAbs v:Nat):Int)∣u:=Int.natAbs_dvd_natAbs.1 (by rw[eD];exact Nat.gcd_dvd_left _ _);have d2:((iA u.natAbs v:Nat):Int)∣(v:Int):=Int.natCast_dvd_natCast.2 (Nat.gcd_dvd_right _ _);have HG:=zq (Y7 u v w hu hvz hE);rw[eD]at HG;have T1:bK (_→TT=_):=fun h=>HT.out.symm.trans (congrArg bs (Ta (x:=mkRat u v) h));have T2:bK (_→TT=_):=fun h=>HT.out.symm.trans (congrArg bs (Tc (x:=mkRat u v) h));clear HT;obtain⟨l1,l2⟩:=Al u v hv;generalize iA u.natAbs v=g at *;have hgz:((g:Nat):Int).natAbs<10^17:=by rw[eD];exact jZ hgv hy
  have Te:=zq (fun(W:aF)(hb:Below w.heap.size w W)=>LA u g W hu hgz (hE.below hb) (by omega) d1);have NM:=zq (fun(W:aF)(hb:Below w.heap.size w W)=>LA v g W hvz hgz (hE.below hb) (by omega) d2);rw[←f1]at Te;rw[←Lh,←f2]at NM;have h1g:((bs (cG ((g:Nat):Int))).toList==[49])=decide (g=1):=by rw[xE];exact Ga g
  have OA:g=1→u=(mkRat u v).num∧v=(mkRat u v).den:=by
   intro e;rw[e]at f1 f2;exact⟨by rw[f1];exact(Int.ediv_one u).symm,by rw[f2];exact(Nat.div_one v).symm⟩
  generalize(mkRat u v).num=n at *;generalize(mkRat u v).den=d at *;have h1d:((bs (cG ((d:Nat):Int))).toList==[49])=decide (d=1):=by rw[xE];exact Ga d
  have CS:=Oy n d (by omega) (by omega);clear hv hvz hu f1 f2 l1 l2 d1 d2 IF hgv hgz hy hE;have fin:∀c,decide (d=1)=c→if c=true then bK (TT=bs (cG n))else bK (TT=bs (cG n++[47]++cG (d:Int))):=by
   intro c hc;cases c
   ·exact T2.out (of_decide_eq_false hc)
   ·exact T1.out (of_decide_eq_true hc)
  have R:=fin _ rfl;obtain⟨c1,c2⟩:=CS.out;clear fin T1 T2;generalize decide (d=1)=od at *;by_cases hg:g=1
  ·obtain⟨e1,e2⟩:=OA hg;subst e1 e2;rw[decide_eq_true hg]at h1g;clear hg OA Te NM;cases od;all_goals
    go_wp2_with fail
    refine ka HG.out fun W1 hb1=>?_;go_wp2;go_ret2;exact⟨by rw[show TT=_ from R]<;>first |rfl|simp,hb1⟩
  ·rw[decide_eq_false hg]at h1g;clear hg OA;cases od;all_goals
    go_wp2_with fail
    refine ka HG.out fun W1 hb1=>?_;go_wp2_with fail
    refine kc (Te.out _ hb1) hb1 fun W2 lM=>?_;go_wp2_with fail
    refine kc (NM.out _ lM) lM fun W3 hb3=>?_;go_wp2;go_ret2;exact⟨by rw[show TT=_ from R]<;>first |rfl|simp,hb3⟩
theorem Gf(n:Int)(w:aF)(hE:mN w)(hn:n.natAbs<10^18):
 bE aE 23 #[aC aB n,aC aB 1] w fun e w'=>e=bA (cK #[aA (bs (bG (n:Rat))),aC aB 0])∧Below w.heap.size w w':=by
 have Hi:=zq (oO n w hE (by omega) (by omega));have R:bK (bG (n:Rat)=cG n):=by show _=_;rw[bG,ip (wU n),pA]
 clear hE hn;go_enter func23,ntmps23;go_wp2_with fail
 refine ka Hi.out fun W1 hb1=>?_;go_wp2;go_ret2;exact⟨by rw[R.out];rfl,hb1⟩
theorem Y9(n:Int)(d:Nat)(w:aF)(hE:mN w)(hn:n.natAbs<10^17)(hd:0<d)(hd2:d<10^17):
 bE aE 23 #[aC aB n,aC aB d] w fun e w'=>e=bA (cK #[aA (bs (bG (mkRat n d))),aC aB 0])∧Below w.heap.size w w':=by
 by_cases h1:d=1
 ·subst h1;have:=Gf n w hE (by omega);rwa[←Rat.mkRat_one n]at this
 have Hi:=zq (oO n w hE (by omega) (by omega));have Hj:=zq (fun W(hW:Below w.heap.size w W)=>oO (d:Int) W (hE.below hW) (by omega) (by omega));have Hk:=zq (fun W(hW:Below w.heap.size w W)=>Bi n (d:Int) W (hE.below hW) hn (by rw[eD];exact hd2) (by omega));rw[wn]at Hk;have e0:((d:Int)==0)=false:=by rw[beq_eq_false_iff_ne];omega
 have e1:((d:Int)==1)=false:=by rw[beq_eq_false_iff_ne];omega
 clear hE hn hd hd2 h1;go_enter func23,ntmps23;go_wp2_with fail
 refine ka Hi.out fun W1 hb1=>?_;go_wp2_with fail
 refine kc (Hj.out _ hb1) hb1 fun W2 lM=>?_;go_wp2_with fail
 refine kc (Hk.out _ lM) lM fun W3 hb3=>?_;go_wp2;go_ret2;exact⟨rfl,hb3⟩
section
variable(x y:Rat)(w:aF)
theorem vS(f:aP)(hx:HB 17 17 x)(hy:HB 17 17 y)(h:¬(Nv x∧Nv y)):
 bE aE 77 #[aA (bs (bG x)),aA (bs (bG y)),f] w fun e w'=>e=bA (cK #[aA (bs []),aV false])∧Below w.heap.size w w':=by
 have HA:=zq (fun W=>nN x W hx);have HB:=zq (fun W=>nN y W hy);by_cases qa:Nv x
 ·have qb:¬Nv y:=fun c=>h ⟨qa,c⟩;rw[ip qa]at HA;rw[iN qb]at HB;clear h qa qb hx hy;go_enter YJ,VD;go_wp2_with fail
  refine ka (HA.out _) fun W1 hb1=>?_;go_wp2_with fail
  refine kc (HB.out _) (hb1.alloc hb1.size _) fun W2 hB=>?_;go_wp2;go_ret2;exact⟨rfl,hB.alloc hB.size _⟩
 ·rw[iN qa]at HA;clear h qa hx hy HB;go_enter YJ,VD;go_wp2_with fail
  refine ka (HA.out _) fun W1 hb1=>?_;go_wp2;go_ret2;exact⟨rfl,hb1.alloc hb1.size _⟩
theorem tZ(g:BS)(N D:Int)(hE:mN w)(qa:Nv x)(qb:Nv y)
 (eg:∀args w,(rL g args).run aE w=.ok (.enter g args) w)(hN:N.natAbs<10^18)(hD:D.natAbs<10^18)(h0:D≠0)
 (HM:∀W,bE aE g #[cF #[aC aB x.num,aC aB x.den],cF #[aC aB y.num,aC aB y.den]] W fun e w'=>e=bA (cF #[aC aB N,aC aB D])∧Below W.heap.size W w'):
 bE aE 77 #[aA (bs (bG x)),aA (bs (bG y)),.func (.func g) #[] #[]] w fun e w'=>e=bA (cK #[aA (bs (bG (mkRat (ID N D) D.natAbs))),aV true])∧Below w.heap.size w w':=by
 have HA:=zq (fun W=>nN x W (qa.mono (by decide) (by decide)));have HB:=zq (fun W=>nN y W (qb.mono (by decide) (by decide)));rw[ip qa]at HA;rw[ip qb]at HB;have HN:=zq (fun(W:aF)(hb:Below w.heap.size w W)=>Gd N D W (hE.below hb) hN hD h0);have HM:=zq HM;clear hE qa qb hN hD h0;generalize x.num=n1 at *;generalize x.den=d1 at *;generalize y.num=n2 at *;generalize y.den=d2 at *;go_enter YJ,VD;go_wp2_with fail
 refine ka (HA.out _) fun W1 hb1=>?_;have hq1:bT (W1.alloc (aN #[aC aB n1,aC aB d1] 122)) W1.heap.size #[aC aB n1,aC aB d1] 122:=bT.new W1 _ _;go_wp2_with fail
 refine ka (HB.out _) fun W2 hb2=>?_;have JH:=hb2.size;simp only[bH]at JH;have lM:=cI (hb1.alloc hb1.size _) hb2 (by simp;exact tF hb1.size);have hq1:=(hq1.below hb2 (by simp));have c0:=hq1.ce 0;have c1:=hq1.ce 1;have hlt:=hq1.lt;go_wp2_with fail
 refine kc (HM.out _) (lM.alloc lM.size _) fun W3 Dw=>?_;go_wp2_with fail
 refine kc (HN.out _ Dw) Dw fun W4 hb4=>?_;go_wp2;go_ret2;exact⟨rfl,hb4⟩
theorem Gg(g:BS)(lb:Array aP)(S:ByteArray)(c:Int)(hE:mN w)(hx:HB 17 17 x)(hy:HB 17 17 y)
 (eg:∀args w,(rL g args).run aE w=.ok (.enter g args) w)
 (HM:∀W,Below w.heap.size w W→bE aE g (#[Nq x,Nq y]++lb) W fun e w'=>e=bA (cK #[aA S,aC aB c])∧Below W.heap.size W w'):
 bE aE 79 #[aA (bs (bG x)),aA (bs (bG y)),.func (.func g) #[] lb] w fun e w'=>e=bA (cK #[aA S,aC aB c])∧Below w.heap.size w w':=by
 have HA:=zq (Ao x w hE hx);have HB:=zq (fun(W:aF)(h:Below w.heap.size w W)=>Ao y W (hE.below h) hy);have HM:=zq HM;unfold Nq at *;clear hE hx hy;generalize bs (cG x.num)=N1 at *;generalize bs (cG (x.den:Int))=D1 at *;generalize bs (cG y.num)=N2 at *;generalize bs (cG (y.den:Int))=D2 at *;go_enter func79,ntmps79;go_wp2_with fail
 refine ka HA.out fun W1 hb1=>?_;have hq1:bT (W1.alloc (aN #[aA N1,aA D1] 126)) W1.heap.size #[aA N1,aA D1] 126:=bT.new W1 _ _;go_wp2_with fail
 refine ka (HB.out _ (hb1.alloc hb1.size _)) fun W2 hb2=>?_;have JH:=hb2.size;simp only[bH]at JH;have lM:=cI (hb1.alloc hb1.size _) hb2 (by simp;exact tF hb1.size);have hq1:=(hq1.below hb2 (by simp));have c0:=hq1.ce 0;have c1:=hq1.ce 1;have hlt:=hq1.lt;clear hq1 hb1 hb2 JH;go_wp2_with fail
 refine kc (HM.out _ (lM.alloc lM.size _)) (lM.alloc lM.size _) fun W3 hb3=>?_;go_wp2;go_ret2;exact⟨rfl,hb3⟩
end
theorem IH{w W1:aF}{N1 D1 N2 D2:ByteArray}(h:Below ((w.alloc (aN #[aA N1,aA D1] 126)).alloc (aN #[aA N2,aA D2] 126)).heap.size ((w.alloc (aN #[aA N1,aA D1] 126)).alloc (aN #[aA N2,aA D2] 126)) W1):
 Below w.heap.size w W1∧bT W1 w.heap.size #[aA N1,aA D1] 126∧bT W1 (w.heap.size+1) #[aA N2,aA D2] 126:=by
 refine⟨cI (((aL _ w).alloc (aH _) _).alloc (by simp) _) h (by simp;omega),((bT.new w _ _).alloc _).below h (by simp;omega),?_⟩;have:=(bT.new (w.alloc (aN #[aA N1,aA D1] 126)) #[aA N2,aA D2] 126).below h (by simp);rwa[bH]at this
theorem wL(w:aF)(o o':Obj):Below w.heap.size w ((w.alloc o).alloc o'):=((aL _ w).alloc (aH _) _).alloc (by simp) _
def Cr(k a b c d:Nat)(x y:Rat):Prop:=HB a b x∧HB c d y∧0<a∧0<b∧0<c∧0<d∧a+d≤k∧c+b≤k∧b+d≤17
section
variable{k a b c d:Nat}{x y:Rat}
theorem Cr.prods(h:Cr k a b c d x y):(x.num*y.den).natAbs<10^k∧(y.num*x.den).natAbs<10^k∧((x.den:Int)*y.den).natAbs<10^17:=by
 obtain⟨h1,h2,-,-,-,-,e1,e2,e3⟩:=h;exact⟨wZ k (fO h1.1 h2.dz) e1,wZ k (fO h2.1 h1.dz) e2,wZ 17 (fO h1.dz h2.dz) e3⟩
theorem Cr.x17(h:Cr k a b c d x y)(hk:k≤17):HB 17 17 x:=by
 obtain⟨h1,h2,-,-,-,-,e1,e2,e3⟩:=h;exact h1.mono (by omega) (by omega)
theorem Cr.y17(h:Cr k a b c d x y)(hk:k≤17):HB 17 17 y:=by
 obtain⟨h1,h2,-,-,-,-,e1,e2,e3⟩:=h;exact h2.mono (by omega) (by omega)
end
section
variable{k a b c d:Nat}(x y:Rat)(w:aF)(hE:mN w)
include hE
theorem Tf(h:Cr 17 a b c d x y):bE aE 81 #[aA (bs (cG x.num)),aA (bs (cG (y.den:Int)))] w fun e w'=>e=bA (cK #[aA (bs (cG (x.num*y.den))),aC aB 0])∧Below w.heap.size w w':=by
 have hp:=h.prods.1;have hx:=(h.x17 (by decide)).1;have hy:=(h.y17 (by decide)).dz;obtain⟨h1,h2,p1,p2,p3,p4,e1,e2,e3⟩:=h;have l1:=xF h1.1 p1;have l2:=wJ h2.2 p4;exact Ql _ _ w hx hy hE (by omega) (by omega)
theorem wv(h:Cr 17 a b c d x y):bE aE 81 #[aA (bs (cG y.num)),aA (bs (cG (x.den:Int)))] w fun e w'=>e=bA (cK #[aA (bs (cG (y.num*x.den))),aC aB 0])∧Below w.heap.size w w':=
 have⟨h1,h2,p1,p2,p3,p4,e1,e2,e3⟩:=h
 Tf y x w hE ⟨h2,h1,p3,p4,p1,p2,e2,e1,by omega⟩
theorem Tg(h:Cr 17 a b c d x y):bE aE 81 #[aA (bs (cG (x.den:Int))),aA (bs (cG (y.den:Int)))] w fun e w'=>e=bA (cK #[aA (bs (cG ((x.den:Int)*y.den))),aC aB 0])∧Below w.heap.size w w':=by
 have hp:=h.prods.2.2;have hx:=(h.x17 (by decide)).dz;have hy:=(h.y17 (by decide)).dz;obtain⟨h1,h2,p1,p2,p3,p4,e1,e2,e3⟩:=h;have l1:=wJ h1.2 p2;have l2:=wJ h2.2 p4;exact Ql _ _ w hx hy hE (by omega) (by omega)
theorem CA(h:Cr 17 a b c d x y):
 bE aE 89 #[Nq x,Nq y] w fun e w'=>e=bA (cK #[aA (bs (cG (x.num*y.den))),aA (bs (cG (y.num*x.den))),aC aB 0])∧Below w.heap.size w w':=by
 have H1:=zq (fun(W:aF)(hb:Below w.heap.size w W)=>Tf x y W (hE.below hb) h);have H2:=zq (fun(W:aF)(hb:Below w.heap.size w W)=>wv x y W (hE.below hb) h);have tb:= @IH w;have Tb:=zq (fun(W1:aF)=>tb (W1:=W1) (N1:=bs (cG x.num)) (D1:=bs (cG (x.den:Int))) (N2:=bs (cG y.num)) (D2:=bs (cG (y.den:Int))));clear tb h hE;unfold Nq at *;generalize bs (cG (x.num*y.den))=U at *;generalize bs (cG (y.num*x.den))=V at *;generalize bs (cG x.num)=N1 at *;generalize bs (cG (x.den:Int))=D1 at *;generalize bs (cG y.num)=N2 at *;generalize bs (cG (y.den:Int))=D2 at *;go_enter func89,ntmps89;go_wp2_with fail
 refine ka (H1.out _ (wL w _ _)) fun W1 hb1=>?_;obtain⟨hB,p1,p2⟩:=Tb.out _ hb1;have c1:=p1.ce 1;have c0:=p2.ce 0;have l1:=p1.lt;have l2:=p2.lt;clear p1 p2 hb1 Tb;go_wp2_with fail
 refine kc (H2.out _ hB) hB fun W2 hb2=>?_;go_wp2;go_ret3;exact⟨rfl,hb2⟩
theorem ww(hx:HB 17 17 x)(hy:HB 17 17 y)(hl:(cG x.num).length+(cG y.num).length≤18)(hp:(x.num*y.num).natAbs<10^17)(h:Cr 17 a b c d x y):
 bE aE 80 #[Nq x,Nq y] w fun e w'=>e=bA (cK #[aA (bs (bG (x*y))),aC aB 0])∧Below w.heap.size w w':=by
 have H1:=zq (fun(W:aF)(hb:Below w.heap.size w W)=>Ql x.num y.num W hx.1 hy.1 (hE.below hb) hl (by omega));have H2:=zq (fun(W:aF)(hb:Below w.heap.size w W)=>Tg x y W (hE.below hb) h);have hz:(x.den:Int)*y.den≠0:=by rw[←wT];have:=yG x y;omega
 have HN:=zq (fun(W:aF)(hb:Below w.heap.size w W)=>Bi (x.num*y.num) ((x.den:Int)*y.den) W (hE.below hb) hp h.prods.2.2 hz);rw[Gc,IC]at HN;have tb:= @IH w;have Tb:=zq (fun(W1:aF)=>tb (W1:=W1) (N1:=bs (cG x.num)) (D1:=bs (cG (x.den:Int))) (N2:=bs (cG y.num)) (D2:=bs (cG (y.den:Int))));clear tb h hE hz hx hy hl hp;unfold Nq at *;generalize bs (cG (x.num*y.num))=U at *;generalize bs (cG ((x.den:Int)*y.den))=V at *;generalize bs (cG x.num)=N1 at *;generalize bs (cG (x.den:Int))=D1 at *;generalize bs (cG y.num)=N2 at *;generalize bs (cG (y.den:Int))=D2 at *;go_enter func80,ntmps80;go_wp2_with fail
 refine ka (H1.out _ (wL w _ _)) fun W1 hb1=>?_;obtain⟨hB,p1,p2⟩:=Tb.out _ hb1;have c1:=p1.ce 1;have c2:=p2.ce 1;have l1:=p1.lt;have l2:=p2.lt;clear p1 p2 hb1 Tb;go_wp2_with fail
 refine kc (H2.out _ hB) hB fun W2 lM=>?_;go_wp2_with fail
 refine kc (HN.out _ lM) lM fun W3 hb3=>?_;go_wp2;go_ret2;exact⟨rfl,hb3⟩
theorem xd(h:Cr 17 a b c d x y)(h0:y≠0):
 bE aE 88 #[Nq x,Nq y] w fun e w'=>e=bA (cK #[aA (bs (bG (x/y))),aC aB 0])∧Below w.heap.size w w':=by
 have NK:y.num≠0:=mt Rat.num_eq_zero.1 h0;have hz:((bs (cG y.num)).toList==[48])=false:=by rw[xE,nZ];exact decide_eq_false NK
 have HC:=zq (fun(W:aF)(hb:Below w.heap.size w W)=>CA x y W (hE.below hb) h);have HN:=zq (fun(W:aF)(hb:Below w.heap.size w W)=>Bi (x.num*y.den) (y.num*x.den) W (hE.below hb) h.prods.1 h.prods.2.1 (NH NK (by have:=x.den_nz;omega)));rw[Gb,Lw]at HN;clear hE h h0 NK;unfold Nq at *;generalize bs (cG (x.num*y.den))=U at *;generalize bs (cG (y.num*x.den))=V at *;generalize bs (cG x.num)=N1 at *;generalize bs (cG (x.den:Int))=D1 at *;generalize bs (cG y.num)=N2 at *;generalize bs (cG (y.den:Int))=D2 at *;go_enter func88,ntmps88;go_wp2_with fail
 refine kc (HC.out _ (wL w _ _)) (wL w _ _) fun W1 hB=>?_;go_wp2_with fail
 refine kc (HN.out _ hB) hB fun W2 hb2=>?_;go_wp2;go_ret2;exact⟨rfl,hb2⟩
end
theorem Gh(h:BS)(w:aF):
 bE aE 83 #[.func (.func h) #[] #[]] w fun e w'=>e=bA (.func (.func 156) #[] #[aY (some ⟨w.heap.size,0,none⟩)])∧w'=w.alloc (aN #[.func (.func h) #[] #[]] 128):=by
 go_enter func83,ntmps83;go_wp2;go_ret;exact⟨rfl,rfl⟩
section
variable{a b c d:Nat}(x y:Rat)(w:aF)(hE:mN w)
include hE
theorem Th(n:Int)(f:BS)(B:Nat)(h:Cr 16 a b c d x y)(hn:n.natAbs<10^17)
 (eg:∀args w,(rL f args).run aE w=.ok (.enter f args) w)(hc:w.cell? ⟨B,0,none⟩=some (.func (.func f) #[] #[]))
 (HM:∀W,mN W→bE aE f #[aA (bs (cG (x.num*y.den))),aA (bs (cG (y.num*x.den)))] W fun e w'=>e=bA (cK #[aA (bs (cG n)),aC aB 0])∧Below W.heap.size W w'):
 bE aE 156 #[Nq x,Nq y,aY (some ⟨B,0,none⟩)] w fun e w'=>e=bA (cK #[aA (bs (bG (mkRat n (x.den*y.den)))),aC aB 0])∧Below w.heap.size w w':=by
 have h':Cr 17 a b c d x y:=⟨h.1,h.2.1,h.2.2.1,h.2.2.2.1,h.2.2.2.2.1,h.2.2.2.2.2.1,by have:=h.2.2.2.2.2.2;omega,by have:=h.2.2.2.2.2.2;omega,h.2.2.2.2.2.2.2.2⟩;have hBl:=bB w _ hc;have hcW:=zq (fun(W:aF)(hb:Below w.heap.size w W)=>(hb.cell (p:=⟨B,0,none⟩) hBl).trans hc);have HC:=zq (fun(W:aF)(hb:Below w.heap.size w W)=>CA x y W (hE.below hb) h');have HU:=zq (fun(W:aF)(hb:Below w.heap.size w W)=>HM W (hE.below hb));have H2:=zq (fun(W:aF)(hb:Below w.heap.size w W)=>Tg x y W (hE.below hb) h');have hz:(x.den:Int)*y.den≠0:=by rw[←wT];have:=yG x y;omega
 have HN:=zq (fun(W:aF)(hb:Below w.heap.size w W)=>Bi n ((x.den:Int)*y.den) W (hE.below hb) hn h.prods.2.2 hz);rw[Gc]at HN;have tb:= @IH w;have Tb:=zq (fun(W1:aF)=>tb (W1:=W1) (N1:=bs (cG x.num)) (D1:=bs (cG (x.den:Int))) (N2:=bs (cG y.num)) (D2:=bs (cG (y.den:Int))));clear hE hc HM hz tb hBl h h' hn;unfold Nq at *;generalize bs (cG (x.num*y.den))=U at *;generalize bs (cG (y.num*x.den))=V at *;generalize bs (cG ((x.den:Int)*y.den))=DD at *;generalize bs (cG n)=NN at *;generalize bs (cG x.num)=N1 at *;generalize bs (cG (x.den:Int))=D1 at *;generalize bs (cG y.num)=N2 at *;generalize bs (cG (y.den:Int))=D2 at *;go_enter VG,ntmps156;go_wp2_with fail
 refine ka (HC.out _ (wL w _ _)) fun W1 hb1=>?_;obtain⟨hB,p1,p2⟩:=Tb.out _ hb1;have tA:=hcW.out _ hB;clear hb1 Tb HC;go_wp2_with fail
 refine ka (HU.out _ hB) fun W2 hb2=>?_;have p1:=p1.below hb2 p1.lt;have p2:=p2.below hb2 p2.lt;have lM:=cI hB hb2 hB.size;have c1:=p1.ce 1;have c2:=p2.ce 1;have l1:=p1.lt;have l2:=p2.lt;clear p1 p2 hb2 HU tA;go_wp2_with fail
 refine kc (H2.out _ lM) lM fun W3 Dw=>?_;go_wp2_with fail
 refine kc (HN.out _ Dw) Dw fun W4 hb4=>?_;go_wp2;go_ret2;exact⟨rfl,hb4⟩
end
theorem Ke{a b:Int}(ha:a.natAbs<10^8)(hb:b.natAbs<10^8):(a*b).natAbs<10^16:=fO ha hb
theorem xe(n1 d1 n2 d2:Int)(w:aF)(h1:n1.natAbs<10^8)(h2:d1.natAbs<10^8)(h3:n2.natAbs<10^8)(h4:d2.natAbs<10^8):
 bE aE 208 #[cF #[aC aB n1,aC aB d1],cF #[aC aB n2,aC aB d2]] w fun e w'=>e=bA (cF #[aC aB (n1*d2+n2*d1),aC aB (d1*d2)])∧Below w.heap.size w w':=by
 have p0:=Ke h1 h4;have w0:IntKind.i64.wrap (n1*d2)=n1*d2:=bI _ (by omega);have p1:=Ke h3 h2;have w1:IntKind.i64.wrap (n2*d1)=n2*d1:=bI _ (by omega);have p2:=Ke h2 h4;have w2:IntKind.i64.wrap (d1*d2)=d1*d2:=bI _ (by omega);have ws:IntKind.i64.wrap (n1*d2+n2*d1)=n1*d2+n2*d1:=bI _ (by omega);clear h1 h2 h3 h4 p0 p1 p2;go_enter func208,ntmps208;go_wp2;exact dU (v:=cF #[aC aB (n1*d2+n2*d1),aC aB (d1*d2)]) (by simp[lF,Tryz.results208,go_sem]) rfl ⟨rfl,(((aL _ w).alloc (aH _) _).alloc (by simp) _).alloc (by simp;omega) _⟩
theorem xf(n1 d1 n2 d2:Int)(w:aF)(h1:n1.natAbs<10^8)(h2:d1.natAbs<10^8)(h3:n2.natAbs<10^8)(h4:d2.natAbs<10^8):
 bE aE 82 #[cF #[aC aB n1,aC aB d1],cF #[aC aB n2,aC aB d2]] w fun e w'=>e=bA (cF #[aC aB (n1*d2-n2*d1),aC aB (d1*d2)])∧Below w.heap.size w w':=by
 have p0:=Ke h1 h4;have w0:IntKind.i64.wrap (n1*d2)=n1*d2:=bI _ (by omega);have p1:=Ke h3 h2;have w1:IntKind.i64.wrap (n2*d1)=n2*d1:=bI _ (by omega);have p2:=Ke h2 h4;have w2:IntKind.i64.wrap (d1*d2)=d1*d2:=bI _ (by omega);have ws:IntKind.i64.wrap (n1*d2-n2*d1)=n1*d2-n2*d1:=bI _ (by omega);clear h1 h2 h3 h4 p0 p1 p2;go_enter func82,ntmps82;go_wp2;exact dU (v:=cF #[aC aB (n1*d2-n2*d1),aC aB (d1*d2)]) (by simp[lF,Tryz.results82,go_sem]) rfl ⟨rfl,(((aL _ w).alloc (aH _) _).alloc (by simp) _).alloc (by simp;omega) _⟩
theorem xg(n1 d1 n2 d2:Int)(w:aF)(h1:n1.natAbs<10^8)(h2:d1.natAbs<10^8)(h3:n2.natAbs<10^8)(h4:d2.natAbs<10^8):
 bE aE 78 #[cF #[aC aB n1,aC aB d1],cF #[aC aB n2,aC aB d2]] w fun e w'=>e=bA (cF #[aC aB (n1*n2),aC aB (d1*d2)])∧Below w.heap.size w w':=by
 have p0:=Ke h1 h3;have w0:IntKind.i64.wrap (n1*n2)=n1*n2:=bI _ (by omega);have p1:=Ke h2 h4;have w1:IntKind.i64.wrap (d1*d2)=d1*d2:=bI _ (by omega);clear h1 h2 h3 h4 p0 p1;go_enter func78,ntmps78;go_wp2;exact dU (v:=cF #[aC aB (n1*n2),aC aB (d1*d2)]) (by simp[lF,Tryz.results78,go_sem]) rfl ⟨rfl,(((aL _ w).alloc (aH _) _).alloc (by simp) _).alloc (by simp;omega) _⟩
theorem xh(n1 d1 n2 d2:Int)(w:aF)(h1:n1.natAbs<10^8)(h2:d1.natAbs<10^8)(h3:n2.natAbs<10^8)(h4:d2.natAbs<10^8):
 bE aE 87 #[cF #[aC aB n1,aC aB d1],cF #[aC aB n2,aC aB d2]] w fun e w'=>e=bA (cF #[aC aB (n1*d2),aC aB (d1*n2)])∧Below w.heap.size w w':=by
 have p0:=Ke h1 h4;have w0:IntKind.i64.wrap (n1*d2)=n1*d2:=bI _ (by omega);have p1:=Ke h2 h3;have w1:IntKind.i64.wrap (d1*n2)=d1*n2:=bI _ (by omega);clear h1 h2 h3 h4 p0 p1;go_enter func87,ntmps87;go_wp2;exact dU (v:=cF #[aC aB (n1*d2),aC aB (d1*n2)]) (by simp[lF,Tryz.results87,go_sem]) rfl ⟨rfl,(((aL _ w).alloc (aH _) _).alloc (by simp) _).alloc (by simp;omega) _⟩
section
variable{a b c d:Nat}(x y:Rat)(w:aF)(hE:mN w)
include hE
theorem Za(h:Cr 16 a b c d x y):
 bE aE 159 #[aA (bs (bG x)),aA (bs (bG y))] w fun e w'=>e=bA (cK #[aA (bs (bG (x+y))),aC aB 0])∧Below w.heap.size w w':=by
 obtain⟨u1,u2,u3⟩:=h.prods;have hz:(x.den:Int)*y.den≠0:=by rw[←wT];have:=yG x y;omega
 by_cases hq:Nv x∧Nv y
 ·have HQ:=zq (tZ x y w 208 _ _ hE hq.1 hq.2 (mB func208 (by kernel_rfl) rfl) (by omega) (by omega) hz (fun W=>xe _ _ _ _ W hq.1.1 hq.1.dz hq.2.1 hq.2.dz));rw[Gc,IA]at HQ;clear h hE u1 u2 u3 hz hq;generalize bs (bG (x+y))=T at *;go_enter func159,ntmps159;go_wp2_with fail
  refine ka HQ.out fun W1 hb1=>?_;go_wp2;go_ret2;exact⟨rfl,hb1⟩
 ·have h1:=h.x17 (by decide);have h2:=h.y17 (by decide);have HQ:=zq (vS x y w (.func (.func 208) #[] #[]) h1 h2 hq);have HC:=zq (fun W=>Gh 209 W);have HB:=zq (fun(W:aF)(hW:Below w.heap.size w W)=>Gg x y (W.alloc (aN #[.func (.func 209) #[] #[]] 128)) 156 #[aY (some ⟨W.heap.size,0,none⟩)] _ _ ((hE.below hW).below ((aL _ W).alloc (aH _) _)) h1 h2 (mB VG (by kernel_rfl) rfl)
   (fun V hV=>Th x y V (((hE.below hW).below ((aL _ W).alloc (aH _) _)).below hV) (x.num*y.den+y.num*x.den) 209 W.heap.size h (by omega) (mB func209 (by kernel_rfl) rfl)
    ((hV.cell (p:=⟨W.heap.size,0,none⟩) (by simp)).trans ((bT.new W _ _).cell 0)) (fun U hU=>int_Add _ _ U (by omega) (by omega) hU)))
  rw[IA]at HB;clear h hE u1 u2 u3 hz hq h1 h2;generalize bs (bG (x+y))=T at *;go_enter func159,ntmps159;go_wp2_with fail
  refine ka HQ.out fun W1 hb1=>?_;go_wp2_with fail
  refine(HC.out _).mono ?_;rintro e W2⟨rfl,rfl⟩;go_wp2_with fail
  refine kc (HB.out _ hb1) (hb1.alloc hb1.size _) fun W3 hb3=>?_;go_wp2;go_ret2;exact⟨rfl,hb3⟩
theorem Zb(h:Cr 16 a b c d x y):
 bE aE 28 #[aA (bs (bG x)),aA (bs (bG y))] w fun e w'=>e=bA (cK #[aA (bs (bG (x-y))),aC aB 0])∧Below w.heap.size w w':=by
 obtain⟨u1,u2,u3⟩:=h.prods;have hz:(x.den:Int)*y.den≠0:=by rw[←wT];have:=yG x y;omega
 by_cases hq:Nv x∧Nv y
 ·have HQ:=zq (tZ x y w 82 _ _ hE hq.1 hq.2 (mB func82 (by kernel_rfl) rfl) (by omega) (by omega) hz (fun W=>xf _ _ _ _ W hq.1.1 hq.1.dz hq.2.1 hq.2.dz));rw[Gc,IB]at HQ;clear h hE u1 u2 u3 hz hq;generalize bs (bG (x-y))=T at *;go_enter func28,ntmps28;go_wp2_with fail
  refine ka HQ.out fun W1 hb1=>?_;go_wp2;go_ret2;exact⟨rfl,hb1⟩
 ·have h1:=h.x17 (by decide);have h2:=h.y17 (by decide);have HQ:=zq (vS x y w (.func (.func 82) #[] #[]) h1 h2 hq);have HC:=zq (fun W=>Gh 84 W);have HB:=zq (fun(W:aF)(hW:Below w.heap.size w W)=>Gg x y (W.alloc (aN #[.func (.func 84) #[] #[]] 128)) 156 #[aY (some ⟨W.heap.size,0,none⟩)] _ _ ((hE.below hW).below ((aL _ W).alloc (aH _) _)) h1 h2 (mB VG (by kernel_rfl) rfl)
   (fun V hV=>Th x y V (((hE.below hW).below ((aL _ W).alloc (aH _) _)).below hV) (x.num*y.den-y.num*x.den) 84 W.heap.size h (by omega) (mB func84 (by kernel_rfl) rfl)
    ((hV.cell (p:=⟨W.heap.size,0,none⟩) (by simp)).trans ((bT.new W _ _).cell 0)) (fun U hU=>int_Sub _ _ U (by omega) (by omega) hU)))
  rw[IB]at HB;clear h hE u1 u2 u3 hz hq h1 h2;generalize bs (bG (x-y))=T at *;go_enter func28,ntmps28;go_wp2_with fail
  refine ka HQ.out fun W1 hb1=>?_;go_wp2_with fail
  refine(HC.out _).mono ?_;rintro e W2⟨rfl,rfl⟩;go_wp2_with fail
  refine kc (HB.out _ hb1) (hb1.alloc hb1.size _) fun W3 hb3=>?_;go_wp2;go_ret2;exact⟨rfl,hb3⟩
def Mu(a b c d:Nat)(x y:Rat):Prop:=HB a b x∧HB c d y∧0<a∧0<b∧0<c∧0<d∧a+c≤16∧b+d≤17∧a+d≤17∧c+b≤17
theorem Zc(hm:Mu a b c d x y):
 bE aE 27 #[aA (bs (bG x)),aA (bs (bG y))] w fun e w'=>e=bA (cK #[aA (bs (bG (x*y))),aC aB 0])∧Below w.heap.size w w':=by
 obtain⟨g1,g2,p1,p2,p3,p4,e1,e2,e3,e4⟩:=hm;have h:Cr 17 a b c d x y:=⟨g1,g2,p1,p2,p3,p4,e3,e4,e2⟩;have u3:=h.prods.2.2;have u1:=wZ 16 (fO g1.1 g2.1) e1;have hz:(x.den:Int)*y.den≠0:=by rw[←wT];have:=yG x y;omega
 have l1:=xF g1.1 p1;have l2:=xF g2.1 p3;by_cases hq:Nv x∧Nv y
 ·have HQ:=zq (tZ x y w 78 _ _ hE hq.1 hq.2 (mB func78 (by kernel_rfl) rfl) (by omega) (by omega) hz (fun W=>xg _ _ _ _ W hq.1.1 hq.1.dz hq.2.1 hq.2.dz));rw[Gc,IC]at HQ;clear h hE u1 u3 hz hq g1 g2 l1 l2;generalize bs (bG (x*y))=T at *;go_enter func27,ntmps27;go_wp2_with fail
  refine ka HQ.out fun W1 hb1=>?_;go_wp2;go_ret2;exact⟨rfl,hb1⟩
 ·have h1:=h.x17 (by decide);have h2:=h.y17 (by decide);have HQ:=zq (vS x y w (.func (.func 78) #[] #[]) h1 h2 hq);have HB:=zq (fun(W:aF)(hW:Below w.heap.size w W)=>Gg x y W 80 #[] _ _ (hE.below hW) h1 h2 (mB func80 (by kernel_rfl) rfl)
   (fun V hV=>ww x y V ((hE.below hW).below hV) h1 h2 (by omega) (by omega) h))
  clear h hE u1 u3 hz hq h1 h2 g1 g2 l1 l2;generalize bs (bG (x*y))=T at *;go_enter func27,ntmps27;go_wp2_with fail
  refine ka HQ.out fun W1 hb1=>?_;go_wp2_with fail
  refine kc (HB.out _ hb1) hb1 fun W3 hb3=>?_;go_wp2;go_ret2;exact⟨rfl,hb3⟩
theorem Zd(h:Cr 17 a b c d x y)(h0:y≠0):
 bE aE 30 #[aA (bs (bG x)),aA (bs (bG y))] w fun e w'=>e=bA (cK #[aA (bs (bG (x/y))),aC aB 0])∧Below w.heap.size w w':=by
 have NK:y.num≠0:=mt Rat.num_eq_zero.1 h0;have hs:((bs (bG y)).toList==[48])=false:=by
  rw[xE,beq_eq_false_iff_ne];intro e;have:y=(0:Int):=by
   apply wa;rw[e,bG,ip (wU 0),pA,F9]
  exact h0 (by simpa using this)
 by_cases hq:Nv x∧Nv y
 ·have hz:(x.den:Int)*y.num≠0:=NH (by have:=x.den_nz;omega) NK;have u1:=Ke hq.1.1 hq.2.dz;have u2:=Ke hq.1.dz hq.2.1;have HQ:=zq (tZ x y w 87 _ _ hE hq.1 hq.2 (mB func87 (by kernel_rfl) rfl) (by omega) (by omega) hz (fun W=>xh _ _ _ _ W hq.1.1 hq.1.dz hq.2.1 hq.2.dz));rw[Int.mul_comm (x.den:Int),Gb,Lw]at HQ;clear h hE u1 u2 hz hq NK h0;generalize bs (bG (x/y))=T at *;go_enter func30,ntmps30;go_wp2_with fail
  refine ka HQ.out fun W1 hb1=>?_;go_wp2;go_ret2;exact⟨rfl,hb1⟩
 ·have h1:=h.x17 (by decide);have h2:=h.y17 (by decide);have HQ:=zq (vS x y w (.func (.func 87) #[] #[]) h1 h2 hq);have HB:=zq (fun(W:aF)(hW:Below w.heap.size w W)=>Gg x y W 88 #[] _ _ (hE.below hW) h1 h2 (mB func88 (by kernel_rfl) rfl)
   (fun V hV=>xd x y V ((hE.below hW).below hV) h h0))
  clear h hE hq h1 h2 NK h0;generalize bs (bG (x/y))=T at *;go_enter func30,ntmps30;go_wp2_with fail
  refine ka HQ.out fun W1 hb1=>?_;go_wp2_with fail
  refine kc (HB.out _ hb1) hb1 fun W3 hb3=>?_;go_wp2;go_ret2;exact⟨rfl,hb3⟩
theorem JI(h:Cr 17 a b c d x y):
 bE aE 117 #[aA (bs (bG x)),aA (bs (bG y))] w fun e w'=>e=bA (cK #[aC aB (nH x y),aC aB 0])∧Below w.heap.size w w':=by
 obtain⟨u1,u2,u3⟩:=h.prods;have h1:=h.x17 (by decide);have h2:=h.y17 (by decide);rw[wg];have HA:=zq (fun W=>nN x W h1);have HB:=zq (fun W=>nN y W h2);have xi:=zq (fun(W:aF)(hW:Below w.heap.size w W)=>Ao x W (hE.below hW) h1);have di:=zq (fun(W:aF)(hW:Below w.heap.size w W)=>Ao y W (hE.below hW) h2);have HX:=zq (fun(W:aF)(hW:Below w.heap.size w W)=>CA x y W (hE.below hW) h);have HC:=zq (fun(W:aF)(hW:Below w.heap.size w W)=>S7 _ _ W u1 u2 (hE.below hW));by_cases hq:Nv x∧Nv y
 ·rw[ip hq.1]at HA;rw[ip hq.2]at HB;have HC:=zq (fun W=>JC (x.num*y.den) (y.num*x.den) W);have w1:IntKind.i64.wrap (x.num*(y.den:Int))=x.num*(y.den:Int):=bI _ (by omega);have w2:IntKind.i64.wrap (y.num*(x.den:Int))=y.num*(x.den:Int):=bI _ (by omega);rw[Cz]at HC;clear h hE u1 u2 u3 hq h1 h2 xi di HX;generalize x.num=n1 at *;generalize x.den=d1 at *;generalize y.num=n2 at *;generalize y.den=d2 at *;go_enter VH,RU;go_wp2_with fail
  refine ka (HA.out _) fun W1 hb1=>?_;have hq1:bT (W1.alloc (aN #[aC aB n1,aC aB d1] 122)) W1.heap.size #[aC aB n1,aC aB d1] 122:=bT.new W1 _ _;go_wp2_with fail
  refine ka (HB.out _) fun W2 hb2=>?_;have JH:=hb2.size;simp only[bH]at JH;have lM:=cI (hb1.alloc hb1.size _) hb2 (by simp;exact tF hb1.size);have hq1:=(hq1.below hb2 (by simp));have c0:=hq1.ce 0;have c1:=hq1.ce 1;have hlt:=hq1.lt;go_wp2_with fail
  refine kr (HC.out _) ?_;go_wp2;go_ret2;exact⟨rfl,lM.alloc lM.size _⟩
 ·unfold Nq at *;generalize bs (cG (x.num*y.den))=U at *;generalize bs (cG (y.num*x.den))=V at *;generalize bs (cG x.num)=N1 at *;generalize bs (cG (x.den:Int))=D1 at *;generalize bs (cG y.num)=N2 at *;generalize bs (cG (y.den:Int))=D2 at *;by_cases qa:Nv x
  ·have qb:¬Nv y:=fun k=>hq ⟨qa,k⟩;rw[ip qa]at HA;rw[iN qb]at HB;clear h hE u1 u2 u3 hq h1 h2 qa qb;go_enter VH,RU;go_wp2_with fail
   refine ka (HA.out _) fun W1 hb1=>?_;go_wp2_with fail
   refine kc (HB.out _) (hb1.alloc hb1.size _) fun W2 lM=>?_;replace lM:=lM.alloc lM.size (aN #[aC aB 0,aC aB 0] 122);go_wp2_with fail
   refine kc (xi.out _ lM) lM fun W3 Dw=>?_;have q1:bT (W3.alloc (aN #[aA N1,aA D1] 126)) W3.heap.size #[aA N1,aA D1] 126:=bT.new W3 _ _;go_wp2_with fail
   refine ka (di.out _ (Dw.alloc Dw.size _)) fun W4 hb4=>?_;have Ov:=cI (Dw.alloc Dw.size _) hb4 (by simp;exact tF Dw.size);have q1:=q1.below hb4 (by simp);have c0:=q1.ce 0;have c1:=q1.ce 1;have l1:=q1.lt;clear q1 hb4;go_wp2_with fail
   refine kc (HX.out _ (Ov.alloc Ov.size _)) (Ov.alloc Ov.size _) fun W5 hB5=>?_;go_wp2_with fail
   refine kc (HC.out _ hB5) hB5 fun W6 hb6=>?_;go_wp2;go_ret2;exact⟨rfl,hb6⟩
  ·rw[iN qa]at HA;clear h hE u1 u2 u3 hq h1 h2 qa HB;go_enter VH,RU;go_wp2_with fail
   refine ka (HA.out _) fun W1 hb1=>?_;replace hb1:=hb1.alloc hb1.size (aN #[aC aB 0,aC aB 0] 122);go_wp2_with fail
   refine kc (xi.out _ hb1) hb1 fun W3 Dw=>?_;have q1:bT (W3.alloc (aN #[aA N1,aA D1] 126)) W3.heap.size #[aA N1,aA D1] 126:=bT.new W3 _ _;go_wp2_with fail
   refine ka (di.out _ (Dw.alloc Dw.size _)) fun W4 hb4=>?_;have Ov:=cI (Dw.alloc Dw.size _) hb4 (by simp;exact tF Dw.size);have q1:=q1.below hb4 (by simp);have c0:=q1.ce 0;have c1:=q1.ce 1;have l1:=q1.lt;clear q1 hb4;go_wp2_with fail
   refine kc (HX.out _ (Ov.alloc Ov.size _)) (Ov.alloc Ov.size _) fun W5 hB5=>?_;go_wp2_with fail
   refine kc (HC.out _ hB5) hB5 fun W6 hb6=>?_;go_wp2;go_ret2;exact⟨rfl,hb6⟩
end
end
section
open Go Go.RowKit
abbrev bv(b:UInt8):aP:=aC .u8 (b.toNat:Int)
end
section
open Go Go.RowKit Go.Shelf
section
attribute[local go_sem] gM
theorem bT.own{W W':aF}{b:Nat}{cs:Array aP}{T:dT}{row:Option Nat}(h:bT W b cs T)(hg:W.grownBy W' row)(hr:∀r,row=some r→∃o:Obj,W.heap[r]? =some o∧o.isCells=false):bT W' b cs T:=by
 refine h.grown hg ?_;intro e;obtain⟨_,ho,hc⟩:=hr b e.symm;have h':W.heap[b]? =some (aN cs T (0,0)):=h;rw[h']at ho;cases ho;simp[Obj.isCells]at hc
theorem kV{W W':aF}{cL e size n:Nat}{v:aP}{xs:List aP}{row:Option Nat}(h:W.ownsRow cL e size v n xs)(hg:W.grownBy W' row)(hr:∀r,row=some r→∃o:Obj,W.heap[r]? =some o∧o.isCells=false):W'.ownsRow cL e size v n xs:=by
 refine h.kept hg ?_;rcases h.2 with⟨rfl,_⟩|⟨g,cap,oL,rfl,hb,hh,_⟩
 ·exact .inl rfl
 ·right;intro e;obtain⟨o,ho,hc⟩:=hr g e.symm;rw[hh]at ho;cases ho;simp[Obj.isCells]at hc
theorem fQ{W W':aF}(h:Below W.heap.size W W'):KeepsOthers W W':=
 ⟨h.size,fun k o hk _=>(h.block k (Array.getElem?_eq_some_iff.1 hk).1).trans hk⟩
theorem mY{P:dN}{fn:Func}{p:Tmp}{ty:dT}(h:fn.results= #[.cell p ty])(tmps:Array aP)(w:aF)(g:Nat)(v:aP)
 (hp:tmps.getD p aO=aY (some ⟨g,0,none⟩))(hc:w.cell? ⟨g,0,none⟩=some v)(ha:(isAgg ty).run P w=.ok false w):
 (lF fn tmps).run P w=.ok v w:=by
 have Td:tmps[p]?.getD aO=aY (some ⟨g,0,none⟩):=by simpa using hp
 simp[lF,h,go_sem,Td,hc,ha]
theorem bT.putObj{W:aF}{b:Nat}{cs:Array aP}{T:dT}(h:bT W b cs T){l:Nat}{o:Obj}(o':Obj)(hl:W.heap[l]? =some o)(ho:o.isCells=false):bT (W.putObj l o') b cs T:=
 h.own (rO W l o') (fun r e=>by cases e;exact⟨o,hl,ho⟩)
def dW(ks:Nat→Prop)(W W':aF):Prop:=∀k,ks k→W'.heap[k]? =W.heap[k]?
theorem dW.refl(ks:Nat→Prop)(W:aF):dW ks W W:=fun _ _=>rfl
theorem dW.trans{ks:Nat→Prop}{A B C:aF}(h:dW ks A B)(k:dW ks B C):dW ks A C:=fun i hi=>(k i hi).trans (h i hi)
theorem dW.cell{ks:Nat→Prop}{A B:aF}(h:dW ks A B){p:cO}(hp:ks p.block):B.cell? p=A.cell? p:=World.cell?_of_block (h p.block hp)
theorem dW.putObj{ks:Nat→Prop}{w:aF}(hk:∀k,ks k→k<w.heap.size)(W:aF)(l:Nat)(o o':Obj)(hl:w.heap.size≤l)(_:W.heap[l]? =some o)(_:o.isCells=false)(_:o.isWalk=false):dW ks W (W.putObj l o'):=
 fun k h=>dH (by have:=hk k h;omega)
theorem dW.below{ks:Nat→Prop}{A B:aF}{n:Nat}(h:Below n A B)(hk:∀k,ks k→k<n):dW ks A B:=fun k h'=>h.block k (hk k h')
theorem dW.setCell{ks:Nat→Prop}{W:aF}{a:cO}(hk:∀k,ks k→k≠a.block)(v:aP):dW ks W (W.setCell a v):=fun k h=>heap_setCell_other W a k v (hk k h)
def pT(Bs:Nat)(a:Option cO)(len:Nat)(k:Nat):Prop:=k=Bs∨(0<len∧∃p,a=some p∧k=p.block)
end
end
section
open Go Go.RowKit Go.Shelf Go.Lib
section
attribute[local go_sem] gM
def KO(w:aF)(a:Option cO)(vs:List aP):Prop:=
 ∀i,i<vs.length→∃b off,a=some ⟨b,off,none⟩∧w.cell? ⟨b,off+i,none⟩=some (vs.getD i aO)
theorem KO.below{w w':aF}{a:Option cO}{vs:List aP}(h:KO w a vs)(hb:Below w.heap.size w w'):KO w' a vs:=by
 intro i hi;obtain⟨b,off,rfl,hc⟩:=h i hi;have hlt:=bB w ⟨b,off+i,none⟩ hc;exact⟨b,off,rfl,(hb.cell (p:=⟨b,off+i,none⟩) hlt).trans hc⟩
def dK(ls:List (List UInt8)):List aP:=ls.map fun l=>aA (bs l)
theorem oP(ls:List (List UInt8)):(dK ls).length=ls.length:=aZ ..
theorem wM(ls:List (List UInt8)){k:Nat}(h:k<ls.length):(dK ls).getD k aO=aA (bs (ls.getD k [])):=by
 simp[dK,aG,bN h]
def sR(qs:List Rat):Nat→Rat
 |0=>(0:Int)
 |k+1=>sR qs k+qs.getD k 0
abbrev encS(qs:List Rat)(k:Nat):Array aP:= #[aA (bs (bG (sR qs (k+1)))),aC aB 0]
theorem Ti{qs:List Rat}{k:Nat}(h:k<qs.length):(qs.map bG).getD k []=bG (qs.getD k 0):=by
 simp[aG,bN h]
def DV(B Bs:Nat)(V V':aF):Prop:=Below B V V'∧dW (·=Bs) V V'
theorem DV.trans{B Bs:Nat}{X Y Z:aF}(h:DV B Bs X Y)(k:DV B Bs Y Z):DV B Bs X Z:=⟨h.1.trans k.1,h.2.trans k.2⟩
theorem DV.refl(B Bs:Nat)(X:aF):DV B Bs X X:=⟨aL _ _,dW.refl _ _⟩
theorem DV.call{B Bs:Nat}{X Y:aF}(h:Below X.heap.size X Y)(hB:B≤X.heap.size)(hs:Bs<X.heap.size):DV B Bs X Y:=⟨h.mono hB,dW.below h (by rintro k rfl;exact hs)⟩
theorem xj(Bs B:Nat)(a:Option cO)(len cap:Nat)(qs:List Rat)(b1 b2 b3 b4:Nat)(hl:qs.length=len)(hx:len≤4096)(hq:∀k,k<len→Cr 16 b1 b2 b3 b4 (sR qs k) (qs.getD k 0))
 (w:aF)(hB:B≤w.heap.size)(hBl:Bs<w.heap.size)
 (hE:∀V,Below B w V→mN V)(hc:∀V,Below B w V→KO V a (dK (qs.map bG)))(hBs:w.cell? ⟨Bs,0,none⟩=some (aD a len cap)):
 Qc Fence.wide 8 aE 158 #[aY (some ⟨Bs,0,none⟩)] (encS qs) (DV B Bs) len w:=by
 intro l J Jx W hW hJ hY h0;have hBs:=(hW.cell (p:=⟨Bs,0,none⟩) hBl).trans hBs;have hE:=zq (fun V(h:Below B W V)=>hE V ((hW.mono hB).trans h));have hc:=zq (fun V(h:Below B W V)=>hc V ((hW.mono hB).trans h));have WK:B≤W.heap.size:=aU hB hW.size;have hBl':Bs<W.heap.size:=dC hBl hW.size;have Hl:=zq hl;have HA:=zq (fun k(hk:k<len)V(hV:Below B W V)=>Za (sR qs k) (qs.getD k 0) V (hE.out V hV) (hq k hk));clear hW hl hB hBl hq hE;refine callsIn_of_wp func158 rfl trivial ?_ rfl;simp only[ntmps158,cD,bD,bV,dQ,dR,cA,cB,cR,cH,dF,cJ];gi_wp2;gi_loopw [3,9] (fun s i wr=>∃k:Nat,s=aA (bs (bG (sR qs k)))∧i=aC aB (k:Int)∧k≤len∧J k wr∧DV B Bs W wr)
  (fun _ i _=>len-(aK i).toNat)
 case atStart=>exact⟨0,by rw[show bG (sR qs 0)=[48] by rw[sR,bG,ip (wU 0),pA,F9]];rfl,by simp,bM _,h0,DV.refl _ _ _⟩
 case round=>
  obtain⟨k,rfl,rfl,hk,hJs,WM⟩:=hrel;have hwB:B≤wr.heap.size:=aU WK WM.1.size;have hwBs:Bs<wr.heap.size:=dC hBl' WM.1.size;by_cases hlt:k<len
  ·obtain⟨b,off,hab,NO⟩:=hc.out wr WM.1 k (by rw[oP,aZ,Hl.out];exact hlt);subst hab;rw[wM _ (by rw[aZ,Hl.out];exact hlt),Ti (by rw[Hl.out];exact hlt)]at NO;have OB:=zq (HA.out k hlt wr WM.1);have hY':=zq (fun V(h:Below wr.heap.size wr V)=>hY k V hlt (hJ k wr V hJs h));unfold encS at hY';obtain⟨Y,hYe⟩:=nm (bs (bG (sR qs (k+1))));have hYe':bs (bG (sR qs k+qs.getD k 0))=Y:=hYe;rw[hYe']at OB;rw[hYe]at hY';have HYe:=zq hYe;clear hYe hYe';generalize bs (bG (sR qs k))=Z at *;generalize bs (bG (qs.getD k 0))=X at *;gi_wp2_with fail;refine⟨trivial,(callsIn_wide.2 OB.out).mono ?_⟩;rintro e W2⟨rfl,hb2⟩;obtain⟨fn,tmps,assign,body,hy,hR⟩:=hY'.out W2 hb2;gi_wp2_with fail;refine hR.mono ?_;rintro e W3 (⟨rfl,Ze,hk3⟩|⟨rfl,xk⟩)
   ·have hnx3:=(WM.trans (DV.call hb2 hwB hwBs)).trans hk3;gi_wp2;go_roundw;case rel=>exact⟨k+1,by rw[HYe.out],by go_num,by omega,Ze,hnx3⟩
    case measure=>simp only[aK];omega
   ·gi_wp2;refine dU (results_none rfl _ _ _) rfl ?_;exact⟨⟨_,rfl⟩,.inr ⟨k+1,by omega,xk⟩⟩
  ·obtain rfl:len=k:=by omega
   have HJ:=zq hJs;gi_wp2;go_end0;exact⟨⟨_,rfl⟩,.inl HJ.out⟩
theorem mE{P:dN}{fn:Func}{p q:Tmp}{ty tz:dT}(h:fn.results= #[.cell p ty,.cell q tz])(tmps:Array aP)(w:aF)(g1 g2:Nat)(v1 v2:aP)
 (hp:tmps.getD p aO=aY (some ⟨g1,0,none⟩))(hq:tmps.getD q aO=aY (some ⟨g2,0,none⟩))(h1:w.cell? ⟨g1,0,none⟩=some v1)(h2:w.cell? ⟨g2,0,none⟩=some v2)
 (ha:∀w,(isAgg ty).run P w=.ok false w)(hb:∀w,(isAgg tz).run P w=.ok false w):
 (lF fn tmps).run P w=.ok (cK #[v1,v2]) w:=by
 have Td:tmps[p]?.getD aO=aY (some ⟨g1,0,none⟩):=by simpa using hp
 have hq':tmps[q]?.getD aO=aY (some ⟨g2,0,none⟩):=by simpa using hq
 simp[lF,h,go_sem,Td,hq',h1,h2,ha,hb]
theorem xl(a:Option cO)(len cap:Nat)(w:aF):
 bE aE 86 #[aD a len cap] w fun e w'=>e=bA (.func (.func 158) #[] #[aY (some ⟨w.heap.size,0,none⟩)])∧w'=w.alloc (aN #[aD a len cap] 62):=by
 go_enter func86,ntmps86;go_wp2;go_ret;exact⟨rfl,rfl⟩
theorem iH{B:Nat}{W:aF}{l:Nat}{o o':Obj}(hB:B≤l)(hl:W.heap[l]? =some o):Below B W (W.putObj l o'):=
 (aL B W).grown (rO W l o') (aU hB (jS (Array.getElem?_eq_some_iff.1 hl).1)) (fun k e=>by cases e;exact hB)
theorem DV.putObj{B Bs n:Nat}(hB:B≤n)(hs:Bs<n)(W:aF)(l:Nat)(o o':Obj)(hl:n≤l)(h:W.heap[l]? =some o)(_:o.isCells=false)(_:o.isWalk=false):DV B Bs W (W.putObj l o'):=
 ⟨iH (aU hB hl) h,fun k hk=>dH (by subst hk;omega)⟩
theorem rat_Sum(a:Option cO)(n cap:Nat)(qs:List Rat)(b1 b2 b3 b4:Nat)(w:aF)(hE:mN w)(hn:qs.length=n)(qJ:n≤4096)(hq:∀k,k<n→Cr 16 b1 b2 b3 b4 (sR qs k) (qs.getD k 0))(hc:KO w a (dK (qs.map bG))):
 bE aE 29 #[aD a n cap] w fun e w'=>e=bA (cK #[aA (bs (bG (sR qs n))),aC aB 0])∧Below w.heap.size w w':=by
 have b0:bT ((w.alloc (aN #[aA {data:= #[]}] 34)).alloc (aN #[aC aB 0] 28)) w.heap.size #[aA {data:= #[]}] 34:=(bT.new w _ _).alloc _
 have VV:bT ((w.alloc (aN #[aA {data:= #[]}] 34)).alloc (aN #[aC aB 0] 28)) (w.heap.size+1) #[aC aB 0] 28:=by
  have:=bT.new (w.alloc (aN #[aA {data:= #[]}] 34)) #[aC aB 0] 28
  rwa[bH]at this
 have HC:=zq (fun(k:Nat)(h:k<n)(W:aF)(hW:Below w.heap.size w W)=>IG (qs.getD k 0) W (hE.below hW) ((hq k h).y17 (by decide)))
 have HcB:=zq (fun(V:aF)(h:Below w.heap.size w V)=>hc.below h)
 have HEB:=zq (fun(V:aF)(h:Below w.heap.size w V)=>hE.below h)
 have Hc:=zq hc
 have Hn:=zq hn
 have Hq:=zq hq
 have Hb:=zq (And.intro b0 (And.intro VV (wL w (aN #[aA {data:= #[]}] 34) (aN #[aC aB 0] 28))))
 clear hc hn hE b0 VV hq
 refine dM func29 rfl ?_
 simp only[ntmps29,cD,bD,bV,dQ,dR,cA,cB,cR,cH,dF,cJ]
 go_wp2
 go_loopw[15] (fun i wr=>∃k:Nat,i=aC aB k∧k≤n∧Below w.heap.size w wr∧bT wr w.heap.size #[aA {data:= #[]}] 34∧bT wr (w.heap.size+1) #[aC aB 0] 28) (fun i _=>n-(aK i).toNat)
 case atStart=>exact⟨0,rfl,bM _,Hb.out.2.2,Hb.out.1,Hb.out.2.1⟩
 case round=>
  obtain⟨k,rfl,hk,hB,b0,VV⟩:=hrel
  have B0:=zq b0
  have B1:=zq VV
  by_cases hlt:k<n
  ·obtain⟨b,off,rfl,NO⟩:=Hc.out k (by rw[oP,aZ,Hn.out];exact hlt)
   rw[wM _ (by rw[aZ,Hn.out];exact hlt),Ti (by rw[Hn.out];exact hlt)]at NO
   have hcx':=(hB.cell (p:=⟨b,off+k,none⟩) (bB w _ NO)).trans NO
   have KP:=zq (HC.out k hlt)
   clear NO b0 VV
   generalize bs (bG (qs.getD k 0))=X at *
   go_wp2_with fail
   refine(KP.out _ hB).mono ?_
   rintro e W1⟨rfl,hb1⟩
   go_wp2
   go_roundw
   case rel=>exact⟨k+1,by go_num,by omega,cI hB hb1 hB.size,B0.out.below hb1 B0.out.lt,B1.out.below hb1 B1.out.lt⟩
   case measure=>simp only[aK];omega
  ·obtain rfl:n=k:=by omega
   clear HC hlt hk Hc b0 VV Hb
   go_wp2_with fail
   refine(xl _ _ _ _).mono ?_
   rintro e w'⟨rfl,rfl⟩
   go_wp2_with fail
   obtain⟨W0,eY⟩:=nm ((wr.alloc (aN #[aA {data:= #[48]}] 34)).alloc (aN #[aD a n cap] 62))
   have c0:bT W0 w.heap.size #[aA {data:= #[]}] 34:=by rw[←eY];exact(B0.out.alloc _).alloc _
   have c1:bT W0 (w.heap.size+1) #[aC aB 0] 28:=by rw[←eY];exact(B1.out.alloc _).alloc _
   have c7:bT W0 wr.heap.size #[aA (bs (bG (sR qs 0)))] 34:=by
    rw[←eY,show bs (bG (sR qs 0))={data:= #[48]} by rw[sR,bG,ip (wU 0),pA,F9];rfl];exact(bT.new wr _ _).alloc _
   have c8:bT W0 (wr.heap.size+1) #[aD a n cap] 62:=by
    rw[←eY]
    have:=bT.new (wr.alloc (aN #[aA {data:= #[48]}] 34)) #[aD a n cap] 62
    rwa[bH]at this
   have tL:=B1.out.lt
   have Zf:W0.heap.size=wr.heap.size+2:=by rw[←eY];simp
   have fE:Below w.heap.size w W0:=by rw[←eY];exact(hB.alloc hB.size _).alloc (by simp;omega) _
   rw[eY]
   clear eY hB B0 B1
   generalize wr.heap.size=g at *
   refine Ll (gf:=158) (lb:= #[aY (some ⟨g+1,0,none⟩)]) rfl (mB func158 (by kernel_rfl) rfl)
    (xj (g+1) w.heap.size a n cap qs b1 b2 b3 b4 Hn.out qJ Hq.out W0 (by omega) (by omega) (fun V h=>HEB.out V (fE.trans h)) (fun V h=>HcB.out V (fE.trans h)) (c8.cell 0))
    DV.trans (DV.putObj (by omega) (by omega)) (fun _=>rfl)
    (fun k W=>(bT W w.heap.size #[aA {data:= #[]}] 34∧bT W (w.heap.size+1) #[aC aB 0] 28∧bT W g #[aA (bs (bG (sR qs k)))] 34)∧Below w.heap.size w W)
    (fun _ _ _=>False)
    (eO (Own.from (fun s A B row hs hg hr=>⟨hs.1.own hg hr,hs.2.1.own hg hr,hs.2.2.own hg hr⟩) _) (ownFrom_below (aH _) (by omega)))
    (fun c=>Own.from (fun s A B row hs hg hr=>hs) _)
    ⟨⟨c0,c1,c7⟩,fE⟩
    ?frm ?assign ?body ?done ?stop
   case assign=>
    intro l k W K hK
    gi_wp2
    exact hK
   case body=>
    rintro l k W hk⟨⟨b0,VV,b7⟩,hB⟩
    have k7:=b7.ce 0
    have f7:=b7.fz 0
    have l7:=b7.lt
    have Hb0:=zq b0
    have Hb1:=zq VV
    have Hb7:=zq b7
    clear b0 VV b7 c0 c1 c7 c8
    obtain⟨Y,hY⟩:=nm (bs (bG (sR qs (k+1))))
    rw[hY]
    have HY:=zq hY
    clear hY
    generalize bs (bG (sR qs k))=Z at *
    gi_wp2
    exact⟨(dG _ _ _).from _,⟨(aL _ _).setCell (by show w.heap.size≤g;omega) _,dW.setCell (by rintro k rfl;show g+1≠g;omega) _⟩,
     ⟨Hb0.out.other _ (by show w.heap.size≠g;omega),Hb1.out.other _ (by show w.heap.size+1≠g;omega),by rw[HY.out];exact Hb7.out.set 0 _⟩,hB.setCell (by show w.heap.size≤g;omega) _⟩
   case done=>
    rintro D W hD⟨⟨b0,VV,b7⟩,hB⟩hK
    have k7:=b7.ce 0
    have k0:=b0.ce 0
    have k1:=VV.ce 0
    have f0:=b0.fz 0
    have f1:=VV.fz 0
    have l0:=b0.lt
    have l1:=VV.lt
    have Hb0:=zq b0
    have Hb1:=zq VV
    have HK:=zq hK
    clear b0 VV b7 c0 c1 c7 c8 hK
    obtain⟨Z,hZ⟩:=nm (bs (bG (sR qs n)))
    rw[hZ]at k7
    have HZ:=zq hZ
    clear hZ
    go_wp2
    have hK1:=(dG W ⟨w.heap.size,0,none⟩ (aA Z)).same D _ HK.out rfl
    have hK2:=(dG _ ⟨w.heap.size+1,0,none⟩ (aC aB 0)).same D _ hK1 rfl
    refine⟨by simp,.inl ⟨_,_,rfl,run_takeDeferred hK2,?_⟩⟩
    refine⟨_,mE Tryz.results29 _ _ w.heap.size (w.heap.size+1) (aA Z) (aC aB 0) rfl rfl ?_ ?_ isAgg34 isAgg28,by rw[HZ.out],?_⟩
    ·exact(((Hb0.out.set 0 _).other _ (by show w.heap.size≠w.heap.size+1;omega)).putObj _ hK2 rfl).cell 0
    ·exact(((Hb1.out.other _ (by show w.heap.size+1≠w.heap.size;omega)).set 0 _).putObj _ hK2 rfl).cell 0
    ·exact((hB.setCell (by exact aH _) _).setCell (by show w.heap.size≤w.heap.size+1;omega) _).trans (iH (by omega) hK2)
   case stop=>
    rintro D c k W hD hk⟨⟩
end
end
section
open Go Go.Lib
structure Fr where
 up:Bool
 co:Int
 dir:Int
 sp:List UInt8
 st:List UInt8
instance:Inhabited Fr:=⟨⟨false,0,0,[],[]⟩⟩
abbrev Fr.cells(f:Fr):Array aP:= #[aV f.up,aC aB f.co,aC aB f.dir,aA (bs f.sp),aA (bs f.st)]
abbrev Fr.v(f:Fr):aP:=cF f.cells
structure FQ where
 up:Bool
 co:Int
 dir:Int
 v:Rat
 t:Rat
def FQ.fr(q:FQ):Fr:=⟨q.up,q.co,q.dir,bG q.v,bG q.t⟩
structure FQ.Good(q:FQ):Prop where
 co0:0≤q.co
 co1:q.co≤65536
 dir:q.dir=1∨q.dir= -1
 v:∃n d:Nat,n≤48∧1≤d∧d≤48∧q.v*(d:Int)=(n:Int)
 t:∃k:Nat,k≤65536∧q.t=(k:Int)
def FQ.pos(q:FQ)(z:Rat):Rat:=if z≤q.t then(q.co:Rat)else(q.co:Rat)+(q.dir:Rat)*q.v*(z-q.t)
def FQ.vel(q:FQ):Rat:=(q.dir:Rat)*q.v
section
variable{a b c d k:Nat}{x y:Rat}
theorem HB.mk{n:Int}{m:Nat}(hd:m≠0)(h1:n.natAbs<10^a)(h2:m<10^b):HB a b (mkRat n m):=
 ⟨jZ (Al n m hd).1 h1,jZ (Al n m hd).2 h2⟩
theorem HB.dens(h1:HB a b x)(h2:HB c d y):x.den*y.den<10^(b+d):=by rw[Nat.pow_add];exact Nat.mul_lt_mul'' h1.2 h2.2
theorem HB.add(h1:HB a b x)(h2:HB c d y)(e1:a+d≤k)(e2:c+b≤k):HB (k+1) (b+d) (x+y):=by
 rw[←IA];exact HB.mk (yG x y) (Lx (wZ k (fO h1.1 h2.dz) e1) (wZ k (fO h2.1 h1.dz) e2)) (h1.dens h2)
theorem HB.sub(h1:HB a b x)(h2:HB c d y)(e1:a+d≤k)(e2:c+b≤k):HB (k+1) (b+d) (x-y):=by
 rw[←IB];exact HB.mk (yG x y) (Ly (wZ k (fO h1.1 h2.dz) e1) (wZ k (fO h2.1 h1.dz) e2)) (h1.dens h2)
theorem HB.mul(h1:HB a b x)(h2:HB c d y):HB (a+c) (b+d) (x*y):=by
 rw[←IC];exact HB.mk (yG x y) (fO h1.1 h2.1) (h1.dens h2)
end
theorem HB.zero:HB 1 1 (0:Rat):=⟨by decide,by decide⟩
section
variable{q:FQ}(h:q.Good)
include h
theorem FQ.Good.hco:HB 5 1 (q.co:Rat):=HB.int (by have:=h.co0;have:=h.co1;omega)
theorem FQ.Good.hdir:HB 1 1 (q.dir:Rat):=HB.int (by have:=h.dir;omega)
theorem FQ.Good.hv:HB 2 2 q.v:=by
 obtain⟨n,d,h1,h2,h3,h4⟩:=h.v;exact HB.of h4 (by omega) (by omega) (by omega)
theorem FQ.Good.ht:HB 5 1 q.t:=by
 obtain⟨k,h1,h2⟩:=h.t;rw[h2];exact HB.int (by omega)
theorem FQ.Good.hvel:HB 2 2 q.vel:=by
 have:=h.hv;unfold FQ.vel;rcases h.dir with e|e
 ·rw[e,show((1:Int):Rat)=1 from rfl,Rat.one_mul];exact this
 ·rw[e,show((-1:Int):Rat)= -1 from rfl,Rat.neg_mul,Rat.one_mul];exact⟨by show(-q.v.num).natAbs<_;rw[PR];exact this.1,this.2⟩
end
def Ce(z:Rat):Prop:=z.num.natAbs≤452984832∧z.den≤4608
theorem Ce.hb{z:Rat}(h:Ce z):HB 9 4 z:=⟨jZ h.1 (by decide),jZ h.2 (by decide)⟩
theorem Ce.of{q:Rat}{N D:Int}(h:q*D=N)(h0:D≠0)(h1:N.natAbs≤452984832)(h2:D.natAbs≤4608):Ce q:=by
 have e:q=Rat.divInt N D:=by
  rw[Rat.divInt_eq_div,←h,Rat.mul_div_cancel (by exact_mod_cast h0)]
 rw[←Gb]at e;obtain⟨l1,l2⟩:=Al (ID N D) D.natAbs (by omega);rw[←e]at l1 l2;exact⟨aU l1 (by unfold ID;split <;>omega),aU l2 h2⟩
theorem xm(z:Rat):z*(z.den:Int)=(z.num:Int):=by
 have:=Rat.num_divInt_den z;rw[Rat.divInt_eq_div]at this;have hd:((z.den:Int):Rat)≠0:=by exact_mod_cast z.den_nz
 have e:=Rat.div_mul_cancel (a:=((z.num:Int):Rat)) hd;rwa[this]at e
theorem FQ.Good.pos_hb{q:FQ}(h:q.Good){z:Rat}(hz:Ce z):HB 11 6 (q.pos z):=by
 unfold FQ.pos;split
 ·exact h.hco.mono (by decide) (by decide)
 ·obtain⟨n,d,h1,h2,h3,h4⟩:=h.v;obtain⟨k,h5,h6⟩:=h.t;have h7:=xm z;obtain⟨z1,z2⟩:=hz;have yH:=z.den_nz;have qg:=h.co0;have hc1:=h.co1;have hd:=h.dir;rw[h6];generalize z.num=zn at *;generalize z.den=zd at *;generalize q.co=c at *;generalize q.dir=s at *;refine HB.of (N:=c*(d*zd)+s*(n*(zn-k*zd))) (D:=d*zd) ?_ ?_ ?_ ?_
  ·have e1:((c*(d*zd)+s*(n*(zn-k*zd)):Int):Rat)=(c:Rat)*(((d:Int):Rat)*((zd:Int):Rat))+(s:Rat)*(((n:Int):Rat)*((zn:Rat)-((k:Int):Rat)*((zd:Int):Rat))):=by
    simp only[Rat.intCast_add,lX,Rat.intCast_sub]
   have e2:(((d:Int)*(zd:Int):Int):Rat)=((d:Int):Rat)*((zd:Int):Rat):=lX _ _;rw[e1,e2,←h4,←h7];grind
  ·exact NH (by omega) (by omega)
  ·have b1:(d:Int)*zd≤48*4608:=vO (by omega) (by omega) (by omega) (by omega);have b0:(0:Int)≤(d:Int)*zd:=nE (by omega) (by omega);have b2:c*((d:Int)*zd)≤65536*(48*4608):=vO hc1 b1 b0 (by omega);have b3:0≤c*((d:Int)*zd):=nE qg b0;have b4:(k:Int)*zd≤65536*4608:=vO (by omega) (by omega) (by omega) (by omega);have b5:(0:Int)≤(k:Int)*zd:=nE (by omega) (by omega);have b6:((n:Int)*(zn-k*zd)).natAbs≤48*754974720:=by
    rw[G9,eD];exact Nat.mul_le_mul h1 (by omega)
   have b7:(s*((n:Int)*(zn-k*zd))).natAbs≤48*754974720:=by
    rw[G9];have:s.natAbs=1:=by omega
    rw[this,Nat.one_mul];exact b6
   generalize c*((d:Int)*zd)=A at *;generalize s*((n:Int)*(zn-k*zd))=B at *;omega
  ·have b1:(d:Int)*zd≤48*4608:=vO (by omega) (by omega) (by omega) (by omega);have b0:(0:Int)≤(d:Int)*zd:=nE (by omega) (by omega);generalize(d:Int)*zd=A at *;omega
end
section
open Go
def FQ.low(q:FQ)(z:Rat):Rat:=if z≤q.t then 0 else q.vel
def FQ.high(q:FQ)(z:Rat):Rat:=if z<q.t then 0 else q.vel
def kG(f g:FQ)(z:Rat):Prop:=f.pos z=g.pos z∧(f.low z≠g.low z∨f.high z≠g.high z)
theorem xn{q:FQ}{z:Rat}(h:z≤q.t):q.pos z=q.co:=ip h
theorem II{q:FQ}{z:Rat}(h:q.t<z):q.pos z=q.co+q.vel*(z-q.t):=iN (Rat.not_le.2 h)
def sC(f g:FQ):Rat:=(g.co:Rat)-(f.co:Rat)
def iP(f g:FQ):List Rat:=
 [f.t,g.t]++(if f.vel≠0 then[f.t+sC f g/f.vel]else[])++(if g.vel≠0 then[g.t-sC f g/g.vel]else[])++
  (if f.vel≠g.vel then[(sC f g+(f.vel*f.t-g.vel*g.t))/(f.vel-g.vel)]else[])
theorem OC{f g:FQ}{z:Rat}(h:kG f g z):z∈iP f g:=by
 obtain⟨h1,h2⟩:=h;unfold iP;simp only[List.mem_append,List.mem_cons,List.not_mem_nil,or_false];by_cases e1:z=f.t
 ·exact .inl (.inl (.inl (.inl e1)))
 by_cases e2:z=g.t
 ·exact .inl (.inl (.inl (.inr e2)))
 rcases(by grind:z<f.t∨f.t<z)with a|a<;>rcases(by grind:z<g.t∨g.t<z)with b|b
 ·have l1:f.low z=0:=ip (pR a);have l2:g.low z=0:=ip (pR b);have u1:f.high z=0:=ip a;have u2:g.high z=0:=ip b;rw[l1,l2,u1,u2]at h2;grind
 ·rw[xn (pR a),II b]at h1;have hw:g.vel≠0:=by
   intro e;have l1:f.low z=0:=ip (pR a);have l2:g.low z=g.vel:=iN (Rat.not_le.2 b);have u1:f.high z=0:=ip a;have u2:g.high z=g.vel:=iN (by grind);grind
  refine .inl (.inr ?_);rw[ip hw,eJ];unfold sC;grind
 ·rw[xn (pR b),II a]at h1;have hw:f.vel≠0:=by
   intro e;have l1:g.low z=0:=ip (pR b);have l2:f.low z=f.vel:=iN (Rat.not_le.2 a);have u1:g.high z=0:=ip b;have u2:f.high z=f.vel:=iN (by grind);grind
  refine .inl (.inl (.inr ?_));rw[ip hw,eJ];unfold sC;grind
 ·rw[II a,II b]at h1;have hw:f.vel≠g.vel:=by
   intro e;have l1:g.low z=g.vel:=iN (Rat.not_le.2 b);have l2:f.low z=f.vel:=iN (Rat.not_le.2 a);have u1:g.high z=g.vel:=iN (by grind);have u2:f.high z=f.vel:=iN (by grind);grind
  refine .inr ?_;rw[ip hw,eJ];unfold sC;grind
end
section
open Go Go.RowKit Go.Lib
section
variable{a b c d:Nat}(x y:Rat)(w:aF)(hE:mN w)
include hE
theorem WO(h:Cr 16 a b c d x y):bE aE 195 #[aA (bs (bG x)),aA (bs (bG y))] w fun e w'=>e=bA (aA (bs (bG (x+y))))∧Below w.heap.size w w':=by
 have H:=zq (Za x y w hE h);clear hE h;go_enter func195,ntmps195;go_wp2_with fail
 refine ka H.out fun W1 hb1=>?_;go_wp2;go_ret;exact⟨rfl,hb1⟩
theorem LD(h:Cr 16 a b c d x y):bE aE 193 #[aA (bs (bG x)),aA (bs (bG y))] w fun e w'=>e=bA (aA (bs (bG (x-y))))∧Below w.heap.size w w':=by
 have H:=zq (Zb x y w hE h);clear hE h;go_enter func193,ntmps193;go_wp2_with fail
 refine ka H.out fun W1 hb1=>?_;go_wp2;go_ret;exact⟨rfl,hb1⟩
theorem Qm(h:Mu a b c d x y):bE aE 197 #[aA (bs (bG x)),aA (bs (bG y))] w fun e w'=>e=bA (aA (bs (bG (x*y))))∧Below w.heap.size w w':=by
 have H:=zq (Zc x y w hE h);clear hE h;go_enter func197,ntmps197;go_wp2_with fail
 refine ka H.out fun W1 hb1=>?_;go_wp2;go_ret;exact⟨rfl,hb1⟩
theorem WP(h:Cr 17 a b c d x y)(h0:y≠0):bE aE 196 #[aA (bs (bG x)),aA (bs (bG y))] w fun e w'=>e=bA (aA (bs (bG (x/y))))∧Below w.heap.size w w':=by
 have H:=zq (Zd x y w hE h h0);clear hE h;go_enter func196,ntmps196;go_wp2_with fail
 refine ka H.out fun W1 hb1=>?_;go_wp2;go_ret;exact⟨rfl,hb1⟩
theorem Bj(h:Cr 17 a b c d x y):bE aE 110 #[aA (bs (bG x)),aA (bs (bG y))] w fun e w'=>e=bA (aC aB (nH x y))∧Below w.heap.size w w':=by
 have H:=zq (JI x y w hE h);clear hE h;go_enter func110,ntmps110;go_wp2_with fail
 refine ka H.out fun W1 hb1=>?_;go_wp2;go_ret;exact⟨rfl,hb1⟩
theorem Gi(n:Int)(hn:n.natAbs<10^18):bE aE 194 #[aC aB n] w fun e w'=>e=bA (aA (bs (bG (n:Rat))))∧Below w.heap.size w w':=by
 have H:=zq (Gf n w hE hn);clear hE hn;go_enter func194,ntmps194;go_wp2_with fail
 refine ka H.out fun W1 hb1=>?_;go_wp2;go_ret;exact⟨rfl,hb1⟩
end
theorem Sm.cr{s t:List UInt8}(hs:Sm s)(ht:Sm t):Cr 17 11 6 11 6 (cT s) (cT t):=⟨hs.2,ht.2,by decide,by decide,by decide,by decide,by decide,by decide,by decide⟩
section
variable(s t:List UInt8)(w:aF)(hE:mN w)(hs:Sm s)(ht:Sm t)
include hE hs ht
theorem Tj:bE aE 117 #[aA (bs s),aA (bs t)] w fun e w'=>e=bA (cK #[aC aB (fH s t).1,aC aB 0])∧Below w.heap.size w w':=by
 have:=JI _ _ w hE (hs.cr ht);rwa[hs.eq,ht.eq,show nH (cT s) (cT t)=(fH s t).1 by rw[hs.cmp ht]]at this
theorem mL:bE aE 42 #[aA (bs s),aA (bs t)] w fun e w'=>e=bA (aC aB (fH s t).1)∧Below w.heap.size w w':=by
 have H:=zq (Tj s t w hE hs ht);clear hE hs ht;go_enter func42,ntmps42;go_wp2_with fail
 refine ka H.out fun W1 hb1=>?_;go_wp2;go_ret;exact⟨rfl,hb1⟩
theorem OD:bE aE 76 #[aA (bs s),aA (bs t)] w fun e w'=>e=bA (aC aB (fH s t).1)∧Below w.heap.size w w':=by
 have H:=zq (Tj s t w hE hs ht);clear hE hs ht;go_enter func76,ntmps76;go_wp2_with fail
 refine ka H.out fun W1 hb1=>?_;go_wp2;go_ret;exact⟨rfl,hb1⟩
end
def numF(s:List UInt8):Int:=Iy s
theorem Sm.num{s:List UInt8}(h:Sm s):numF s=0:=h.1
theorem Sm.x17{s:List UInt8}(h:Sm s):HB 17 17 (cT s):=h.2.mono (by decide) (by decide)
theorem OE(z:Int)(w:aF):
 bE aE 210 #[aA (bs (cG z))] w fun e w'=>e=bA (aC aB ((bZ z.natAbs).length:Int))∧w=w':=by
 have HT:=zq (sB (bs (cG z)) {data:= #[45]} w);rw[fY,show({data:= #[45]}:ByteArray).data.toList=[45]from rfl,wI]at HT;have R:bK (((bZ z.natAbs).length:Int)=((bs (bZ z.natAbs)).size:Int)):=by show _=_;rw[lD]
 generalize bs (bZ z.natAbs)=M at *;go_enter func210,ntmps210;go_wp2_with fail
 refine kr HT.out ?_;go_wp2;go_ret;exact⟨by rw[R.out];rfl,rfl⟩
theorem OF(x:Rat)(w:aF)(hE:mN w)(hx:HB 17 17 x):
 bE aE 162 #[aA (bs (bG x))] w fun e w'=>e=bA (aC aB 0)∧Below w.heap.size w w':=by
 have HC:=zq (IG x w hE hx);have HP:=zq (fun(W:aF)(h:Below w.heap.size w W)=>Oz x W (hE.below h) hx);have Te:=zq (fun W=>OE x.num W);have NM:=zq (fun W=>OE (x.den:Int) W);have l1:=iD hx.1 (by decide);have l2:=iD hx.dz (by decide);generalize(bZ x.num.natAbs).length=m at *;generalize(bZ (x.den:Int).natAbs).length=d at *;obtain⟨K,hK⟩:=nm (max (m:Int) (d:Int));have hk:K≤36:=by omega
 clear hE hx;go_enter func162,ntmps162;go_wp2_with fail
 refine ka HC.out fun W1 hb1=>?_;go_wp2_with fail
 refine kc (HP.out _ hb1) hb1 fun W2 hB=>?_;go_wp2_with fail
 refine kr (Te.out _) ?_;go_wp2_with fail
 refine kr (NM.out _) ?_;go_wp2;go_ret;exact⟨rfl,hB⟩
theorem Gj(s:List UInt8)(w:aF)(hE:mN w)(hs:Sm s):
 bE aE 51 #[aA (bs s)] w fun e w'=>e=bA (aC aB (numF s))∧Below w.heap.size w w':=by
 have hx:=hs.x17;have HP:=zq (Oz (cT s) w hE hx);rw[hs.eq]at HP;rw[hs.num];generalize cT s=x at *;have HT:=zq (fun W=>sB (bs (cG x.num)) {data:= #[45]} W);rw[fY,show({data:= #[45]}:ByteArray).data.toList=[45]from rfl,wI]at HT;have l1:=iD hx.1 (by decide);have l2:=wJ hx.2 (by decide);rw[←lD]at l1 l2;generalize bs (cG x.num)=N at *;generalize bs (bZ x.num.natAbs)=M at *;generalize bs (cG (x.den:Int))=D at *;obtain⟨K,hK⟩:=nm (max (M.size:Int) (D.size:Int));have hk:K≤36:=by omega
 clear hE hs hx;go_enter func51,ntmps51;go_wp2_with fail
 refine ka HP.out fun W1 hb1=>?_;go_wp2_with fail
 refine kr (HT.out _) ?_;go_wp2;go_ret;exact⟨rfl,hb1⟩
theorem KO.pair(W:aF)(T:dT)(x y:List UInt8):KO (W.alloc (aN #[aA (bs x),aA (bs y)] T)) (some ⟨W.heap.size,0,none⟩) (dK [x,y]):=by
 intro i hi;refine⟨_,_,rfl,?_⟩;have:=(bT.new W #[aA (bs x),aA (bs y)] T).cell (0+i);rw[this];have Zg:i<2:=hi;rcases(by omega:i=0∨i=1)with rfl|rfl<;>rfl
theorem bT.front{W:aF}{b:Nat}{a0 a1 a2 a3 a4:aP}{T:dT}(h:bT W b #[a0,a1,a2,a3,a4] T):
 W.cell? ⟨b,0,none⟩=some a0∧W.cell? ⟨b,1,none⟩=some a1∧W.cell? ⟨b,2,none⟩=some a2∧W.cell? ⟨b,3,none⟩=some a3∧W.cell? ⟨b,4,none⟩=some a4:=
 ⟨h.cell 0,h.cell 1,h.cell 2,h.cell 3,h.cell 4⟩
theorem OG{W w':aF}{b:Nat}(a0 a1 a2 a3 a4:aP)(hb:Below W.heap.size W w')(h0:W.cell? ⟨b,0,none⟩=some a0)(h1:W.cell? ⟨b,1,none⟩=some a1)(h2:W.cell? ⟨b,2,none⟩=some a2)(h3:W.cell? ⟨b,3,none⟩=some a3)(h4:W.cell? ⟨b,4,none⟩=some a4):
 w'.cell? ⟨b,0,none⟩=some a0∧w'.cell? ⟨b,1,none⟩=some a1∧w'.cell? ⟨b,2,none⟩=some a2∧w'.cell? ⟨b,3,none⟩=some a3∧w'.cell? ⟨b,4,none⟩=some a4:=
 ⟨bR hb h0,bR hb h1,bR hb h2,bR hb h3,bR hb h4⟩
theorem Ap(q:FQ)(hq:q.Good)(w:aF)(hE:mN w):
 bE aE 95 #[q.fr.v] w fun e w'=>e=bA (aC aB 0)∧Below w.heap.size w w':=by
 have h17:∀k,k<2→∃x,[bG q.v,bG q.t].getD k []=bG x∧HB 17 17 x:=by
  intro k hk;rcases(by omega:k=0∨k=1)with rfl|rfl
  ·exact⟨q.v,rfl,hq.hv.mono (by decide) (by decide)⟩
  ·exact⟨q.t,rfl,hq.ht.mono (by decide) (by decide)⟩
 have HC:bK (∀k,k<2→∀W,Below w.heap.size w W→bE aE 85 #[aA (bs ([bG q.v,bG q.t].getD k []))] W fun e w'=>e=bA (aC aB 0)∧Below W.heap.size W w'):=fun k hk W h=>by
  obtain⟨x,e,hx⟩:=h17 k hk;rw[e];exact IG x W (hE.below h) hx
 have HN:bK (∀k,k<2→∀W,Below w.heap.size w W→bE aE 162 #[aA (bs ([bG q.v,bG q.t].getD k []))] W fun e w'=>e=bA (aC aB 0)∧Below W.heap.size W w'):=fun k hk W h=>by
  obtain⟨x,e,hx⟩:=h17 k hk;rw[e];exact OF x W (hE.below h) hx
 have HP:=zq (fun(W:aF)=>Ei (bs (bG q.v)) {data:= #[45]} W);have hv:¬q.v.num<0:=by
  obtain⟨n,d,h1,h2,h3,h4⟩:=hq.v;intro h;have h5:q.v<0:=Rat.not_le.1 fun c=>by have:=Rat.num_nonneg.2 c;omega
  have h6:(0:Rat)<((d:Int):Rat):=by exact_mod_cast (by omega:(0:Int)<d)
  have h7:(0:Rat)≤((n:Int):Rat):=by exact_mod_cast (by omega:(0:Int)≤n)
  rw[←h4]at h7;have:=Rat.mul_lt_mul_of_pos_right h5 h6;grind
 have hp:Lib.hasPrefix (bG q.v) [45]=false:=by
  rw[Bh];have h3:(bG q.v).head? =(cG q.v.num).head? :=by
   rw[An];exact qG fun e=>by have:=Cs q.v.num;rw[e]at this;revert this;decide
  rw[h3];exact decide_eq_false fun e=>hv ((wF _).1 e)
 rw[show(bs (bG q.v)).data.toList=bG q.v from rfl,show({data:= #[45]}:ByteArray).data.toList=[45]from rfl,hp]at HP;have qg:=hq.co0;have hc1:=hq.co1;have hd:=hq.dir;clear hE hq h17 hv hp;obtain⟨up,co,dir,v,t⟩:=q;unfold Fr.v Fr.cells FQ.fr;simp only[]at *;generalize bG v=sp at *;generalize bG t=st at *;have fV:bK (Below w.heap.size w (w.alloc (aN #[aV up,aC aB co,aC aB dir,aA (bs sp),aA (bs st)] 58))∧bT (w.alloc (aN #[aV up,aC aB co,aC aB dir,aA (bs sp),aA (bs st)] 58)) w.heap.size #[aV up,aC aB co,aC aB dir,aA (bs sp),aA (bs st)] 58):=
  ⟨(aL _ w).alloc (aH _) _,bT.new w _ _⟩
 have HSP:=zq (fun W:aF=>KO.pair W 34 sp st);generalize bs sp=SP at *;generalize bs st=ST at *;go_enter func95,ntmps95;go_upto_region 1 with fail
 go_cut[26] (fun v w'=>v=aV false∧w'=w.alloc (aN #[aV up,aC aB co,aC aB dir,aA SP,aA ST] 58));case first =>
  rcases hd with rfl|rfl;all_goals
   go_wp2;go_meet;case rel=>exact⟨by first |rfl|(simp;omega),rfl⟩
 case rest=>
  obtain⟨rfl,rfl⟩:=hcut;go_wp2_with fail
  have Ib:=fV.out.2;have fE:=fV.out.1;obtain⟨W0,eY⟩:=nm (w.alloc (aN #[aV up,aC aB co,aC aB dir,aA SP,aA ST] 58));rw[eY]at Ib fE⊢;have dj:=HSP.out W0;have Sh:=Ib.alloc (aN #[aA SP,aA ST] 34);have hBA:=fE.alloc fE.size (aN #[aA SP,aA ST] 34);have hG:W0.heap.size=w.heap.size+1:=by rw[←eY];simp
  rw[hG]at dj;have HA:=zq (And.intro hBA (And.intro Sh dj));clear eY fV Ib fE dj Sh hBA hG;obtain⟨G,hG⟩:=nm (w.heap.size+1);rw[hG]at HA⊢;clear hG;go_loopw[33] (fun i wr=>∃k:Nat,i=aC aB k∧k≤2∧Below w.heap.size w wr∧bT wr w.heap.size #[aV up,aC aB co,aC aB dir,aA SP,aA ST] 58∧KO wr (some ⟨G,0,none⟩) (dK [sp,st])) (fun i _=>2-(aK i).toNat);case atStart=>exact⟨0,rfl,bM _,HA.out.1,HA.out.2.1,HA.out.2.2⟩
  case round=>
   obtain⟨k,rfl,hk,hB,hb,hrd⟩:=hrel;have Hb:=zq hb;have Hrd:=zq hrd;clear hb hrd;by_cases hlt:k<2
   ·obtain⟨b,off,hab,NO⟩:=Hrd.out k (by exact hlt);injection hab with hab;injection hab with hab1 hab2;subst hab1 hab2;rw[wM [sp,st] (by exact hlt),cC]at NO;have KP:=zq (HC.out k hlt);generalize bs ([sp,st].getD k [])=X at *;go_wp2_with fail
    refine ka (KP.out _ hB) fun W1 hb1=>?_;go_wp2;go_roundw;case rel=>exact⟨k+1,by go_num,by omega,cI hB hb1 hB.size,Hb.out.below hb1 Hb.out.lt,Hrd.out.below hb1⟩
    case measure=>simp only[aK];omega
   ·obtain rfl:k=2:=by omega
    have c3:=Hb.out.ce 3;have c4:=Hb.out.ce 4;have lt:=Hb.out.lt;clear HC hlt hk HA;go_wp2_with fail
    have dj:=HSP.out wr;have Sh:=Hb.out.alloc (aN #[aA SP,aA ST] 34);have hBA:=hB.alloc hB.size (aN #[aA SP,aA ST] 34);have HA:=zq (And.intro hBA (And.intro Sh dj));clear dj Sh hBA hB Hb Hrd c3 c4 lt;generalize wr.heap.size=G2 at *;go_loopw[49] (fun i wr=>∃k:Nat,i=aC aB k∧k≤2∧Below w.heap.size w wr∧bT wr w.heap.size #[aV up,aC aB co,aC aB dir,aA SP,aA ST] 58∧KO wr (some ⟨G2,0,none⟩) (dK [sp,st])) (fun i _=>2-(aK i).toNat);case atStart=>exact⟨0,rfl,bM _,HA.out.1,HA.out.2.1,HA.out.2.2⟩
    case round=>
     obtain⟨k,rfl,hk,hB,hb,hrd⟩:=hrel;have Hb:=zq hb;have Hrd:=zq hrd;clear hb hrd;by_cases hlt:k<2
     ·obtain⟨b,off,hab,NO⟩:=Hrd.out k (by exact hlt);injection hab with hab;injection hab with hab1 hab2;subst hab1 hab2;rw[wM [sp,st] (by exact hlt),cC]at NO;have KP:=zq (HN.out k hlt);generalize bs ([sp,st].getD k [])=X at *;go_wp2_with fail
      refine ka (KP.out _ hB) fun W1 hb1=>?_;go_wp2;go_roundw;case rel=>(repeat apply Exists.intro);exact⟨⟨k+1,by go_num,by omega,cI hB hb1 hB.size,Hb.out.below hb1 Hb.out.lt,Hrd.out.below hb1⟩,rfl⟩
      case measure=>simp[aK];omega
     ·obtain rfl:k=2:=by omega
      have c3:=Hb.out.ce 3;have lt:=Hb.out.lt;clear HN hlt hk HA;go_wp2_with fail
      refine kr (HP.out _) ?_;go_wp2;go_ret;exact⟨rfl,hB⟩
theorem yI(q:FQ)(hq:q.Good)(w:aF)(hE:mN w):
 bE aE 192 #[q.fr.v] w fun e w'=>e=bA (aA (bs (bG q.vel)))∧Below w.heap.size w w':=by
 have HW:=zq (fun(W:aF)(h:Below w.heap.size w W)=>Gi W (hE.below h) q.dir (by have:=hq.dir;omega));have HM:=zq (fun(W:aF)(h:Below w.heap.size w W)=>Qm _ _ W (hE.below h) (show Mu 1 1 2 2 (q.dir:Rat) q.v from⟨hq.hdir,hq.hv,by decide⟩));have HR:bK (q.vel=(q.dir:Rat)*q.v):=rfl;rw[←HR.out]at HM;clear hE hq;obtain⟨up,co,dir,v,t⟩:=q;unfold Fr.v Fr.cells FQ.fr;simp only[]at *;generalize FQ.vel ⟨up,co,dir,v,t⟩=V at *;generalize bs (bG v)=SP at *;generalize bs (bG t)=ST at *;generalize bs (bG (dir:Rat))=DT at *;go_enter func192,ntmps192;go_wp2;have hb:=bT.new w #[aV up,aC aB co,aC aB dir,aA SP,aA ST] 58;have hB:=(aL _ w).alloc (aH _) (aN #[aV up,aC aB co,aC aB dir,aA SP,aA ST] 58);obtain⟨W,hW⟩:=nm (w.alloc (aN #[aV up,aC aB co,aC aB dir,aA SP,aA ST] 58));rw[hW]at hb hB⊢;clear hW;have c2:=hb.ce 2;have c3:=hb.ce 3;have lt:=hb.lt;have HB:=zq hB;clear hb hB;go_region_held3 (fun w'=>w'.cell? ⟨w.heap.size,2,none⟩=some (aC aB dir)∧w'.cell? ⟨w.heap.size,3,none⟩=some (aA SP)) (go_keep)
  (first
   |(go_at_call 194;refine ka (HW.out _ (HB.out.drew)) fun w1 hb=>?_;have k0:=bR hb c2;have k1:=bR hb c3;replace hb:=cI HB.out.drew hb HB.out.size)
   |(go_at_call 197;refine ka (HM.out _ hb) fun w2 hb2=>?_;have k0:=bR hb2 k0;have k1:=bR hb2 k1;replace hb:=cI hb hb2 hb.size)
   |fail)
 go_wp2;go_ret;exact⟨rfl,hb⟩
theorem cmpR_le(x y:Rat):decide (nH x y≤0)=decide (x≤y):=by
 unfold nH;by_cases h:x<y
 ·rw[ip h];simp[pR h]
 ·rw[iN h];by_cases k:y<x
  ·rw[ip k];simp[Rat.not_le.2 k]
  ·rw[iN k];simp[Rat.not_lt.1 k]
theorem Ce.cr{q:FQ}(hq:q.Good){z:Rat}(hz:Ce z):Cr 17 9 4 5 1 z q.t:=⟨hz.hb,hq.ht,by decide⟩
theorem CD(q:FQ)(hq:q.Good)(z:Rat)(hz:Ce z)(w:aF)(hE:mN w):
 bE aE 147 #[q.fr.v,aA (bs (bG z))] w fun e w'=>e=bA (aA (bs (bG (q.pos z))))∧Below w.heap.size w w':=by
 have hs:=hz.hb.sub hq.ht (k:=10) (by decide) (by decide);have hm:=hq.hvel.mul hs;have HC:=zq (fun(W:aF)(h:Below w.heap.size w W)=>Bj _ _ W (hE.below h) (Ce.cr hq hz));have HW:=zq (fun(W:aF)(h:Below w.heap.size w W)=>Gi W (hE.below h) q.co (by have:=hq.co0;have:=hq.co1;omega));have HV:=zq (fun(W:aF)(h:Below w.heap.size w W)=>yI q hq W (hE.below h));have HS:=zq (fun(W:aF)(h:Below w.heap.size w W)=>LD _ _ W (hE.below h) (show Cr 16 9 4 5 1 z q.t from⟨hz.hb,hq.ht,by decide⟩));have HM:=zq (fun(W:aF)(h:Below w.heap.size w W)=>Qm _ _ W (hE.below h) (show Mu 2 2 11 5 q.vel (z-q.t)from⟨hq.hvel,hs,by decide⟩));have HA:=zq (fun(W:aF)(h:Below w.heap.size w W)=>WO _ _ W (hE.below h) (show Cr 16 5 1 13 7 (q.co:Rat) (q.vel*(z-q.t))from⟨hq.hco,hm,by decide⟩));have R1:z≤q.t→bK (q.pos z=(q.co:Rat)):=fun h=>ip h;have R2:¬z≤q.t→bK (q.pos z=(q.co:Rat)+q.vel*(z-q.t)):=fun h=>iN h;have qh:=cmpR_le z q.t;generalize nH z q.t=cm at *;have hp1:z≤q.t→cm≤0:=fun h=>of_decide_eq_true (by rw[qh];exact decide_eq_true h);have hp2:¬z≤q.t→¬cm≤0:=fun h=>of_decide_eq_false (by rw[qh];exact decide_eq_false h);clear hE hq hz qh hs hm;obtain⟨up,co,dir,v,t⟩:=q;unfold Fr.v Fr.cells FQ.fr at *;simp only[]at *;have hb:=bT.new w #[aV up,aC aB co,aC aB dir,aA (bs (bG v)),aA (bs (bG t))] 58;have hB:=(aL _ w).alloc (aH _) (aN #[aV up,aC aB co,aC aB dir,aA (bs (bG v)),aA (bs (bG t))] 58);by_cases hzt:z≤t
 ·have R:=R1 hzt;have hp:=hp1 hzt;clear R1 R2 hp1 hp2 hzt HV HS HM HA;generalize bs (bG v)=SP at *;generalize bs (bG t)=ST at *;generalize bs (bG z)=ZT at *;go_enter func147,ntmps147;go_wp2_with fail
  refine ka (HC.out _ hB) fun W1 hb1=>?_;have hb:=hb.below hb1 hb.lt;have hB:=cI hB hb1 hB.size;have c1:=hb.ce 1;have lt:=hb.lt;clear hb hb1;go_wp2_with fail
  refine kc (HW.out _ hB) hB fun W2 hb2=>?_;go_wp2;go_ret;exact⟨by rw[R.out];rfl,hb2⟩
 ·have R:=R2 hzt;have hp:=hp2 hzt;clear R1 R2 hp1 hp2 hzt;generalize bs (bG v)=SP at *;generalize bs (bG t)=ST at *;generalize bs (bG (co:Rat))=CT at *;generalize bs (bG z)=ZT at *;generalize bs (bG (z-t))=DT at *;generalize bs (bG (FQ.vel ⟨up,co,dir,v,t⟩))=VT at *;generalize bs (bG (FQ.vel ⟨up,co,dir,v,t⟩*(z-t)))=MT at *;go_enter func147,ntmps147;go_wp2_with fail
  refine ka (HC.out _ hB) fun W hb1=>?_;have hb:=hb.below hb1 hb.lt;have hB:=cI hB hb1 hB.size;obtain⟨k0,k1,k2,k3,k4⟩:=hb.front;have lt:=hb.lt;clear hb hb1;have NP:=zq hB.drew;clear hB;go_wp2_with fail
  go_region_held3 (fun w'=>w'.cell? ⟨w.heap.size,0,none⟩=some (aV up)∧w'.cell? ⟨w.heap.size,1,none⟩=some (aC aB co)∧w'.cell? ⟨w.heap.size,2,none⟩=some (aC aB dir)∧w'.cell? ⟨w.heap.size,3,none⟩=some (aA SP)∧w'.cell? ⟨w.heap.size,4,none⟩=some (aA ST)) (go_keep)
   (first
    |(go_at_call 194;refine ka (HW.out _ NP.out) fun w1 hb1=>?_;replace NP:=zq (aQ NP.out hb1);obtain⟨k0,k1,k2,k3,k4⟩:=OG _ _ _ _ _ hb1 k0 k1 k2 k3 k4)
    |(go_at_call 192;refine ka (HV.out _ NP.out) fun w1 hb1=>?_;replace NP:=zq (aQ NP.out hb1);obtain⟨k0,k1,k2,k3,k4⟩:=OG _ _ _ _ _ hb1 k0 k1 k2 k3 k4)
    |(go_at_call 193;refine ka (HS.out _ NP.out) fun w1 hb1=>?_;replace NP:=zq (aQ NP.out hb1);obtain⟨k0,k1,k2,k3,k4⟩:=OG _ _ _ _ _ hb1 k0 k1 k2 k3 k4)
    |(go_at_call 197;refine ka (HM.out _ NP.out) fun w1 hb1=>?_;replace NP:=zq (aQ NP.out hb1);obtain⟨k0,k1,k2,k3,k4⟩:=OG _ _ _ _ _ hb1 k0 k1 k2 k3 k4)
    |(go_at_call 195;refine ka (HA.out _ NP.out) fun w1 hb1=>?_;replace NP:=zq (aQ NP.out hb1);obtain⟨k0,k1,k2,k3,k4⟩:=OG _ _ _ _ _ hb1 k0 k1 k2 k3 k4)
    |fail)
  go_wp2;go_ret;exact⟨by rw[R.out];rfl,NP.out⟩
theorem Tk(q:FQ)(hq:q.Good)(g:Nat)(z:Rat)(hz:Ce z)(w:aF)(hE:mN w)(hc:w.cell? ⟨g,0,none⟩=some (aA (bs (bG z)))):
 bE aE 109 #[q.fr.v,aD (some ⟨g,0,none⟩) 1 1] w fun e w'=>e=bA (aC aB 0)∧Below w.heap.size w w':=by
 have HC:=zq (fun(W:aF)(h:Below w.heap.size w W)=>Ap q hq W (hE.below h));have HN:=zq (fun W(h:Below w.heap.size w W)=>OF z W (hE.below h) (hz.hb.mono (by decide) (by decide)));have Hc:=zq hc;clear hE hq hz hc;unfold Fr.v Fr.cells at *;generalize bs q.fr.sp=SP at *;generalize bs q.fr.st=ST at *;generalize bs (bG z)=X at *;go_enter func109,ntmps109;go_wp2_with fail
 have hB:=(aL _ w).alloc (aH _) (aN #[aV q.fr.up,aC aB q.fr.co,aC aB q.fr.dir,aA SP,aA ST] 58);refine kc (HC.out _ hB) hB fun W1 FD=>?_;clear hB HC;go_wp2;go_loopw[13] (fun i wr=>∃k:Nat,i=aC aB k∧k≤1∧Below w.heap.size w wr) (fun i _=>1-(aK i).toNat);case atStart=>exact⟨0,rfl,bM _,FD⟩
 case round=>
  obtain⟨k,rfl,hk,hB⟩:=hrel;by_cases hlt:k<1
  ·obtain rfl:k=0:=by omega
   have NO:=(hB.cell (p:=⟨g,0,none⟩) (bB w _ Hc.out)).trans Hc.out;go_wp2_with fail
   refine kc (HN.out _ hB) hB fun W2 hb2=>?_;go_wp2;go_roundw;case rel=>exact⟨1,by go_num,by omega,hb2⟩
   case measure=>simp only[aK];omega
  ·obtain rfl:k=1:=by omega
   go_wp2;go_ret;exact⟨rfl,hB⟩
theorem Tl(q:FQ)(hq:q.Good)(z:Rat)(hz:Ce z)(w:aF)(hE:mN w):
 bE aE 98 #[q.fr.v,aA (bs (bG z))] w fun e w'=>e=bA (cK #[aA (bs (bG (q.pos z))),aC aB 0])∧Below w.heap.size w w':=by
 have HC:=zq (fun(W:aF)(h:Below w.heap.size w W)g hc=>Tk q hq g z hz W (hE.below h) hc);have HP:=zq (fun(W:aF)(h:Below w.heap.size w W)=>CD q hq z hz W (hE.below h));clear hE hq hz;unfold Fr.v Fr.cells at *;generalize bs q.fr.sp=SP at *;generalize bs q.fr.st=ST at *;generalize bs (bG z)=ZT at *;generalize bs (bG (q.pos z))=PT at *;go_enter func98,ntmps98;go_wp2_with fail
 have hb:=(bT.new w #[aV q.fr.up,aC aB q.fr.co,aC aB q.fr.dir,aA SP,aA ST] 58).alloc (aN #[aA ZT] 34);have hB:=((aL _ w).alloc (aH _) (aN #[aV q.fr.up,aC aB q.fr.co,aC aB q.fr.dir,aA SP,aA ST] 58)).alloc (by simp) (aN #[aA ZT] 34);have hr:=(bT.new (w.alloc (aN #[aV q.fr.up,aC aB q.fr.co,aC aB q.fr.dir,aA SP,aA ST] 58)) #[aA ZT] 34).ce 0;rw[bH]at hr;refine ka (HC.out _ hB _ hr) fun W1 hb1=>?_;have hb:=hb.below hb1 hb.lt;have hB:=cI hB hb1 hB.size;obtain⟨d0,d1,d2,d3,d4⟩:=hb.front;have lt:=hb.lt;clear hb hb1 hr;go_wp2_with fail
 refine(HP.out _ hB).mono ?_;rintro e W2⟨rfl,hb2⟩;go_wp2;go_ret2;exact⟨rfl,cI hB hb2 hB.size⟩
def Tm(q:FQ)(z:Rat):List UInt8:=if nH z q.t<0 then[48]else bG q.v
theorem dl(q:FQ)(hq:q.Good)(z:Rat)(hz:Ce z)(w:aF)(hE:mN w):
 bE aE 36 #[q.fr.v,aA (bs (bG z))] w fun e w'=>e=bA (cK #[aA (bs (Tm q z)),aC aB 0])∧Below w.heap.size w w':=by
 have HC:=zq (fun(W:aF)(h:Below w.heap.size w W)g hc=>Tk q hq g z hz W (hE.below h) hc);have HP:=zq (fun(W:aF)(h:Below w.heap.size w W)=>Bj _ _ W (hE.below h) (Ce.cr hq hz));have R1:bK (nH z q.t<0→bs (Tm q z)=⟨#[48]⟩):=fun h=>by unfold Tm;rw[ip h];rfl
 have R2:bK (¬nH z q.t<0→bs (Tm q z)=bs (bG q.v)):=fun h=>by unfold Tm;rw[iN h]
 clear hE hq hz;unfold Fr.v Fr.cells FQ.fr at *;simp only[]at *;generalize nH z q.t=cm at *;generalize bs (bG q.v)=SP at *;generalize bs (bG q.t)=ST at *;generalize bs (bG z)=ZT at *;generalize bs (Tm q z)=PT at *;go_enter func36,ntmps36;go_wp2_with fail
 have hb:=(bT.new w #[aV q.up,aC aB q.co,aC aB q.dir,aA SP,aA ST] 58).alloc (aN #[aA ZT] 34);have hB:=((aL _ w).alloc (aH _) (aN #[aV q.up,aC aB q.co,aC aB q.dir,aA SP,aA ST] 58)).alloc (by simp) (aN #[aA ZT] 34);have hr:=(bT.new (w.alloc (aN #[aV q.up,aC aB q.co,aC aB q.dir,aA SP,aA ST] 58)) #[aA ZT] 34).ce 0;rw[bH]at hr;refine ka (HC.out _ hB _ hr) fun W1 hb1=>?_;have hb:=hb.below hb1 hb.lt;have hB:=cI hB hb1 hB.size;obtain⟨d0,d1,d2,d3,d4⟩:=hb.front;have lt:=hb.lt;clear hb1 hr;go_wp2_with fail
 refine(HP.out _ hB).mono ?_;rintro e W2⟨rfl,hb2⟩;have hb:=hb.below hb2 hb.lt;have lM:=cI hB hb2 hB.size;clear d0 d1 d2 d3 d4 lt hb2;obtain⟨d0,d1,d2,d3,d4⟩:=hb.front;have lt:=hb.lt;by_cases hc:cm<0
 ·have R:=R1.out hc;clear R1 R2;go_wp2;go_ret2;exact⟨by rw[R]<;>rfl,lM⟩
 ·have R:=R2.out (by omega);clear R1 R2;go_wp2;go_ret2;exact⟨by rw[R]<;>rfl,lM⟩
theorem Bk(x y:Rat):(x<y∧nH x y= -1)∨(x=y∧nH x y=0)∨(y<x∧nH x y=1):=by
 unfold nH;by_cases h:x<y
 ·exact .inl ⟨h,ip h⟩
 ·by_cases k:y<x
  ·exact .inr (.inr ⟨k,by rw[iN h,ip k]⟩)
  ·exact .inr (.inl ⟨by grind,by rw[iN h,iN k]⟩)
theorem Dx:bG 0=[48]:=by
 show bG ((0:Int):Rat)=_;rw[bG,ip (wU 0),pA,F9]
theorem En(q:FQ)(hq:q.Good)(z:Rat)(hz:Ce z)(w:aF)(hE:mN w):
 bE aE 146 #[q.fr.v,aA (bs (bG z))] w fun e w'=>e=bA (cK #[aA (bs (bG (q.low z))),aA (bs (bG (q.high z)))])∧Below w.heap.size w w':=by
 have HC:=zq (fun(W:aF)(h:Below w.heap.size w W)=>Bj _ _ W (hE.below h) (Ce.cr hq hz));have HV:=zq (fun(W:aF)(h:Below w.heap.size w W)=>yI q hq W (hE.below h));have z0:bs (bG 0)={data:= #[48]}:=by rw[Dx];rfl
 clear hE hq hz;unfold Fr.v Fr.cells at *;generalize hSP:bs q.fr.sp=SP at *;generalize hST:bs (bG q.t)=ST at *;rw[show bs q.fr.st=ST from hST]at *;clear hSP hST;have qh:=Bk z q.t;generalize nH z q.t=cm at *;have R:bK (∀a b,q.low z=a→q.high z=b→(bA (cK #[aA (bs (bG (q.low z))),aA (bs (bG (q.high z)))])=bA (cK #[aA (bs (bG a)),aA (bs (bG b))]))):=by
  intro a b h1 h2;rw[h1,h2]
 have hb:=bT.new w #[aV q.fr.up,aC aB q.fr.co,aC aB q.fr.dir,aA SP,aA ST] 58;have hB:=(aL _ w).alloc (aH _) (aN #[aV q.fr.up,aC aB q.fr.co,aC aB q.fr.dir,aA SP,aA ST] 58);rcases qh with⟨h,rfl⟩|⟨h,rfl⟩|⟨h,rfl⟩
 ·have RR:=zq (R.out 0 0 (ip (pR h)) (ip h));rw[z0]at RR;clear R h z0 HV;generalize bs (bG z)=ZT at *;go_enter VI,RW;go_wp2_with fail
  refine(HC.out _ hB).mono ?_;rintro e W⟨rfl,hb1⟩;go_wp2;go_ret2;exact⟨RR.out.symm,cI hB hb1 hB.size⟩
 ·have RR:=zq (R.out 0 q.vel (ip (by grind)) (iN (by grind)));rw[z0]at RR;clear R h z0;generalize bs (bG z)=ZT at *;generalize bs (bG q.vel)=VT at *;go_enter VI,RW;go_wp2_with fail
  refine(HC.out _ hB).mono ?_;rintro e W⟨rfl,hb1⟩;have hb:=hb.below hb1 hb.lt;have hB:=cI hB hb1 hB.size;obtain⟨d0,d1,d2,d3,d4⟩:=hb.front;have lt:=hb.lt;clear hb hb1;go_wp2_with fail
  refine(HV.out _ hB).mono ?_;rintro e W2⟨rfl,hb2⟩;go_wp2;go_ret2;exact⟨RR.out.symm,cI hB hb2 hB.size⟩
 ·have RR:=zq (R.out q.vel q.vel (iN (by grind)) (iN (by grind)));clear R h z0;generalize bs (bG z)=ZT at *;generalize bs (bG q.vel)=VT at *;go_enter VI,RW;go_wp2_with fail
  refine(HC.out _ hB).mono ?_;rintro e W⟨rfl,hb1⟩;have hb:=hb.below hb1 hb.lt;have hB:=cI hB hb1 hB.size;obtain⟨k0,k1,k2,k3,k4⟩:=hb.front;have lt:=hb.lt;have NP:=zq hB.drew;clear hb hb1 hB;go_wp2_with fail
  go_region_held3 (fun w'=>w'.cell? ⟨w.heap.size,0,none⟩=some (aV q.fr.up)∧w'.cell? ⟨w.heap.size,1,none⟩=some (aC aB q.fr.co)∧w'.cell? ⟨w.heap.size,2,none⟩=some (aC aB q.fr.dir)∧w'.cell? ⟨w.heap.size,3,none⟩=some (aA SP)∧w'.cell? ⟨w.heap.size,4,none⟩=some (aA ST)) (go_keep)
   (first
    |(go_at_call 192;refine ka (HV.out _ NP.out) fun w1 hb1=>?_;replace NP:=zq (aQ NP.out hb1);obtain⟨k0,k1,k2,k3,k4⟩:=OG _ _ _ _ _ hb1 k0 k1 k2 k3 k4)
    |fail)
  go_wp2;go_ret2;exact⟨RR.out.symm,NP.out⟩
def Fr.q(f:Fr):FQ:=⟨f.up,f.co,f.dir,cT f.sp,cT f.st⟩
theorem FQ.fr_q(q:FQ):q.fr.q=q:=by
 cases q;simp only[Fr.q,FQ.fr,gG]
def Fr.Ok(f:Fr):Prop:=f.q.Good∧f.q.fr=f
theorem Fr.Ok.good{f:Fr}(h:f.Ok):f.q.Good∧f.q.fr=f:=h
theorem Fr.Ok.dir{f:Fr}(h:f.Ok):f.dir=1∨f.dir= -1:=h.good.1.dir
theorem FQ.Good.ok{q:FQ}(h:q.Good):q.fr.Ok:=by unfold Fr.Ok;rw[FQ.fr_q];exact⟨h,rfl⟩
def Lz(z:List UInt8):Prop:=Iy z=0∧Ce (cT z)
theorem Lz.sm{z:List UInt8}(h:Lz z):Sm z:=⟨h.1,h.2.hb.mono (by decide) (by decide)⟩
theorem Lz.eq{z:List UInt8}(h:Lz z):bG (cT z)=z:=vw h.1
theorem Lz.of{z:Rat}(h:Ce z):Lz (bG z):=⟨Du (h.hb.hq (k:=9) (by decide) (by decide)) (by decide),by rw[gG];exact h⟩
def Qn(f:Fr)(z:List UInt8):List UInt8:=bG (f.q.pos (cT z))
def fR(fs:List Fr)(z:List UInt8):List (List UInt8):=fs.map fun f=>Qn f z
theorem uA(fs:List Fr)(z:List UInt8):(fR fs z).length=fs.length:=by unfold fR;rw[aZ]
theorem Qo{f:Fr}{z:List UInt8}(hf:f.Ok)(hz:Lz z):Sm (Qn f z):=Sm.of (hf.1.pos_hb hz.2)
theorem atF_sm{fs:List Fr}{z:List UInt8}(hf:∀f∈fs,f.Ok)(hz:Lz z):∀s∈fR fs z,Sm s:=by
 intro s hs;obtain⟨f,h1,rfl⟩:=List.mem_map.1 hs;exact Qo (hf f h1) hz
section
variable(f:Fr)(hf:f.Ok)(z:List UInt8)(hz:Lz z)(w:aF)(hE:mN w)
include hf hz hE
theorem Qp:
 bE aE 98 #[f.v,aA (bs z)] w fun e w'=>e=bA (cK #[aA (bs (Qn f z)),aC aB 0])∧Below w.heap.size w w':=by
 have:=Tl f.q hf.1 (cT z) hz.2 w hE;rwa[hf.2,hz.eq]at this
theorem xq:
 bE aE 36 #[f.v,aA (bs z)] w fun e w'=>e=bA (cK #[aA (bs (Tm f.q (cT z))),aC aB 0])∧Below w.heap.size w w':=by
 have:=dl f.q hf.1 (cT z) hz.2 w hE;rwa[hf.2,hz.eq]at this
end
def WQ(f:Fr)(z:List UInt8):List UInt8:=Tm f.q (cT z)
theorem xt{fs:List Fr}{z:List UInt8}{k:Nat}(hk:k<fs.length):dK ((fR fs z).take (k+1))=dK ((fR fs z).take k)++[aA (bs (Qn (fs.getD k default) z))]:=by
 unfold fR dK;rw[List.take_succ_eq_append_getElem (by rw[aZ];exact hk)];simp[aG,hk]
theorem CE:(Tryz.prog.info? 34).map (fun i=>(i.zero,i.size,i.bytes))=some (some (aA ⟨#[]⟩),1,16):=by kernel_rfl
theorem KO.own{w:aF}{cL e:Nat}{a:Option cO}{n cap:Nat}{xs:List aP}(h:w.ownsRow cL e 1 (aD a n cap) n xs):KO w a xs:=by
 intro i hi;have hl:=h.1;simp only[Nat.mul_one]at hl;rcases h.2 with⟨_,h2⟩|⟨g,c,oL,hv,_⟩
 ·omega
 ·injection hv with e1 e2 e3;subst e1 e3;refine⟨g,0,rfl,?_⟩;have:=dZ h i (by omega);rw[cC,this];simp[aG,bN hi]
theorem Qq{w:aF}{cM:Array Oper}{rest:List Oper}{o:Oper}{a:Act}{Q:Exit→Act→aF→Prop}(FN:o.guard=none)(s x:Operand)
 (ho:o.op=.call {callee:=.builtin .append,args:= #[s,x],argTypes:= #[62,62]})(cL:Nat)
 (v:aP)(n:Nat)(xs:List aP)(hs:a.eval s=v)(dI:w.ownsRow cL 34 1 v n xs)
 (y:ByteArray)(hx:a.eval x=aD (some ⟨w.heap.size,0,none⟩) 1 1)
 (Np:n+1≤2147483648)(jH:cL≤w.heap.size)
 (h:∀g cap w',w'.ownsRow cL 34 1 (aD (some ⟨g,0,none⟩) (n+1) cap) (n+1) (xs++[aA y])→cL≤g→w.grownBy w' v.ownBlock→
  wpList aE cM Q rest (a.put o.dst (aD (some ⟨g,0,none⟩) (n+1) cap)) w'):
 wpList aE cM Q (o::rest) a (w.alloc (aN #[aA y] 34)):=by
 obtain⟨i0,hi,yH,zB,sS⟩:=info_parts CE;exact uE FN s x 62 ho cL 34 i0 (aA ⟨#[]⟩) 1 16 underlying62 hi yH zB sS rfl (by decide) v n xs hs dI [aA y] hx rfl (by simp[Value.oneCell']) Np (by decide) jH h
structure Pt where
 side:Int
 fr:List UInt8
 en:List UInt8
abbrev Pt.cells(p:Pt):Array aP:= #[aC aB p.side,aA (bs p.fr),aA (bs p.en)]
abbrev Pt.v(p:Pt):aP:=cF p.cells
instance:Inhabited Pt:=⟨⟨0,[],[]⟩⟩
structure Lp where
 a:Option cO
 cap:Nat
 ps:List Pt
def Lp.v(l:Lp):aP:=aD l.a l.ps.length l.cap
instance:Inhabited Lp:=⟨⟨none,0,[]⟩⟩
def vT(W:aF)(a:Option cO)(fs:List Fr):Prop:=
 ∀i,i<fs.length→∃b off,a=some ⟨b,off,none⟩∧∀j,j<5→W.cell? ⟨b,off+i*5+j,none⟩=some ((fs.getD i default).cells.getD j aO)
def FE(W:aF)(a:Option cO)(ps:List Pt):Prop:=
 ∀i,i<ps.length→∃b off,a=some ⟨b,off,none⟩∧∀j,j<3→W.cell? ⟨b,off+i*3+j,none⟩=some ((ps.getD i default).cells.getD j aO)
def E5(W:aF)(a:Option cO)(ls:List Lp):Prop:=
 ∀i,i<ls.length→∃b off,a=some ⟨b,off,none⟩∧W.cell? ⟨b,off+i,none⟩=some (ls.getD i default).v∧FE W (ls.getD i default).a (ls.getD i default).ps
def yJ(W:aF)(a:Option cO)(xs:List (List UInt8)):Prop:=
 ∀i,i<xs.length→∃b off,a=some ⟨b,off,none⟩∧W.cell? ⟨b,off+i,none⟩=some (aA (bs (xs.getD i [])))
theorem vT.below{w w':aF}{a:Option cO}{fs:List Fr}(h:vT w a fs)(hb:Below w.heap.size w w'):vT w' a fs:=by
 intro i hi;obtain⟨b,off,rfl,hc⟩:=h i hi;exact⟨b,off,rfl,fun j hj=>(hb.cell (p:=⟨b,off+i*5+j,none⟩) (bB w _ (hc j hj))).trans (hc j hj)⟩
theorem FE.below{w w':aF}{a:Option cO}{ps:List Pt}(h:FE w a ps)(hb:Below w.heap.size w w'):FE w' a ps:=by
 intro i hi;obtain⟨b,off,rfl,hc⟩:=h i hi;exact⟨b,off,rfl,fun j hj=>(hb.cell (p:=⟨b,off+i*3+j,none⟩) (bB w _ (hc j hj))).trans (hc j hj)⟩
theorem E5.below{w w':aF}{a:Option cO}{ls:List Lp}(h:E5 w a ls)(hb:Below w.heap.size w w'):E5 w' a ls:=by
 intro i hi;obtain⟨b,off,rfl,hc,hp⟩:=h i hi;exact⟨b,off,rfl,(hb.cell (p:=⟨b,off+i,none⟩) (bB w _ hc)).trans hc,hp.below hb⟩
theorem yJ.below{w w':aF}{a:Option cO}{xs:List (List UInt8)}(h:yJ w a xs)(hb:Below w.heap.size w w'):yJ w' a xs:=by
 intro i hi;obtain⟨b,off,rfl,hc⟩:=h i hi;exact⟨b,off,rfl,(hb.cell (p:=⟨b,off+i,none⟩) (bB w _ hc)).trans hc⟩
theorem xu{w:aF}{a:Option cO}{xs:List (List UInt8)}(h:KO w a (dK xs)):yJ w a xs:=by
 intro i hi;have:=h i (by rw[oP];exact hi);rwa[wM xs hi]at this
theorem yJ.one(w:aF)(z:List UInt8):yJ (w.alloc (aN #[aA (bs z)] 34)) (some ⟨w.heap.size,0,none⟩) [z]:=by
 intro i hi;have hi:i<1:=hi;obtain rfl:i=0:=by omega
 exact⟨_,_,rfl,(bT.new w #[aA (bs z)] 34).cell 0⟩
theorem vT.at{w:aF}{a:Option cO}{fs:List Fr}(h:vT w a fs){i:Nat}(hi:i<fs.length){f:Fr}(hf:fs.getD i default=f):∃b off,a=some ⟨b,off,none⟩∧
 w.cell? ⟨b,off+i*5,none⟩=some (aV f.up)∧w.cell? ⟨b,off+i*5+1,none⟩=some (aC aB f.co)∧w.cell? ⟨b,off+i*5+2,none⟩=some (aC aB f.dir)∧
 w.cell? ⟨b,off+i*5+3,none⟩=some (aA (bs f.sp))∧w.cell? ⟨b,off+i*5+4,none⟩=some (aA (bs f.st)):=by
 obtain⟨b,off,rfl,hc⟩:=h i hi;subst hf;exact⟨b,off,rfl,hc 0 (by decide),hc 1 (by decide),hc 2 (by decide),hc 3 (by decide),hc 4 (by decide)⟩
theorem FE.at{w:aF}{a:Option cO}{ps:List Pt}(h:FE w a ps){i:Nat}(hi:i<ps.length){p:Pt}(hp:ps.getD i default=p):∃b off,a=some ⟨b,off,none⟩∧
 w.cell? ⟨b,off+i*3,none⟩=some (aC aB p.side)∧w.cell? ⟨b,off+i*3+1,none⟩=some (aA (bs p.fr))∧w.cell? ⟨b,off+i*3+2,none⟩=some (aA (bs p.en)):=by
 obtain⟨b,off,rfl,hc⟩:=h i hi;subst hp;exact⟨b,off,rfl,hc 0 (by decide),hc 1 (by decide),hc 2 (by decide)⟩
theorem E5.at{w:aF}{a:Option cO}{ls:List Lp}(h:E5 w a ls){i:Nat}(hi:i<ls.length){l:Lp}(hl:ls.getD i default=l):∃b off,a=some ⟨b,off,none⟩∧
 w.cell? ⟨b,off+i,none⟩=some (aD l.a l.ps.length l.cap)∧FE w l.a l.ps:=by
 obtain⟨b,off,rfl,hc,hp⟩:=h i hi;subst hl;exact⟨b,off,rfl,hc,hp⟩
theorem dm (g:BS) (lb:Array aP) (eg:∀ args w,(rL g args).run aE w= .ok (.enter g args) w) (a:Option cO) (n cap:Nat) (xs:List Fr) (p:Nat→Bool) (w:aF)
 (hn:xs.length=n) (qJ:n≤9223372036854775807) (hc:vT w a xs)
 (hp:∀ i,i < n→∀ W,Below w.heap.size w W→bE aE g (#[(xs.getD i default).v] ++ lb) W (Rt (aV (p i)) W)) :
 bE aE 161 #[aD a n cap, .func (.func g) #[] lb] w (Rt (aC aB (mC p n)) w):=by
 have Hc:=zq hc;have Hn:=zq hn;have Hp:=zq hp;clear hc hn hp;go_enter func161,ntmps161;go_wp2;go_loopw [5,8] (fun _ i wr=> ∃ k:Nat,i=aC aB k∧k≤n∧Below w.heap.size w wr∧bK (mC p k= -1)) (fun _ i _=> n - (aK i).toNat);case atStart=> exact⟨0,rfl,bM _,aL _ w,rfl⟩
 case round=>
  obtain⟨k,rfl,hk,hB,hz⟩:=hrel;by_cases hlt:k < n
  ·obtain⟨b,off,rfl,c0,c1,c2,c3,c4⟩:=(Hc.out.below hB).at (i:=k) (by rw [Hn.out];exact hlt) rfl;have IJ:=zq (Hp.out k hlt);unfold Fr.v Fr.cells at IJ;generalize xs.getD k default=x at *;cases hq:p k with
   | true=>
    rw [hq] at IJ;have R:bK (mC p n=k):=Ag hz.out hq hlt;clear hq;go_wp2_with fail
    refine(IJ.out _ hB).mono ?_;rintro e W1 ⟨rfl,hb1⟩;go_wp2;go_ret;exact⟨by rw [R.out] <;> rfl,cI hB hb1 hB.size⟩
   | false=>
    rw [hq] at IJ;have sS:bK (mC p (k + 1)= -1):=Af hz.out hq;clear hq;go_wp2_with fail
    refine(IJ.out _ hB).mono ?_;rintro e W1 ⟨rfl,hb1⟩;go_wp2;go_roundw;case rel=> exact⟨k + 1,by go_num,by omega,cI hB hb1 hB.size,sS⟩
    case measure=> simp only [aK];omega
  ·obtain rfl:n=k:=by omega
   go_wp2;go_ret;exact⟨by rw [hz.out] <;> rfl,hB⟩
theorem dp(g:BS)(lb:Array aP)(eg:∀args w,(rL g args).run aE w=.ok (.enter g args) w)(a:Option cO)(n cap:Nat)(xs:List Fr)(p:Nat→Bool)(w:aF)
 (hn:xs.length=n)(qJ:n≤9223372036854775807)(hc:vT w a xs)
 (hp:∀i,i<n→∀W,Below w.heap.size w W→bE aE g (#[(xs.getD i default).v]++lb) W (Rt (aV (p i)) W)):
 bE aE 93 #[aD a n cap,.func (.func g) #[] lb] w (Rt (aV (anyN p n)) w):=by
 have HI:=zq (dm g lb eg a n cap xs p w hn qJ hc hp);have R:bK (∀c,mC p n=c→anyN p n=decide (0≤c)):=fun c h=>by rw[←h];exact Ah p n
 clear hp hc hn;generalize mC p n=c at *;have R:=zq (R.out c rfl);go_enter func93,ntmps93;go_wp2_with fail
 refine HI.out.mono ?_;rintro e W1⟨rfl,hb1⟩;go_wp2;go_ret;exact⟨by rw[R.out]<;>rfl,hb1⟩
theorem xw (g:BS) (lb:Array aP) (eg:∀ args w,(rL g args).run aE w= .ok (.enter g args) w) (a:Option cO) (n cap:Nat) (xs:List Pt) (p:Nat→Bool) (w:aF)
 (hn:xs.length=n) (qJ:n≤9223372036854775807) (hc:FE w a xs)
 (hp:∀ i,i < n→∀ W,Below w.heap.size w W→bE aE g (#[(xs.getD i default).v] ++ lb) W (Rt (aV (p i)) W)) :
 bE aE 120 #[aD a n cap, .func (.func g) #[] lb] w (Rt (aC aB (mC p n)) w):=by
 have Hc:=zq hc;have Hn:=zq hn;have Hp:=zq hp;clear hc hn hp;go_enter func120,ntmps120;go_wp2;go_loopw [5,8] (fun _ i wr=> ∃ k:Nat,i=aC aB k∧k≤n∧Below w.heap.size w wr∧bK (mC p k= -1)) (fun _ i _=> n - (aK i).toNat);case atStart=> exact⟨0,rfl,bM _,aL _ w,rfl⟩
 case round=>
  obtain⟨k,rfl,hk,hB,hz⟩:=hrel;by_cases hlt:k < n
  ·obtain⟨b,off,rfl,c0,c1,c2⟩:=(Hc.out.below hB).at (i:=k) (by rw [Hn.out];exact hlt) rfl;have IJ:=zq (Hp.out k hlt);unfold Pt.v Pt.cells at IJ;generalize xs.getD k default=x at *;cases hq:p k with
   | true=>
    rw [hq] at IJ;have R:bK (mC p n=k):=Ag hz.out hq hlt;clear hq;go_wp2_with fail
    refine(IJ.out _ hB).mono ?_;rintro e W1 ⟨rfl,hb1⟩;go_wp2;go_ret;exact⟨by rw [R.out] <;> rfl,cI hB hb1 hB.size⟩
   | false=>
    rw [hq] at IJ;have sS:bK (mC p (k + 1)= -1):=Af hz.out hq;clear hq;go_wp2_with fail
    refine(IJ.out _ hB).mono ?_;rintro e W1 ⟨rfl,hb1⟩;go_wp2;go_roundw;case rel=> exact⟨k + 1,by go_num,by omega,cI hB hb1 hB.size,sS⟩
    case measure=> simp only [aK];omega
  ·obtain rfl:n=k:=by omega
   go_wp2;go_ret;exact⟨by rw [hz.out] <;> rfl,hB⟩
theorem Tn(g:BS)(lb:Array aP)(eg:∀args w,(rL g args).run aE w=.ok (.enter g args) w)(a:Option cO)(n cap:Nat)(xs:List Pt)(p:Nat→Bool)(w:aF)
 (hn:xs.length=n)(qJ:n≤9223372036854775807)(hc:FE w a xs)
 (hp:∀i,i<n→∀W,Below w.heap.size w W→bE aE g (#[(xs.getD i default).v]++lb) W (Rt (aV (p i)) W)):
 bE aE 46 #[aD a n cap,.func (.func g) #[] lb] w (Rt (aV (anyN p n)) w):=by
 have HI:=zq (xw g lb eg a n cap xs p w hn qJ hc hp);have R:bK (∀c,mC p n=c→anyN p n=decide (0≤c)):=fun c h=>by rw[←h];exact Ah p n
 clear hp hc hn;generalize mC p n=c at *;have R:=zq (R.out c rfl);go_enter func46,ntmps46;go_wp2_with fail
 refine HI.out.mono ?_;rintro e W1⟨rfl,hb1⟩;go_wp2;go_ret;exact⟨by rw[R.out]<;>rfl,hb1⟩
theorem xx (g:BS) (lb:Array aP) (eg:∀ args w,(rL g args).run aE w= .ok (.enter g args) w) (a:Option cO) (n cap:Nat) (xs:List Lp) (p:Nat→Bool) (w:aF)
 (hn:xs.length=n) (qJ:n≤9223372036854775807) (hc:E5 w a xs)
 (hp:∀ i,i < n→∀ W,Below w.heap.size w W→bE aE g (#[aD (xs.getD i default).a (xs.getD i default).ps.length (xs.getD i default).cap] ++ lb) W (Rt (aV (p i)) W)) :
 bE aE 163 #[aD a n cap, .func (.func g) #[] lb] w (Rt (aC aB (mC p n)) w):=by
 have Hc:=zq hc;have Hn:=zq hn;have Hp:=zq hp;clear hc hn hp;go_enter func163,ntmps163;go_wp2;go_loopw [5,8] (fun _ i wr=> ∃ k:Nat,i=aC aB k∧k≤n∧Below w.heap.size w wr∧bK (mC p k= -1)) (fun _ i _=> n - (aK i).toNat);case atStart=> exact⟨0,rfl,bM _,aL _ w,rfl⟩
 case round=>
  obtain⟨k,rfl,hk,hB,hz⟩:=hrel;by_cases hlt:k < n
  ·obtain⟨b,off,rfl,c0,_⟩:=(Hc.out.below hB).at (i:=k) (by rw [Hn.out];exact hlt) rfl;have IJ:=zq (Hp.out k hlt);generalize xs.getD k default=x at *;cases hq:p k with
   | true=>
    rw [hq] at IJ;have R:bK (mC p n=k):=Ag hz.out hq hlt;clear hq;go_wp2_with fail
    refine(IJ.out _ hB).mono ?_;rintro e W1 ⟨rfl,hb1⟩;go_wp2;go_ret;exact⟨by rw [R.out] <;> rfl,cI hB hb1 hB.size⟩
   | false=>
    rw [hq] at IJ;have sS:bK (mC p (k + 1)= -1):=Af hz.out hq;clear hq;go_wp2_with fail
    refine(IJ.out _ hB).mono ?_;rintro e W1 ⟨rfl,hb1⟩;go_wp2;go_roundw;case rel=> exact⟨k + 1,by go_num,by omega,cI hB hb1 hB.size,sS⟩
    case measure=> simp only [aK];omega
  ·obtain rfl:n=k:=by omega
   go_wp2;go_ret;exact⟨by rw [hz.out] <;> rfl,hB⟩
theorem To(g:BS)(lb:Array aP)(eg:∀args w,(rL g args).run aE w=.ok (.enter g args) w)(a:Option cO)(n cap:Nat)(xs:List Lp)(p:Nat→Bool)(w:aF)
 (hn:xs.length=n)(qJ:n≤9223372036854775807)(hc:E5 w a xs)
 (hp:∀i,i<n→∀W,Below w.heap.size w W→bE aE g (#[aD (xs.getD i default).a (xs.getD i default).ps.length (xs.getD i default).cap]++lb) W (Rt (aV (p i)) W)):
 bE aE 96 #[aD a n cap,.func (.func g) #[] lb] w (Rt (aV (anyN p n)) w):=by
 have HI:=zq (xx g lb eg a n cap xs p w hn qJ hc hp);have R:bK (∀c,mC p n=c→anyN p n=decide (0≤c)):=fun c h=>by rw[←h];exact Ah p n
 clear hp hc hn;generalize mC p n=c at *;have R:=zq (R.out c rfl);go_enter func96,ntmps96;go_wp2_with fail
 refine HI.out.mono ?_;rintro e W1⟨rfl,hb1⟩;go_wp2;go_ret;exact⟨by rw[R.out]<;>rfl,hb1⟩
def uH(f:Fr):Int:=if f.up=true then(if 0<f.dir then 3 else 1)else(if 0<f.dir then 0 else 2)
def E6(f:Fr):Int:=if f.up=true then -f.dir else f.dir
def xy(d:Int):Int:=if d<2 then 1 else -1
theorem Zh{f:Fr}(h:f.dir=1∨f.dir= -1):xy (uH f)=E6 f:=by
 unfold xy uH E6;cases f.up<;>rcases h with e|e<;>rw[e]<;>decide
theorem sE(f:Fr)(w:aF):
 bE aE 49 #[f.v] w (Rt (aC aB (uH f)) w):=by
 obtain⟨up,co,dir,sp,st⟩:=f;have R:bK (uH ⟨up,co,dir,sp,st⟩=if up=true then(if 0<dir then 3 else 1)else(if 0<dir then 0 else 2)):=rfl;unfold Fr.v Fr.cells;simp only[];have hB:=zq ((aL _ w).alloc (aH _) (aN #[aV up,aC aB co,aC aB dir,aA (bs sp),aA (bs st)] 58));generalize bs sp=SP at *;generalize bs st=ST at *;cases up;case' false=>have R2:bK (uH ⟨false,co,dir,sp,st⟩=if 0<dir then 0 else 2):=R;clear R;have R:=R2;clear R2
 case' true=>have R2:bK (uH ⟨true,co,dir,sp,st⟩=if 0<dir then 3 else 1):=R;clear R;have R:=R2;clear R2
 all_goals
  by_cases hd:0<dir;case' pos=>rw[ip hd]at R
  case' neg=>rw[iN hd]at R
  all_goals
   go_enter func49,ntmps49;go_wp2;go_ret;exact⟨by rw[R.out]<;>rfl,hB.out⟩
theorem OH(d:Int)(w:aF):
 bE aE 48 #[aC aB d] w fun e w'=>e=bA (aC aB (xy d))∧w=w':=by
 by_cases h:d<2;case' pos=>have R:bK (xy d=1):=ip h
 case' neg=>have R:bK (xy d= -1):=iN h
 all_goals
  go_enter func48,ntmps48;go_wp2;go_ret;exact⟨by rw[R.out]<;>rfl,rfl⟩
theorem Gl{p:Nat→Bool}:∀{n:Nat},(∀i,i<n→p i=false)→anyN p n=false
 |0,_=>rfl
 |n+1,h=>by rw[anyN,Gl fun i hi=>h i (by omega),h n (by omega)];rfl
theorem tr_new1(f:Fr)(w:aF)(hE:mN w)(hf:f.Ok):
 bE aE 94 #[f.v] w (Rt (aV false) w):=by
 have HC:bK (∀W,Below w.heap.size w W→bE aE 95 #[f.v] W (Rt (aC aB 0) W)):=fun W h=>by
  have:=Ap f.q hf.1 W (hE.below h);rwa[hf.2]at this
 have hB:=(aL _ w).alloc (aH _) (aN f.cells 58);clear hE hf;obtain⟨up,co,dir,sp,st⟩:=f;unfold Fr.v Fr.cells at *;simp only[]at *;generalize bs sp=SP at *;generalize bs st=ST at *;go_enter func94,ntmps94;go_wp2_with fail
 refine kc (HC.out _ hB) hB fun W1 hb1=>?_;go_wp2;go_ret;exact⟨rfl,hb1⟩
theorem tr_new2(a:Option cO)(n cap:Nat)(hn:n≤96)(w:aF):
 bE aE 97 #[aD a n cap] w fun e w'=>e=bA (aV false)∧w=w':=by
 have h:¬(96:Int)<(n:Int):=by omega
 go_enter func97,ntmps97;go_wp2;go_ret;exact⟨rfl,rfl⟩
def dr(a:Option cO)(n ca:Nat)(fs:List Fr)(zs:List (List UInt8))(w:aF)(e:Ending)(w':aF):Prop:=
 (∃a2 n2 c2,e=bA (cK #[cF #[aD a n ca,aD a2 n2 c2],aC aB 0])∧(0<zs.length→n2=n∧yJ w' a2 (fR fs (zs.getD 0 []))))∧Below w.heap.size w w'
theorem bT.two{W:aF}{b:Nat}{x y:aP}{T:dT}(h:bT W b #[x,y] T):W.cell? ⟨b,0,none⟩=some x∧W.cell? ⟨b,1,none⟩=some y∧W.frozen? ⟨b,0,none⟩=false∧W.frozen? ⟨b,1,none⟩=false∧b<W.heap.size:=
 ⟨h.cell 0,h.cell 1,h.fz 0,h.fz 1,h.lt⟩
def Tp(ls:List Lp):Prop:=∀l∈ls,l.ps.length≤96∧∀p∈l.ps,Sm p.fr∧Sm p.en
structure Kf(w:aF)(a b:Option cO)(n m:Nat)(fs:List Fr)(ls:List Lp):Prop where
 hf:fs.length=n
 hl:ls.length=m
 hn:n≤24
 hm:m≤24
 hF:∀f∈fs,f.Ok
 hL:Tp ls
 rf:vT w a fs
 rl:E5 w b ls
theorem Kf.below{w w':aF}{a b:Option cO}{n m:Nat}{fs:List Fr}{ls:List Lp}(h:Kf w a b n m fs ls)(hb:Below w.heap.size w w'):Kf w' a b n m fs ls:=
 {h with rf:=h.rf.below hb,rl:=h.rl.below hb}
theorem sF (a b c:Option cO) (n m k ca cb cc:Nat) (fs:List Fr) (ls:List Lp) (zs:List (List UInt8)) (w:aF) (hE:mN w)
 (hT:Kf w a b n m fs ls) (hz:zs.length=k) (hk:k≤1000000) (hzs:∀ z∈zs,Lz z) (rz:yJ w c zs) :
 bE aE 32 #[aD a n ca,aD b m cb,aD c k cc] w (dr a n ca fs zs w):=by
 obtain⟨hf,hl,hn,hm,NQ,Ns,rf,rl⟩:=hT;have HA:bK (∀ W,Below w.heap.size w W→bE aE 93 #[aD a n ca, .func (.func 94) #[] #[]] W (Rt (aV false) W)):=fun W hW=> by
  have:=dp 94 #[] (mB func94 (by kernel_rfl) rfl) a n ca fs (fun _=> false) W hf (by omega) (rf.below hW) (fun i hi W2 h2=> by
   rw [Hu];exact tr_new1 _ W2 (hE.below (hW.trans (h2.mono hW.size))) (NQ _ (bU (by rw [hf];exact hi) default)))
  rwa [Gl fun _ _=> rfl] at this
 have HL:bK (∀ W,Below w.heap.size w W→bE aE 96 #[aD b m cb, .func (.func 97) #[] #[]] W (Rt (aV false) W)):=fun W hW=> by
  have:=To 97 #[] (mB func97 (by kernel_rfl) rfl) b m cb ls (fun _=> false) W hl (by omega) (rl.below hW) (fun i hi W2 h2=> by
   rw [Hu];refine(tr_new2 _ _ _ (Ns _ (bU (by rw [hl];exact hi) default)).1 W2).mono ?_;rintro e w' ⟨h1,rfl⟩;exact⟨h1,aL _ _⟩)
  rwa [Gl fun _ _=> rfl] at this
 have HZ:bK (∀ i,i < k→∀ W,Below w.heap.size w W→bE aE 51 #[aA (bs (zs.getD i []))] W (Rt (aC aB 0) W)):=fun i hi W h=> by
  have h1:=(hzs _ (bU (by rw [hz];exact hi) [])).sm;have:=Gj (zs.getD i []) W (hE.below h) h1;rwa [h1.num] at this
 have HP:bK (0 < k→∀ i,i < n→∀ W,Below w.heap.size w W→bE aE 98 #[(fs.getD i default).v,aA (bs (zs.getD 0 []))] W (Rt (cK #[aA (bs (Qn (fs.getD i default) (zs.getD 0 []))),aC aB 0]) W)):=fun hk0 i hi W h=>
  Qp _ (NQ _ (bU (by rw [hf];exact hi) default)) _ (hzs _ (bU (by rw [hz];exact hk0) [])) W (hE.below h)
 have HT:bK (∀ i,i < n→dK ((fR fs (zs.getD 0 [])).take (i + 1))=dK ((fR fs (zs.getD 0 [])).take i) ++ [aA (bs (Qn (fs.getD i default) (zs.getD 0 [])))]):=fun i hi=> xt (by rw [hf];exact hi);have HLn:bK ((fR fs (zs.getD 0 [])).take n=fR fs (zs.getD 0 [])):=List.take_of_length_le (by rw [uA,hf];exact aH _);have Hf:=zq hf;have Hz:=zq hz;have Rf:=zq rf;have Rz:=zq rz;have Q0:=zq (bT.new w #[aD none 0 0,aD none 0 0] 64);have fV:=zq ((aL w.heap.size w).alloc (aH _) (aN #[aD none 0 0,aD none 0 0] 64));clear hE hf hl hz NQ hzs Ns rf rl rz;go_enter func32,ntmps32;go_wp2_with fail
 refine ka (HA.out _ fV.out) fun W1 hb1=> ?_;have FD:=cI fV.out hb1 fV.out.size;have Q1:=zq (Q0.out.below hb1 Q0.out.lt);clear hb1 HA Q0 fV;go_wp2;go_loopw [26] (fun i wr=> ∃ j:Nat,i=aC aB j∧j≤k∧bK (Below w.heap.size w wr)∧bK (bT wr w.heap.size #[aD none 0 0,aD none 0 0] 64)) (fun i _=> k - (aK i).toNat);case atStart=> exact⟨0,rfl,bM _,FD,Q1.out⟩
 case round=>
  clear FD Q1;obtain⟨j,rfl,hj,HB,HQ⟩:=hrel;by_cases hlt:j < k
  ·obtain⟨p,off,rfl,c0⟩:=(Rz.out.below HB.out) j (by rw [Hz.out];exact hlt);have HZj:=zq (HZ.out j hlt);generalize bs (zs.getD j [])=Z at *;go_wp2_with fail
   refine ka (HZj.out _ HB.out) fun W2 hb2=> ?_;go_wp2;go_roundw;case rel=> exact⟨j + 1,by go_num,by omega,cI HB.out hb2 HB.out.size,HQ.out.below hb2 HQ.out.lt⟩
   case measure=> simp only [aK];omega
  ·obtain rfl:k=j:=by omega
   clear HZ hlt;rename aF=> wB;go_wp2_with fail
   refine ka (HL.out _ HB.out) fun W3 hb3=> ?_;have Dw:=zq (cI HB.out hb3 HB.out.size);have Q3:=zq (HQ.out.below hb3 HQ.out.lt);clear hb3 HB HQ HL;obtain⟨d0,d1,f0,f1,lt⟩:=Q3.out.two;have hBA:=Dw.out.alloc Dw.out.size (aN #[aD a n ca,aD none 0 0] 64);have qA:=bT.new W3 #[aD a n ca,aD none 0 0] 64;have q6:=Q3.out.alloc (aN #[aD a n ca,aD none 0 0] 64);by_cases hk0:0 < k
   ·have HPb:=zq (HP.out hk0);obtain⟨pz,oz,rfl, -⟩:=Rz.out 0 (by rw [Hz.out];exact hk0);have HZc:bK (∀ W,Below w.heap.size w W→W.cell? ⟨pz,oz,none⟩=some (aA (bs (zs.getD 0 [])))):=fun W hW=> by
     obtain⟨p',o',e1,h1⟩:=(Rz.out.below hW) 0 (by rw [Hz.out];exact hk0);injection e1 with e1;injection e1 with e1 e2;subst e1 e2;exact h1
    clear HP d0 d1 f0 f1 lt;generalize hZ:zs.getD 0 []=z0 at *;have HZe:=zq hZ;clear hZ;have WR:=zq hBA;have QA:=zq qA;have Q6:=zq q6;have hlt3:w.heap.size < W3.heap.size:=Q3.out.lt;clear hBA qA q6 Dw Q3;go_wp2;obtain⟨G,hG⟩:∃ G,W3.heap.size=G:=⟨_,rfl⟩;rw [hG] at QA hlt3 ⊢;obtain⟨WA,NR⟩:∃ W,W3.alloc (aN #[aD a n ca,aD none 0 0] 64)=W:=⟨_,rfl⟩;rw [NR] at QA Q6 WR ⊢;clear hG NR;go_loopw [52] (fun i wr=> ∃ (j:Nat) (v:aP),i=aC aB j∧j≤n∧bK (Below w.heap.size w wr)∧bK (bT wr w.heap.size #[aD none 0 0,aD none 0 0] 64)∧bK (bT wr G #[aD a n ca,v] 64)∧bK (wr.ownsRow (G + 1) 34 1 v j (dK ((fR fs z0).take j)))) (fun i _=> n - (aK i).toNat);case atStart=> exact⟨0,_,rfl,bM _,WR.out,Q6.out,QA.out,⟨by simp [dK], .inl ⟨rfl,rfl⟩⟩⟩
    case round=>
     clear WR Q6 QA;obtain⟨j,v,rfl,hj,HB,Q6,QT,pU⟩:=hrel;by_cases hlt:j < n
     ·obtain⟨b1,off,rfl,c0,c1,c2,c3,c4⟩:=(Rf.out.below HB.out).at (i:=j) (by rw [Hf.out];exact hlt) rfl;have HPj:=zq (HPb.out j hlt);have HTj:=zq (HT.out j hlt);have hzc:=HZc.out _ HB.out;have hbl:b1 < wr.heap.size:=bB wr ⟨b1,off + j * 5,none⟩ c0;unfold Fr.v Fr.cells at HPj;generalize fs.getD j default=f at *;obtain⟨uY,fco,fdir,JJ,fst⟩:=f;simp only [] at *;generalize bs (Qn ⟨uY,fco,fdir,JJ,fst⟩ z0)=Y at *;generalize bs JJ=FSP at *;generalize bs fst=FST at *;generalize bs z0=Z at *;have HBb:=zq (HB.out.alloc HB.out.size (aN #[aV uY,aC aB fco,aC aB fdir,aA FSP,aA FST] 58));go_wp2;go_cut [14] (fun v W=> v=aA Y∧bK (Below wr.heap.size wr W));case first=>
       go_region_held3 (fun w' => (w'.cell? ⟨wr.heap.size,0,none⟩=some (aV uY)∧w'.cell? ⟨wr.heap.size,1,none⟩=some (aC aB fco)∧w'.cell? ⟨wr.heap.size,2,none⟩=some (aC aB fdir)∧w'.cell? ⟨wr.heap.size,3,none⟩=some (aA FSP)∧w'.cell? ⟨wr.heap.size,4,none⟩=some (aA FST))∧w'.cell? ⟨pz,oz,none⟩=some (aA Z)) (go_keep)
        (first
         | (go_at_call 98;with_reducible refine(HPj.out _ HBb.out.drew).mono ?_;rintro e w1 ⟨rfl,hb1⟩;have hBp:=zq (((aL wr.heap.size wr).alloc (aH _) _).drew.trans (hb1.mono (by simp)));have:=ck hb1 wr.heap.size 0 (aV uY);have:=ck hb1 wr.heap.size 1 (aC aB fco);have:=ck hb1 wr.heap.size 2 (aC aB fdir);have:=ck hb1 wr.heap.size 3 (aA FSP);have:=ck hb1 wr.heap.size 4 (aA FST);have kz:=bR hb1 (p:=⟨pz,oz,none⟩) (v:=aA Z) (by simp [*])))
       go_wp2;go_meet;case rel=> exact⟨rfl,hBp.out⟩
      case rest=>
      obtain⟨rfl,zU⟩:=hcut;have vL:=zq (aQ HB.out zU.out);have Q6:=zq (Q6.out.below zU.out Q6.out.lt);have hGlt:=QT.out.lt;have QT:=zq (QT.out.below zU.out QT.out.lt);have Eo:=bJ pU.out zU.out;have NT:G + 1≤wc.heap.size:=aU hGlt zU.out.size;obtain⟨t0,t1,tf0,tf1,tl⟩:=QT.out.two;clear HB zU pU HPj HPb c0 c1 c2 c3 c4 hzc HBb hGlt;go_wp2_with (at_builtin;refine Qq rfl _ _ rfl (G + 1) v j _ rfl Eo _ rfl (by omega) NT ?_;intro g1 Tq w1 LH hg1 Tr;have hqg:=zq (QT.out.grown Tr (Bc Eo (by omega)));obtain⟨t0,t1,tf0,tf1,tl⟩:=hqg.out.two)
      have eT:=zq ((dO vL.out Tr Eo (by omega) vL.out.size).setCell (p:=⟨G,1,none⟩) (jS hlt3) (aD (some ⟨g1,0,none⟩) (j + 1) Tq));have Q62:=zq ((Q6.out.grown Tr (Bc Eo (by omega))).other (a:=⟨G,1,none⟩) (aD (some ⟨g1,0,none⟩) (j + 1) Tq) (by show w.heap.size≠G;omega));have QT2:=zq (hqg.out.set 1 (aD (some ⟨g1,0,none⟩) (j + 1) Tq));rw [← HTj.out] at LH;have xz:=zq (mX LH (a:=⟨G,1,none⟩) (by show G < G + 1;omega) (aD (some ⟨g1,0,none⟩) (j + 1) Tq));clear Eo LH Tr t0 t1 tf0 tf1 tl hqg vL Q6 QT;go_wp2;go_roundw;case rel=> exact⟨j + 1,_,by go_num,by omega,eT.out,Q62.out,QT2.out,xz.out⟩
      case measure=> simp only [aK];omega
     ·obtain rfl:n=j:=by omega
      obtain⟨t0,t1,tf0,tf1,tl⟩:=QT.out.two;obtain⟨d0,d1,f0,f1,lt⟩:=Q6.out.two;obtain⟨vb,vc,rfl⟩:∃ b c,v=aD b n c:=by
       rcases pU.out.2 with ⟨h1,h2⟩ | ⟨g,cap,oL,h1,_⟩
       ·exact⟨none,0,by rw [h1,h2]⟩
       ·exact⟨_,_,h1⟩
      have iC:¬ w.heap.size=G:=by omega
      have hne' :¬ G=w.heap.size:=by omega
      go_wp2;refine dU (iG (T:=64) Tryz.results32 _ _ w.heap.size _ _ rfl ((Q6.out.set 0 _).set 1 _) isAgg64 sizeOf64) rfl ⟨⟨vb,n,vc,rfl,fun _=> ⟨rfl, ?_⟩⟩,(HB.out.setCell (aH _) _).setCell (aH _) _⟩;have hown3:=mX (mX pU.out (a:=⟨w.heap.size,0,none⟩) (by show w.heap.size < G + 1;omega) (aD a n ca)) (a:=⟨w.heap.size,1,none⟩) (by show w.heap.size < G + 1;omega) (aD vb n vc);rw [HLn.out] at hown3;rw [HZe.out];exact xu (KO.own hown3)
   ·have hk00:k=0:=by omega
    subst hk00;obtain⟨t0,t1,tf0,tf1,tl⟩:=qA.two;obtain⟨e00,e01,ef0,ef1,el⟩:=q6.two;have Q6:=zq q6;have WR:=zq hBA;have hlz:zs.length=0:=Hz.out;have Hlz:=zq hlz;have iC:¬ w.heap.size=W3.heap.size:=Nat.ne_of_lt Q3.out.lt;clear hlz;go_wp2;exact dU (iG (T:=64) Tryz.results32 _ _ w.heap.size _ _ rfl (((Q3.out.set 0 _).set 1 _).alloc _) isAgg64 sizeOf64) rfl ⟨⟨none,0,0,rfl,fun h=> absurd h (by rw [Hlz.out];decide)⟩,((Dw.out.setCell (aH _) _).setCell (aH _) _).alloc (by simp [Dw.out.size]) _⟩
def CF(fs:List Fr)(at':List (List UInt8))(p q:Pt):Bool:=
 if((fs.getD p.side.toNat default).up !=(fs.getD q.side.toNat default).up)=true then
  (p.en==at'.getD q.side.toNat [])&&(q.fr==at'.getD p.side.toNat [])
 else((fs.getD p.side.toNat default).dir==(fs.getD q.side.toNat default).dir)&&(p.en==q.fr)&&(at'.getD p.side.toNat []==at'.getD q.side.toNat [])
theorem LI(x y:List UInt8):((bs x).toList==(bs y).toList)=(x==y):=by
 rw[dV,dV,fY,fY]
def JointW(w W:aF)(g h:Nat)(pc qc fc gc:Array aP):Prop:=
 bT W w.heap.size pc 68∧bT W (w.heap.size+1) qc 68∧bT W g fc 58∧bT W h gc 58∧Below w.heap.size w W
theorem joint1(w:aF)(pc qc fc gc:Array aP):JointW w ((((w.alloc (aN pc 68)).alloc (aN qc 68)).alloc (aN fc 58)).alloc (aN gc 58)) (w.heap.size+1+1) (w.heap.size+1+1+1) pc qc fc gc:=by
 refine⟨(((bT.new w _ _).alloc _).alloc _).alloc _,?_,?_,?_,((((aL _ w).alloc (aH _) _).alloc (by simp) _).alloc (by simp;omega) _).alloc (by simp;omega) _⟩
 ·have:=bT.new (w.alloc (aN pc 68)) qc 68;rw[bH]at this;exact(this.alloc _).alloc _
 ·have:=bT.new ((w.alloc (aN pc 68)).alloc (aN qc 68)) fc 58;rw[bH,bH]at this;exact this.alloc _
 ·have:=bT.new (((w.alloc (aN pc 68)).alloc (aN qc 68)).alloc (aN fc 58)) gc 58;rwa[bH,bH,bH]at this
theorem bT.three{W:aF}{b:Nat}{x y z:aP}{T:dT}(h:bT W b #[x,y,z] T):W.cell? ⟨b,0,none⟩=some x∧W.cell? ⟨b,1,none⟩=some y∧W.cell? ⟨b,2,none⟩=some z:=⟨h.cell 0,h.cell 1,h.cell 2⟩
section
attribute[local go_sem] gM
abbrev WL:=List (Wy×Int)
abbrev SL:=List ((Int×Int)×Bool)
def rR(l:WL)(w:Wy):Int:=(gV l w).getD 0
def lZ(I:SL)(x y:Int):Bool:=(gV I (x,y)).getD false
structure gN(W:aF)(G:Nat)(xv yv:aP)(m2 m3 m4:Nat)(S N:WL)(I:SL):Prop where
 blk:bT W G #[xv,yv,.map (some m2),.map (some m3),.map (some m4)] 154
 s:W.heap[m2]? =some (iU kW vI S)
 n:W.heap[m3]? =some (iU kW vI N)
 i:W.heap[m4]? =some (iU kS vB I)
theorem rD{W W':aF}{m:Nat}{o:Obj}(h:W.heap[m]? =some o)(hb:Below W.heap.size W W'):W'.heap[m]? =some o:=(hb.block m (Array.getElem?_eq_some_iff.1 h).1).trans h
theorem gN.below{W W':aF}{G:Nat}{xv yv:aP}{m2 m3 m4:Nat}{S N:WL}{I:SL}(h:gN W G xv yv m2 m3 m4 S N I)(hb:Below W.heap.size W W'):gN W' G xv yv m2 m3 m4 S N I:=
 ⟨h.blk.below hb h.blk.lt,rD h.s hb,rD h.n hb,rD h.i hb⟩
theorem gN.cells{W:aF}{G:Nat}{xv yv:aP}{m2 m3 m4:Nat}{S N:WL}{I:SL}(h:gN W G xv yv m2 m3 m4 S N I):W.cell? ⟨G,0,none⟩=some xv∧W.cell? ⟨G,1,none⟩=some yv∧W.cell? ⟨G,2,none⟩=some (.map (some m2))∧W.cell? ⟨G,3,none⟩=some (.map (some m3))∧W.cell? ⟨G,4,none⟩=some (.map (some m4)):=
 ⟨h.blk.cell 0,h.blk.cell 1,h.blk.cell 2,h.blk.cell 3,h.blk.cell 4⟩
theorem yd{w:aF}{b:Nat}{I:SL}(h:w.heap[b]? =some (iU kS vB I))(x y:Int):(iR 152 (.map (some b)) (cF #[aC aB x,aC aB y]) false).run aE w=.ok (aV (lZ I x y)) w:=
 FV (zero:=false) kS_ok vi zer_b h (x,y) false
theorem uJ{w:aF}{b:Nat}{S:WL}(h:w.heap[b]? =some (iU kW vI S))(x y:Int)(d:Nat):(iR 151 (.map (some b)) (cF #[aC aB x,aC aB y,aC aB d]) false).run aE w=.ok (aC aB (rR S ⟨x,y,d⟩)) w:=
 FV (zero:=(0:Int)) Eh Cv YZ h ⟨x,y,d⟩ false
theorem Gn{w:aF}{b:Nat}{S:WL}(h:w.heap[b]? =some (iU kW vI S))(x y:Int)(d:Nat):(iR 151 (.map (some b)) (cF #[aC aB x,aC aB y,aC aB d]) true).run aE w=.ok (cK #[aC aB (rR S ⟨x,y,d⟩),aV (gV S ⟨x,y,d⟩).isSome]) w:=
 FV (zero:=(0:Int)) Eh Cv YZ h ⟨x,y,d⟩ true
theorem Ts(Bg Bw G:Nat)(xv yv:aP)(m2 m3 m4:Nat)(S N:WL)(I:SL)(x y d dx dy:Int)(w:aF)(hg:gN w G xv yv m2 m3 m4 S N I)(hb:bT w Bg #[aY (some ⟨G,0,none⟩)] 78)(hw:bT w Bw #[aC aB x,aC aB y,aC aB d] 167)
 (hx: -1000000≤x∧x≤1000000)(hy: -1000000≤y∧y≤1000000)(hdx: -1≤dx∧dx≤1)(hdy: -1≤dy∧dy≤1):
 bE aE 171 #[cF #[aC aB dx,aC aB dy],aY (some ⟨Bg,0,none⟩),aY (some ⟨Bw,0,none⟩)] w (Rt (aV (lZ I (x+dx) (y+dy))) w):=by
 have fE:=(aL w.heap.size w).alloc (aH _) (aN #[aC aB dx,aC aB dy] 165);have IF:=hg.below fE;have h4:=IF.i;have b1:=(hb.below fE hb.lt).cell 0;obtain⟨w0,w1,w2⟩:=(hw.below fE hw.lt).three;have g4:=IF.blk.cell 4;obtain⟨e0,e1,-,-,lT⟩:=(bT.new w #[aC aB dx,aC aB dy] 165).two;have fV:=zq fE;have wx:IntKind.i64.wrap (x+dx)=x+dx:=bI _ (by omega);have wy:IntKind.i64.wrap (y+dy)=y+dy:=bI _ (by omega);clear hg hb hw fE IF hx hy hdx hdy;obtain⟨W0,eY⟩:∃W,w.alloc (aN #[aC aB dx,aC aB dy] 165)=W:=⟨_,rfl⟩;rw[eY]at fV e0 e1 lT b1 w0 w1 w2 g4 h4;have HL:=fun n p q=>yd (w:=W0.drewN n) h4 p q;simp only[List.getElem?_toArray,List.getElem?_cons_zero,List.getElem?_cons_succ]at b1 g4;generalize lZ I=C at *;go_enter func171,ntmps171;go_upto_region 1 with(fail)
 try rw[eY]
 clear eY h4;go_quiet (fail)
 go_wp2;go_ret;exact⟨rfl,by first |exact fV.out|exact eF fV.out _⟩
theorem ix_lf(d:Nat)(hd:d<4):∃a b:Int,(∀W,eH aE (Wf 240 (cF #[aC aB 0,aC aB 0,aC aB (-1),aC aB 0,aC aB (-1),aC aB (-1),aC aB 0,aC aB (-1)]) (aC aB d)) W=.ok (cF #[aC aB a,aC aB b]) W)∧(-1≤a∧a≤1)∧(-1≤b∧b≤1)∧∀(c:Int→Int→Bool)x y,lft c x y d=c (x+a) (y+b):=
 match d,hd with
 |0,_=>⟨0,0,fun W=>by first |kernel_rfl|rfl,by decide,by decide,fun c x y=>by rw[lJ,lJ];rfl⟩
 |1,_=>⟨-1,0,fun W=>by first |kernel_rfl|rfl,by decide,by decide,fun c x y=>by rw[lJ];rfl⟩
 |2,_=>⟨-1,-1,fun W=>by first |kernel_rfl|rfl,by decide,by decide,fun c x y=>rfl⟩
 |3,_=>⟨0,-1,fun W=>by first |kernel_rfl|rfl,by decide,by decide,fun c x y=>by rw[lJ];rfl⟩
theorem ix_rf(d:Nat)(hd:d<4):∃a b:Int,(∀W,eH aE (Wf 240 (cF #[aC aB 0,aC aB (-1),aC aB 0,aC aB 0,aC aB (-1),aC aB 0,aC aB (-1),aC aB (-1)]) (aC aB d)) W=.ok (cF #[aC aB a,aC aB b]) W)∧(-1≤a∧a≤1)∧(-1≤b∧b≤1)∧∀(c:Int→Int→Bool)x y,rgt c x y d=c (x+a) (y+b):=
 match d,hd with
 |0,_=>⟨0,-1,fun W=>by first |kernel_rfl|rfl,by decide,by decide,fun c x y=>by rw[lJ];rfl⟩
 |1,_=>⟨0,0,fun W=>by first |kernel_rfl|rfl,by decide,by decide,fun c x y=>by rw[lJ,lJ];rfl⟩
 |2,_=>⟨-1,0,fun W=>by first |kernel_rfl|rfl,by decide,by decide,fun c x y=>by rw[lJ];rfl⟩
 |3,_=>⟨-1,-1,fun W=>by first |kernel_rfl|rfl,by decide,by decide,fun c x y=>rfl⟩
theorem JK(G:Nat)(xv yv:aP)(m2 m3 m4:Nat)(S N:WL)(I:SL)(x y:Int)(d:Nat)(hd:d<4)(hx: -1000000≤x∧x≤1000000)(hy: -1000000≤y∧y≤1000000)(w:aF)(hg:gN w G xv yv m2 m3 m4 S N I):
 bE aE 106 #[aY (some ⟨G,0,none⟩),cF #[aC aB x,aC aB y,aC aB d]] w (Rt (aV (bor (lZ I) x y d)) w):=by
 have fE:=((aL w.heap.size w).alloc (aH _) (aN #[aY (some ⟨G,0,none⟩)] 78)).alloc (by simp) (aN #[aC aB x,aC aB y,aC aB d] 167);have Ib:=(bT.new w #[aY (some ⟨G,0,none⟩)] 78).alloc (aN #[aC aB x,aC aB y,aC aB d] 167);have Zi:=bT.new (w.alloc (aN #[aY (some ⟨G,0,none⟩)] 78)) #[aC aB x,aC aB y,aC aB d] 167;rw[bH]at Zi;obtain⟨W0,eY⟩:∃W,(w.alloc (aN #[aY (some ⟨G,0,none⟩)] 78)).alloc (aN #[aC aB x,aC aB y,aC aB d] 167)=W:=⟨_,rfl⟩;rw[eY]at fE Ib Zi;obtain⟨l1,l2,q1,hl1,Ox,hL⟩:∃a b:Int,(∀W,eH aE (Wf 240 (cF #[aC aB 0,aC aB 0,aC aB (-1),aC aB 0,aC aB (-1),aC aB (-1),aC aB 0,aC aB (-1)]) (aC aB d)) W=.ok (cF #[aC aB a,aC aB b]) W)∧(-1≤a∧a≤1)∧(-1≤b∧b≤1)∧∀(c:Int→Int→Bool)x y,lft c x y d=c (x+a) (y+b):=ix_lf d hd;obtain⟨r1,r2,q2,hr1,Zj,hR⟩:=ix_rf d hd;have HI:bK (∀dx dy W,Below W0.heap.size W0 W→-1≤dx∧dx≤1→-1≤dy∧dy≤1→bE aE 171 #[cF #[aC aB dx,aC aB dy],aY (some ⟨w.heap.size,0,none⟩),aY (some ⟨w.heap.size+1,0,none⟩)] W (Rt (aV (lZ I (x+dx) (y+dy))) W)):=fun dx dy W h h1 h2=>
  Ts _ _ G xv yv m2 m3 m4 S N I x y d dx dy W ((hg.below fE).below h) (Ib.below h Ib.lt) (Zi.below h Zi.lt) hx hy h1 h2
 have fV:=zq fE;have ER:bK (bor (lZ I) x y d=(lZ I (x+l1) (y+l2)&& !lZ I (x+r1) (y+r2))):=by show bor _ _ _ _=_;unfold bor;rw[hL,hR]
 have H1:=zq (fun W h=>HI.out l1 l2 W h hl1 Ox);have H2:=zq (fun W h=>HI.out r1 r2 W h hr1 Zj);clear HI;obtain⟨w0,w1,w2⟩:=Zi.three;have lT:=Zi.lt;clear hg fE Ib Zi hx hy hL hR hl1 Ox hr1 Zj;have hd0:(0:Int)≤d:=by omega
 have hd4:(d:Int)<4:=by omega
 clear hd;generalize lZ I (x+l1) (y+l2)=bl at *;generalize lZ I (x+r1) (y+r2)=br at *;go_enter func106,ntmps106;go_upto_if 8 with(fail);try rw[eY]
 clear eY;cases bl
 ·go_wp2_with fail
  (with_reducible refine(H1.out _ (((aL _ W0).alloc (aH _) _).alloc (by simp) _)).mono ?_);rintro e W1⟨rfl,hb1⟩;have eC:=zq (aQ fV.out ((((aL _ W0).alloc (aH _) _).alloc (by simp) _).trans (hb1.mono (by simp;omega))));clear hb1;go_wp2;go_ret;exact⟨by rw[ER.out]<;>rfl,eC.out⟩
 ·obtain⟨W1,rS⟩:∃W,(W0.alloc (aN #[aC aB l1,aC aB l2] 165)).alloc (aN #[aC aB r1,aC aB r2] 165)=W:=⟨_,rfl⟩;have hb1:Below W0.heap.size W0 W1:=by rw[←rS];exact((aL _ W0).alloc (aH _) _).alloc (by simp) _
  have q2:bT W1 (W0.heap.size+1) #[aC aB r1,aC aB r2] 165:=by
   rw[←rS];have:=bT.new (W0.alloc (aN #[aC aB l1,aC aB l2] 165)) #[aC aB r1,aC aB r2] 165;rwa[bH]at this
  go_wp2_with fail
  (with_reducible refine(H1.out _ (((aL _ W0).alloc (aH _) _).alloc (by simp) _)).mono ?_);rw[rS];rintro e W2⟨rfl,hb2⟩;have HQ:=zq (q2.below hb2 q2.lt);have eC:=zq hb1;have eT:=zq (aQ hb1 hb2);clear hb1 hb2 q2 rS;obtain⟨e0,e1,-,-,lR⟩:=HQ.out.two;go_wp2_with fail
  (with_reducible refine(H2.out _ eT.out).mono ?_);rintro e W3⟨rfl,hb3⟩;have HB3:=zq (aQ (aQ fV.out eT.out) hb3);clear hb3;cases br
  ·go_wp2;go_ret;exact⟨by rw[ER.out]<;>rfl,HB3.out⟩
  ·go_wp2;go_ret;exact⟨by rw[ER.out]<;>rfl,HB3.out⟩
end
end
end Go.Proofs.YtkchhginppjaiaaGreatDoor
