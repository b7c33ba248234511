import Derived.Laws.StructEq
import Derived.KernelRfl
import Derived.Stop.RegionWithIn
import Derived.Outline
import Derived.Deep.CutBlock
import Derived.BigRegion
import Derived.Test.YtckgmoobicmbnaaGreatDoorZ0
import Derived.Test.YtckgmoobicmbnaaGreatDoorZ1
import Derived.Test.YtckgmoobicmbnaaGreatDoorZ2
import Derived.Test.YtckgmoobicmbnaaGreatDoorZ6
import Derived.Test.YtckgmoobicmbnaaGreatDoorZ7
namespace Go.Proofs.YtckgmoobicmbnaaGreatDoor
set_option maxRecDepth 100000
set_option maxHeartbeats 8000000
set_option linter.all false
open Go.Proofs.Tryz
open _root_.Array renaming replicate_succ->bR,replicate_zero->bS
open _root_.Bool renaming or_eq_true->fJ,eq_iff_iff->DG
open _root_.Go renaming World->aF,Value->aS,Calls->aW,bodyPost_ret->cI,Addr->cT,TypeId->eC,run_takeDeferred->fH,KeepsFrom->gP,Act->kZ,wpAnyH_ready->pU,Operand->qV,OwnFrom->rK,results_none->tE,Code->vK,wpAnyH_done->BQ,callsIn_of_wp->GZ,run_endLoop->Ki,YieldAt->UH
open Go.Act renaming put->dK
open Go.AllReadyH renaming cons->iX,nil->jR
open Go.ByteArray renaming toList_eq->cJ
open Go.Code renaming rangeFunc->qX
open Go.Ending renaming returned->aQ
open Go.Fence renaming wide->dG
open Go.Instr renaming index->mQ
open Go.IntKind renaming i64->aE
open Go.IntWalk renaming i64_in->aX
open Go.KeepsOthers renaming setCell->cG
open Go.Obj renaming cells->aJ
open Go.Op renaming equalIn->MQ
open Go.Oper renaming semAt_some->dW
open Go.OwnFrom renaming and->cU
open Go.Program renaming fieldsOf->Zg
open Go.Proofs.Tryz renaming prog->aC,ntmps19->Jm,func19->KB
open Go.RowKit renaming intOf->aK,Hid->bH
open Go.RowKit.Below renaming refl->aH
open Go.Sem renaming run->gN
open Go.Value renaming string->aA,slice->aB,int->aD,bool->aN,pointer->bA,tuple->cC,agg->cN
open Go.World renaming size_alloc->bB,block_lt_of_cell?->bG,putObj_heap_other->cH,cell?_of_block->iI,putObj_heap_same->iZ,alloc_heap_new->kE
open _root_.List renaming setIfInBounds_toArray->aM,getD_eq_getElem?_getD->aO,set_cons_zero->aV,getElem_cons_succ->aY,getElem_cons_zero->aZ,set_cons_succ->bC,getElem_toArray->bD,length_cons->bF,append_toArray->bU,size_toArray->bW,length_nil->bY,cons_append->bZ,push_toArray->cD,nil_append->cL,length_map->cO,length_append->cP,take_succ_eq_append_getElem->dU,mem_singleton->gQ,mem_append_left->mV,append_nil->pP,mem_cons->sZ,not_mem_nil->Cd,mem_append->Cn,mem_append_right->Vs
open _root_.Nat renaming le_refl->aG,le_trans->bE,zero_le->bN,reduceAdd->cW,reduceSub->cX,mod_eq_of_lt->fE,lt_or_ge->fK,mod_lt->fU,add_mod_right->JJ
open _root_.Option.some renaming inj->dQ,injEq->rC
open _root_.Trans renaming trans->cB
section
open Go Go.RowKit Go.Lib
theorem bt (a b:Option cT) (nf n ca cb:Nat) (fs:List Fr) (ps:List Pt) (i:Int) (w:aF) (hE:iM w)
 (hf:fs.length=nf) (hp:ps.length=n) (bf:nf≤1000000) (hn:n≤1000000) (Ig:∀ f∈fs,f.sp.length≤30∧f.st.length≤30) (hi1: -9223372036854775808≤i) (hi2:i≤9223372036854775807)
 (rf:zR w a fs) (rp:CL w b ps) :
 aW aC 19 #[aB a nf ca,aB b n cb,aD aE i] w (Rt (cC #[aN (BD fs ⟨b,cb,ps⟩ i).1,aD aE (BD fs ⟨b,cb,ps⟩ i).2]) w):=by
 have fA:=(aH w.heap.size w).alloc (aG _) (aJ #[aB b n cb] 45);have rl:E5 (w.alloc (aJ #[aB b n cb] 45)) (some ⟨w.heap.size,0,none⟩) [⟨b,cb,ps⟩]:=by
  intro j hj;have hj:j < 1:=hj;obtain rfl:j=0:=by omega
  refine⟨_,_,rfl, ?_,rp.below fA⟩;have:=(bT.new w #[aB b n cb] 45).cell 0;rw [← hp] at this ⊢;exact this
 have HC:=zq (sV a (some ⟨w.heap.size,0,none⟩) none nf 1 0 ca 1 0 fs [⟨b,cb,ps⟩] [] _ (hE.below fA) hf rfl rfl bf (by decide) (by decide) Ig (fun x hx=> absurd hx (by simp)) (fun l h=> by rw [gQ] at h;subst h;show ps.length≤_;omega) (rf.below fA) rl (fun j hj=> absurd hj (by simp)));have HD:bH (iL fs [] [⟨b,cb,ps⟩]=0→∀ j,j < nf→∀ W,aW aC 52 #[(fs.getD j default).v] W (Rt (aD aE (oY (fs.getD j default))) W)):=fun h j hj W=> by
  exact pN _ W
 have R0:bH (BD fs ⟨b,cb,ps⟩ i=if iL fs [] [⟨b,cb,ps⟩]≠0 then(false,iL fs [] [⟨b,cb,ps⟩]) else if i < 0∨(n:Int)≤i then(false,6) else
  if (sideBad nf (ps.getD ((i.toNat + n - 1) % n) default) || sideBad nf (ps.getD i.toNat default))=true then(false,1) else
   if JD fs (ps.getD ((i.toNat + n - 1) % n) default) (ps.getD i.toNat default)=2 then(false,1)
   else(decide (JD fs (ps.getD ((i.toNat + n - 1) % n) default) (ps.getD i.toNat default)=3),0)):=by
  show _=_;unfold BD;rw [hf,hp]
 have Rf:=zq rf;have Rp:=zq rp;have Hf:=zq hf;have Hp:=zq hp;have gY:=zq fA;clear hE hf hp Ig rf rp fA rl;unfold P9 at HC;generalize BD fs ⟨b,cb,ps⟩ i=RR at *;generalize iL fs [] [⟨b,cb,ps⟩]=c at *;by_cases h0:c=0;case neg=>
  rw [ip h0] at R0;have h' :(c !=0)=true:=by rw [bne_iff_ne];exact h0
  clear h0 HD;go_enter KB,Jm;go_wp2_with fail
  refine HC.out.mono ?_;rintro e W1 ⟨⟨a1,n1,k1,a2,n2,k2,rfl, -⟩,hb1⟩;go_wp2;go_ret2;exact⟨by rw [R0.out] <;> rfl,(aU gY.out hb1).alloc (aU gY.out hb1).size _⟩
 case pos=>
 subst h0;rw [iN (by decide)] at R0;have HDx:=zq (HD.out rfl);clear HD;by_cases hir:i < 0∨(n:Int)≤i
 ·rw [ip hir] at R0;rcases Int.lt_or_le i 0 with h1 | h1;case inr=>
   have h2:(n:Int)≤i:=by omega
   clear hir HDx;go_enter KB,Jm;go_wp2_with fail
   refine HC.out.mono ?_;rintro e W1 ⟨⟨a1,n1,k1,a2,n2,k2,rfl, -⟩,hb1⟩;go_wp2;go_ret2;exact⟨by rw [R0.out] <;> rfl,(aU gY.out hb1).alloc (aU gY.out hb1).size _⟩
  case inl=>
   clear hir HDx;go_enter KB,Jm;go_wp2_with fail
   refine HC.out.mono ?_;rintro e W1 ⟨⟨a1,n1,k1,a2,n2,k2,rfl, -⟩,hb1⟩;go_wp2;go_ret2;exact⟨by rw [R0.out] <;> rfl,(aU gY.out hb1).alloc (aU gY.out hb1).size _⟩
 ·rw [iN hir] at R0;obtain⟨m,rfl⟩:∃ m:Nat,i=m:=⟨i.toNat,by omega⟩;have Vz:m < n:=by omega
  rw [show((m:Int)).toNat=m from rfl] at R0;have hkn:(m + n - 1) % n < n:=fU _ (by omega);have s3:((m:Int) + (n:Int) - 1).tmod (n:Int)=(((m + n - 1) % n:Nat):Int):=by
   rw [Int.tmod_eq_emod_of_nonneg (by omega)];rw [show(m:Int) + (n:Int) - 1=((m + n - 1:Nat):Int) by omega];rfl
  generalize (m + n - 1) % n=k at *;have s1:IntKind.i64.wrap ((m:Int) + (n:Int))=(m:Int) + (n:Int):=aX _ (by omega);have s2:IntKind.i64.wrap ((m:Int) + (n:Int) - 1)=(m:Int) + (n:Int) - 1:=aX _ (by omega);have S3:=zq (And.intro s1 (And.intro s2 s3));clear s1 s2 s3 hir;go_enter KB,Jm;go_wp2_with fail
  refine HC.out.mono ?_;rintro e W1 ⟨⟨a1,n1,k1,a2,n2,k2,rfl, -⟩,hb1⟩;have HBq:=zq (aU gY.out hb1);have eW:=zq (HBq.out.alloc HBq.out.size (aJ #[aB a1 n1 k1,aB a2 n2 k2] 70));obtain⟨WB,hWB⟩:∃ W,W1.alloc (aJ #[aB a1 n1 k1,aB a2 n2 k2] 70)=W:=⟨_,rfl⟩;rw [hWB] at eW;have HWB:=zq hWB;clear hb1 HC gY HBq hWB;obtain⟨pb,po,rfl,c0,c1,c2⟩:=(Rp.out.below eW.out).at (i:=k) (by rw [Hp.out];exact hkn) rfl;obtain⟨pb',po',e1,d0,d1,d2⟩:=(Rp.out.below eW.out).at (i:=m) (by rw [Hp.out];exact Vz) rfl;injection e1 with e1;injection e1 with e1 e2;subst e1 e2;generalize ps.getD k default=p at *;generalize ps.getD m default=q at *;have lb:pb < WB.heap.size:=bG WB ⟨pb,po + k * 3,none⟩ c0;have v1:∀ j,pb < WB.heap.size + j:=fun j=> by omega
  have v2:∀ j,¬ pb=WB.heap.size + j:=fun j=> by omega
  have v3:¬ pb=WB.heap.size:=by omega
  have hki:(k:Int) < (n:Int):=by omega
  have hk0:(0:Int)≤(k:Int):=by omega
  have PQ:¬ n=0:=by omega
  obtain⟨s1,s2,s3⟩:=S3.out;go_upto_region 6 with fail
  rw [HWB.out];go_cut [10,11] (fun x y W=> ∃ g h:Nat,x=bA (some ⟨g,0,none⟩)∧y=bA (some ⟨h,0,none⟩)∧bH (WK WB W g h (#[aD aE p.side,aA (bs p.fr),aA (bs p.en)]) (#[aD aE q.side,aA (bs q.fr),aA (bs q.en)])));case first=>
   go_region;all_goals
    go_wp2;go_meet;case rel=> first | exact⟨_,_,rfl,rfl,YB _ _ _⟩ | exact⟨_,_,rfl,rfl,jointP2 _ _ _⟩
  case rest=>
  obtain⟨g',h',rfl,rfl,HJ⟩:=hcut;have fR:=zq (aU eW.out HJ.out.2.2);obtain⟨p0,p1,p2⟩:=HJ.out.1.three;obtain⟨q0,q1,q2⟩:=HJ.out.2.1.three;clear s1 s2 s3 v1 v2 v3 lb c0 c1 c2 d0 d1 d2 HJ eW;obtain⟨tk,pfr,pen⟩:=p;obtain⟨tm,qfr,qen⟩:=q;simp only [] at *;have Nz:bH ((tk < 0∨(nf:Int)≤tk∨tm < 0∨(nf:Int)≤tm)→RR=(false,1)):=fun h=> by
   rw [R0.out,ip];unfold sideBad;simp only [fJ,decide_eq_true_eq];omega
  generalize bs pfr=PF at *;generalize bs pen=PE at *;generalize bs qfr=QF at *;generalize bs qen=QE at *;rename aF=> wc;go_wp2;go_loopw [53] (fun i wr=> ∃ k:Nat,i=aD aE k∧k≤2∧(1≤k→0≤tk∧tk < (nf:Int))∧(2≤k→0≤tm∧tm < (nf:Int))∧bH (Below wc.heap.size wc wr)) (fun i _=> 2 - (aK i).toNat);case atStart=> exact⟨0,rfl,by omega,by omega,by omega,aH _ _⟩
  case round=>
  obtain⟨k2,rfl,hk2,yF,zQ,E9⟩:=hrel;by_cases hk3:k2 < 2
  ·have hI0:∀ W,gN aC (mQ 96 (cN #[aD aE tk,aD aE tm]) (aD aE 0)) W= .ok (aD aE tk) W:=fun W=> by first | kernel_rfl | rfl
   have hI1:∀ W,gN aC (mQ 96 (cN #[aD aE tk,aD aE tm]) (aD aE 1)) W= .ok (aD aE tm) W:=fun W=> by first | kernel_rfl | rfl
   obtain rfl | rfl:k2=0∨k2=1:=by omega
   ·by_cases g1:tk < 0
    ·have R:=zq (Nz.out (.inl g1));go_wp2;go_ret2;exact⟨by rw [R.out] <;> rfl,aU fR.out E9.out⟩
    by_cases g2:(nf:Int)≤tk
    ·have R:=zq (Nz.out (.inr (.inl g2)));go_wp2;go_ret2;exact⟨by rw [R.out] <;> rfl,aU fR.out E9.out⟩
    go_wp2;go_roundw;case rel=> exact⟨1,rfl,by omega,by omega,by omega,E9.out⟩
    case measure=> simp only [aK];omega
   ·by_cases g3:tm < 0
    ·have R:=zq (Nz.out (.inr (.inr (.inl g3))));go_wp2;go_ret2;exact⟨by rw [R.out] <;> rfl,aU fR.out E9.out⟩
    by_cases g4:(nf:Int)≤tm
    ·have R:=zq (Nz.out (.inr (.inr (.inr g4))));go_wp2;go_ret2;exact⟨by rw [R.out] <;> rfl,aU fR.out E9.out⟩
    go_wp2;go_roundw;case rel=> exact⟨2,rfl,by omega,by omega,by omega,E9.out⟩
    case measure=> simp only [aK];omega
  obtain rfl:k2=2:=by omega
  obtain⟨o1,o2⟩:=yF (by omega);obtain⟨o3,o4⟩:=zQ (by omega);have fR:=zq (aU fR.out E9.out);have p0:=cF E9.out p0;have p1:=cF E9.out p1;have p2:=cF E9.out p2;have q0:=cF E9.out q0;have q1:=cF E9.out q1;have q2:=cF E9.out q2;clear E9 yF zQ hk3 hk2;rename aF=> wc;obtain⟨s,rfl⟩:∃ s:Nat,tk=s:=⟨tk.toNat,by omega⟩;obtain⟨t,rfl⟩:∃ t:Nat,tm=t:=⟨tm.toNat,by omega⟩;have J2:s < nf:=by omega
  have Rv:t < nf:=by omega
  have CQ:¬ (sideBad nf ⟨(s:Int),pfr,pen⟩ || sideBad nf ⟨(t:Int),qfr,qen⟩)=true:=by
   unfold sideBad;simp only [fJ,decide_eq_true_eq];omega
  rw [iN CQ] at R0;have HT:bH (JD fs ⟨(s:Int),pfr,pen⟩ ⟨(t:Int),qfr,qen⟩=(oY (fs.getD t default) - oY (fs.getD s default) + 4).tmod 4):=rfl;have MW:=zq (HDx.out t Rv);have IK:=zq (HDx.out s J2);obtain⟨fb,fo,rfl,f0,f1,f2,f3,f4⟩:=(Rf.out.below fR.out).at (i:=t) (by rw [Hf.out];exact Rv) rfl;obtain⟨fb',fo',e1,e0,e1',e2,e3,e4⟩:=(Rf.out.below fR.out).at (i:=s) (by rw [Hf.out];exact J2) rfl;injection e1 with e1;injection e1 with h1 h2;subst h1 h2;clear o1 o2 o3 o4 CQ Nz HDx;generalize JD fs ⟨(s:Int),pfr,pen⟩ ⟨(t:Int),qfr,qen⟩=TR at *;generalize fs.getD t default=f at *;generalize fs.getD s default=g at *;have b1:=tj f;have b2:=tj g;generalize oY f=D1 at *;generalize oY g=D2 at *;unfold Fr.v Fr.cells at MW IK;obtain⟨Aw,CM,pA,LK,Rx⟩:=f;obtain⟨Wp,gco,LM,gsp,gst⟩:=g;simp only [] at *;generalize bs LK=FSP at *;generalize bs Rx=FST at *;generalize bs gsp=GSP at *;generalize bs gst=GST at *;have w1:IntKind.i64.wrap (D1 - D2)=D1 - D2:=aX _ (by omega);have w2:IntKind.i64.wrap (D1 - D2 + 4)=D1 - D2 + 4:=aX _ (by omega);have w3:(D1 - D2 + 4).tmod 4=TR:=HT.out.symm;go_wp2;go_cut [14] (fun v W=> v=aD aE TR∧bH (Below wc.heap.size wc W));case first=>
   go_region_held3 (fun w' => (w'.cell? ⟨g',0,none⟩=some (aD aE s)∧w'.cell? ⟨g',1,none⟩=some (aA PF)∧w'.cell? ⟨g',2,none⟩=some (aA PE))∧(w'.cell? ⟨h',0,none⟩=some (aD aE t)∧w'.cell? ⟨h',1,none⟩=some (aA QF)∧w'.cell? ⟨h',2,none⟩=some (aA QE))∧w'.cell? ⟨fb,fo + t * 5,none⟩=some (aN Aw)∧w'.cell? ⟨fb,fo + t * 5 + 1,none⟩=some (aD aE CM)∧w'.cell? ⟨fb,fo + t * 5 + 2,none⟩=some (aD aE pA)∧w'.cell? ⟨fb,fo + t * 5 + 3,none⟩=some (aA FSP)∧w'.cell? ⟨fb,fo + t * 5 + 4,none⟩=some (aA FST)∧w'.cell? ⟨fb,fo + s * 5,none⟩=some (aN Wp)∧w'.cell? ⟨fb,fo + s * 5 + 1,none⟩=some (aD aE gco)∧w'.cell? ⟨fb,fo + s * 5 + 2,none⟩=some (aD aE LM)∧w'.cell? ⟨fb,fo + s * 5 + 3,none⟩=some (aA GSP)∧w'.cell? ⟨fb,fo + s * 5 + 4,none⟩=some (aA GST)) (go_keep)
    (first
     | (go_at_call 52;with_reducible refine(MW.out _).mono ?_;rintro e w1' ⟨rfl,hb1⟩;have hBt:=zq (aU (by first | exact hBs.out | exact(aH _ wc).drew) hb1);have:=ck hb1 g' 0 (aD aE s);have:=ck hb1 g' 1 (aA PF);have:=ck hb1 g' 2 (aA PE);have:=ck hb1 h' 0 (aD aE t);have:=ck hb1 h' 1 (aA QF);have:=ck hb1 h' 2 (aA QE);have m0:=cF hb1 (p:=⟨fb,fo + t * 5,none⟩) (v:=aN Aw) (by simp [*]);have m1:=cF hb1 (p:=⟨fb,fo + t * 5 + 1,none⟩) (v:=aD aE CM) (by simp [*]);have m2:=cF hb1 (p:=⟨fb,fo + t * 5 + 2,none⟩) (v:=aD aE pA) (by simp [*]);have m3:=cF hb1 (p:=⟨fb,fo + t * 5 + 3,none⟩) (v:=aA FSP) (by simp [*]);have m4:=cF hb1 (p:=⟨fb,fo + t * 5 + 4,none⟩) (v:=aA FST) (by simp [*]);have m5:=cF hb1 (p:=⟨fb,fo + s * 5,none⟩) (v:=aN Wp) (by simp [*]);have m6:=cF hb1 (p:=⟨fb,fo + s * 5 + 1,none⟩) (v:=aD aE gco) (by simp [*]);have m7:=cF hb1 (p:=⟨fb,fo + s * 5 + 2,none⟩) (v:=aD aE LM) (by simp [*]);have m8:=cF hb1 (p:=⟨fb,fo + s * 5 + 3,none⟩) (v:=aA GSP) (by simp [*]);have m9:=cF hb1 (p:=⟨fb,fo + s * 5 + 4,none⟩) (v:=aA GST) (by simp [*]))
     | (go_at_call 52;with_reducible refine(IK.out _).mono ?_;rintro e w1' ⟨rfl,hb1⟩;have hBs:=zq (aU (by first | exact hBt.out | exact(aH _ wc).drew) hb1);have:=ck hb1 g' 0 (aD aE s);have:=ck hb1 g' 1 (aA PF);have:=ck hb1 g' 2 (aA PE);have:=ck hb1 h' 0 (aD aE t);have:=ck hb1 h' 1 (aA QF);have:=ck hb1 h' 2 (aA QE);have m0:=cF hb1 (p:=⟨fb,fo + t * 5,none⟩) (v:=aN Aw) (by simp [*]);have m1:=cF hb1 (p:=⟨fb,fo + t * 5 + 1,none⟩) (v:=aD aE CM) (by simp [*]);have m2:=cF hb1 (p:=⟨fb,fo + t * 5 + 2,none⟩) (v:=aD aE pA) (by simp [*]);have m3:=cF hb1 (p:=⟨fb,fo + t * 5 + 3,none⟩) (v:=aA FSP) (by simp [*]);have m4:=cF hb1 (p:=⟨fb,fo + t * 5 + 4,none⟩) (v:=aA FST) (by simp [*]);have m5:=cF hb1 (p:=⟨fb,fo + s * 5,none⟩) (v:=aN Wp) (by simp [*]);have m6:=cF hb1 (p:=⟨fb,fo + s * 5 + 1,none⟩) (v:=aD aE gco) (by simp [*]);have m7:=cF hb1 (p:=⟨fb,fo + s * 5 + 2,none⟩) (v:=aD aE LM) (by simp [*]);have m8:=cF hb1 (p:=⟨fb,fo + s * 5 + 3,none⟩) (v:=aA GSP) (by simp [*]);have m9:=cF hb1 (p:=⟨fb,fo + s * 5 + 4,none⟩) (v:=aA GST) (by simp [*])))
   all_goals
    go_wp2;go_meet;case rel=> exact⟨by first | rfl | (rw [w3];done),by first | exact hBs.out | exact hBt.out⟩
  case rest=>
  obtain⟨rfl,HB3⟩:=hcut;have Bv:=zq (aU fR.out HB3.out);clear w1 w2 w3 HT HB3 MW IK;by_cases t2:TR=2
  ·rw [ip t2] at R0;subst t2;go_wp2;go_ret2;exact⟨by rw [R0.out] <;> rfl,Bv.out⟩
  ·rw [iN t2] at R0;have t2' :(TR==2)=false:=by simpa using t2
   clear t2;by_cases t3:TR=3
   ·subst t3;go_wp2;go_ret2;exact⟨by rw [R0.out] <;> rfl,Bv.out⟩
   ·have t3' :(TR==3)=false:=by simpa using t3
    rw [decide_eq_false t3] at R0;clear t3;go_wp2;go_ret2;exact⟨by rw [R0.out] <;> rfl,Bv.out⟩
theorem eqPo(A B C D:ByteArray)(w:aF):(MQ 10000 66 (cN #[aA A,aA B]) (cN #[aA C,aA D])).run aC w=.ok (A.toList==C.toList&&B.toList==D.toList) w:=by
 have u3:=underlying9;have a3:=isAgg9;have z3:=sizeOf9;have hS:Tryz.prog.underlying 66=some (.struct (Tryz.prog.fieldsOf 66)):=by kernel_rfl
 have hp:Tryz.prog.stoodInHeld 66=false:=by kernel_rfl
 rw[show(10000:Nat)=9999+1 from rfl,run_equalIn_agg w 9999 66 _ _ hS hp];simp only[Zg,underlying66];go_simp;by_cases h1:A.toList=C.toList<;>by_cases h2:B.toList=D.toList<;>simp[h1,h2]
theorem eqPart (a c : Int) (A B C D : ByteArray) (w : aF) : (MQ 10000 47 (cN #[aD aE a, aA A, aA B]) (cN #[aD aE c, aA C, aA D])).run aC w = .ok (a == c && (A.toList == C.toList && B.toList == D.toList)) w := by
  have u3 := underlying3
  have a3 := isAgg3
  have z3 := sizeOf3
  have u4 := underlying27
  have a4 := isAgg27
  have z4 := sizeOf27
  have hS : Tryz.prog.underlying 47 = some (.struct (Tryz.prog.fieldsOf 47)) := by kernel_rfl
  have hp : Tryz.prog.stoodInHeld 47 = false := by kernel_rfl
  rw [show (10000 : Nat) = 9999 + 1 from rfl, run_equalIn_agg w 9999 47 _ _ hS hp]
  simp only [Zg, underlying47]
  go_simp
  by_cases h : a = c <;> by_cases h1 : A.toList = C.toList <;> by_cases h2 : B.toList = D.toList <;> simp [h, h1, h2]
deriving instance DecidableEq for Pt
theorem pts_ext{xs ys:List Pt}(h:xs.length=ys.length)(h2:∀i,i<xs.length→xs.getD i default=ys.getD i default):xs=ys:=by
 apply List.ext_getElem h;intro i h3 h4;have:=h2 i h3;simpa[aO,h3,h4]using this
theorem eqPt(p q:Pt)(w:aF):(MQ 10000 47 (cN #[aD aE p.side,aA (bs p.fr),aA (bs p.en)]) (cN #[aD aE q.side,aA (bs q.fr),aA (bs q.en)])).run aC w=.ok (decide (p=q)) w:=by
 rw[eqPart];obtain⟨a,x,y⟩:=p;obtain⟨c,z,t⟩:=q;show Result.ok (a==c&&((bs x).toList==(bs z).toList&&(bs y).toList==(bs t).toList)) w=_;simp only[cJ,bP];congr 1;rw[DG];simp
theorem FQ.Good.hpos{q:FQ}(h:q.Good){z:Rat}{k:Nat}(hz:HQ k z):HQ (k+68) (q.pos z):=by
 unfold FQ.pos;split
 ·exact h.hco.mono (by omega)
 ·exact(h.hco.add (h.hvel.mul (hz.sub h.t))).mono (by omega)
theorem YC{x y:Rat}(h:bs (bJ x)=bs (bJ y)):x=y:=by
 have h1:bJ x=bJ y:=by rw[←bP (bJ x),h,bP]
 rw[←jZ x,h1,jZ]
theorem YD(x y:Rat):((bs (bJ x)).toList==(bs (bJ y)).toList)=decide (x=y):=by
 rw[cJ,cJ,bP,bP];by_cases h:x=y
 ·subst h;simp
 ·rw[decide_eq_false h];exact beq_eq_false_iff_ne.2 fun e=>h (YC (by rw[e]))
theorem tn(x:Rat):((bs (bJ x)).toList==[48])=decide (x=0):=by
 rw[cJ,bP];by_cases h:x=0
 ·subst h;rw[uM];rfl
 ·rw[decide_eq_false h];exact beq_eq_false_iff_ne.2 fun e=>h (YC (by rw[e,←uM]))
abbrev GG(up:Bool)(co dir:Int)(S T:ByteArray):Array aS:= #[aN up,aD aE co,aD aE dir,aA S,aA T]
theorem L8{q:Rat}(h1:q.num.natAbs<10^300)(h2:q.den<10^300):(bJ q).length≤700:=by
 have:=SC (a:=bs (bJ q)) (by rw[bP];exact Ga q h1 h2);rwa[cZ]at this
theorem tp{f:Fr}(hf:f.Ok){z:List UInt8}(hz:gT z=0):(Wo f z).length≤700:=by
 have h:=hf.good.1.hpos (E6 hz).2.1;have h2:=h.mono (k:=300) (by decide);exact L8 h2.1 h2.2
theorem tq{fs:List Fr}(Ig:∀f∈fs,f.Ok){z:List UInt8}(hz:gT z=0)(k:Nat):((oZ fs z).getD k []).length≤700:=by
 rcases fK k (oZ fs z).length with h|h
 ·have hm:=eB h ([]:List UInt8);generalize(oZ fs z).getD k []=x at *;unfold oZ at hm;obtain⟨f,h1,rfl⟩:=List.mem_map.1 hm;exact tp (Ig f h1) hz
 ·simp[aO,List.getElem?_eq_none h]
def wM(fs:List Fr)(p:Pt):Bool:=(fs.getD p.side.toNat default).up
def WM(fs:List Fr)(at':List (List UInt8))(p q r:Pt):Pt:=
 ⟨q.side,if wM fs p=wM fs q then q.fr else at'.getD p.side.toNat [],if wM fs q=wM fs r then q.en else at'.getD r.side.toNat []⟩
def xN(fs:List Fr)(at':List (List UInt8))(ps:List Pt):List Pt:=
 (List.range ps.length).map fun k=>WM fs at' (ps.getD ((k+ps.length-1)%ps.length) default) (ps.getD k default) (ps.getD ((k+1)%ps.length) default)
def iY(fs:List Fr)(at':List (List UInt8))(ls:List Lp):List (List Pt):=ls.map fun l=>xN fs at' l.ps
theorem Fa(fs:List Fr)(at':List (List UInt8))(ps:List Pt):(xN fs at' ps).length=ps.length:=by simp[xN]
theorem Oz{fs:List Fr}{at':List (List UInt8)}{ps:List Pt}{k:Nat}(hk:k<ps.length):
 (xN fs at' ps).getD k default=WM fs at' (ps.getD ((k+ps.length-1)%ps.length) default) (ps.getD k default) (ps.getD ((k+1)%ps.length) default):=by
 simp[xN,aO,hk]
def Em(fs:List Fr)(at':List (List UInt8))(ps:List Pt)(i:Nat):List Pt:=
 if wM fs (ps.getD i default)=wM fs (ps.getD ((i+1)%ps.length) default)then ps else
  let qs:=ps.set i {ps.getD i default with en:=at'.getD (ps.getD ((i+1)%ps.length) default).side.toNat []}
  qs.set ((i+1)%ps.length) {qs.getD ((i+1)%ps.length) default with fr:=at'.getD (ps.getD i default).side.toNat []}
def Fb(fs:List Fr)(at':List (List UInt8))(ps:List Pt):Nat→List Pt
 |0=>ps
 |i+1=>Em fs at' (Fb fs at' ps i) i
theorem bw(fs:List Fr)(at':List (List UInt8))(ps:List Pt)(i:Nat):(Em fs at' ps i).length=ps.length:=by
 unfold Em;split <;>simp
theorem CR(fs:List Fr)(at':List (List UInt8))(ps:List Pt):∀i,(Fb fs at' ps i).length=ps.length
 |0=>rfl
 |i+1=>by rw[Fb,bw,CR]
theorem En{α:Type}{xs:List α}{i:Nat}(h:i<xs.length)(x d:α):(xs.set i x).getD i d=x:=by simp[aO,h]
theorem IW{α:Type}{xs:List α}{i j:Nat}(h:i≠j)(x d:α):(xs.set i x).getD j d=xs.getD j d:=by simp[aO,List.getElem?_set_ne h]
theorem ts{fs:List Fr}{at':List (List UInt8)}{ps:List Pt}{i:Nat}(h2:2≤ps.length)(hi:i<ps.length)(k:Nat)(hk:k<ps.length):
 (Em fs at' ps i).getD k default=
  ⟨(ps.getD k default).side,
   if(i+1)%ps.length=k∧wM fs (ps.getD i default)≠wM fs (ps.getD k default)then at'.getD (ps.getD i default).side.toNat []else(ps.getD k default).fr,
   if i=k∧wM fs (ps.getD i default)≠wM fs (ps.getD ((i+1)%ps.length) default)then at'.getD (ps.getD ((i+1)%ps.length) default).side.toNat []else(ps.getD k default).en⟩:=by
 have hq:(i+1)%ps.length<ps.length:=fU _ (by omega);have jC:i≠(i+1)%ps.length:=by
  rcases Ti hi with⟨_,e⟩|⟨_,e⟩<;>omega
 unfold Em;generalize(i+1)%ps.length=q at *;by_cases hu:wM fs (ps.getD i default)=wM fs (ps.getD q default)
 ·rw[ip hu,iN,iN]
  ·rintro⟨rfl,h⟩;exact h hu
  ·rintro⟨rfl,h⟩;exact h hu
 ·rw[iN hu];show((ps.set i _).set q _).getD k default=_;by_cases e1:q=k
  ·subst e1;rw[En (by simpa using hk),IW jC,ip (show q=q∧wM fs (ps.getD i default)≠wM fs (ps.getD q default)from⟨rfl,hu⟩),iN (show¬(i=q∧wM fs (ps.getD i default)≠wM fs (ps.getD q default))from fun h=>jC h.1)]
  ·rw[IW e1];by_cases e2:i=k
   ·subst e2;rw[En hk,ip (show i=i∧wM fs (ps.getD i default)≠wM fs (ps.getD q default)from⟨rfl,hu⟩),iN (show¬(q=i∧wM fs (ps.getD i default)≠wM fs (ps.getD i default))from fun h=>e1 h.1)]
   ·rw[IW e2,iN (fun h=>e1 h.1),iN (fun h=>e2 h.1)]
theorem tt{fs:List Fr}{p q:Pt}(h:p.side=q.side):wM fs p=wM fs q:=by unfold wM;rw[h]
theorem Qg{fs:List Fr}{at':List (List UInt8)}{ps:List Pt}(h2:2≤ps.length):∀(i:Nat),i≤ps.length→∀k,k<ps.length→
 (Fb fs at' ps i).getD k default=
  ⟨(ps.getD k default).side,
   if(k+ps.length-1)%ps.length<i∧wM fs (ps.getD ((k+ps.length-1)%ps.length) default)≠wM fs (ps.getD k default)then at'.getD (ps.getD ((k+ps.length-1)%ps.length) default).side.toNat []else(ps.getD k default).fr,
   if k<i∧wM fs (ps.getD k default)≠wM fs (ps.getD ((k+1)%ps.length) default)then at'.getD (ps.getD ((k+1)%ps.length) default).side.toNat []else(ps.getD k default).en⟩
 |0,_,k,hk=>by
  rw[Fb,iN (by omega),iN (by omega)]
 |i+1,hi,k,hk=>by
  have hl:=CR fs at' ps i
  have hq:(i+1)%ps.length<ps.length:=fU _ (by omega)
  have hpk:(k+ps.length-1)%ps.length<ps.length:=fU _ (by omega)
  have ih:=fun k hk=>Qg (fs:=fs) (at':=at') h2 i (by omega) k hk
  have hs:∀j,j<ps.length→((Fb fs at' ps i).getD j default).side=(ps.getD j default).side:=fun j hj=>by rw[ih j hj]
  have hu:∀j,j<ps.length→wM fs ((Fb fs at' ps i).getD j default)=wM fs (ps.getD j default):=fun j hj=>tt (hs j hj)
  rw[Fb,ts (by rw[hl];exact h2) (by rw[hl];omega) k (by rw[hl];exact hk),hl,hs k hk,hu i (by omega),hu k hk,hu _ hq,hs i (by omega),hs _ hq,ih k hk]
  have hprev:(i+1)%ps.length=k↔(k+ps.length-1)%ps.length=i:=by
   rcases Ti (show i<ps.length by omega)with⟨a,e⟩|⟨a,e⟩
   ·rw[e];constructor
    ·rintro rfl;rw[show i+1+ps.length-1=i+ps.length by omega,JJ,fE (by omega)]
    ·intro h;by_cases k0:k=0
     ·subst k0;rw[show 0+ps.length-1=ps.length-1 by omega,fE (by omega)]at h;omega
     ·rw[show k+ps.length-1=(k-1)+ps.length by omega,JJ,fE (by omega)]at h;omega
   ·rw[e];constructor
    ·rintro rfl;rw[show 0+ps.length-1=ps.length-1 by omega,fE (by omega)];omega
    ·intro h;by_cases k0:k=0
     ·exact k0.symm
     ·rw[show k+ps.length-1=(k-1)+ps.length by omega,JJ,fE (by omega)]at h;omega
  refine Pt.mk.injEq .. |>.mpr ⟨rfl,?_,?_⟩
  ·generalize(k+ps.length-1)%ps.length=m at *;by_cases e:(i+1)%ps.length=k
   ·have e':=hprev.1 e;subst e';generalize wM fs (ps.getD m default)=um;generalize wM fs (ps.getD k default)=uk;generalize at'.getD (ps.getD m default).side.toNat []=A;generalize(ps.getD k default).fr=F;by_cases hup:um=uk<;>simp[e,hup]
   ·have e':m≠i:=fun h=>e (hprev.2 h);have hlt:m<i+1↔m<i:=by omega
    simp only[e,false_and,if_false,hlt]
  ·by_cases e:i=k
   ·subst e;generalize wM fs (ps.getD ((i+1)%ps.length) default)=um;generalize wM fs (ps.getD i default)=uk;generalize at'.getD (ps.getD ((i+1)%ps.length) default).side.toNat []=A;generalize(ps.getD i default).en=F;by_cases hup:uk=um<;>simp[hup]
   ·have hlt:k<i+1↔k<i:=by omega
    simp only[e,false_and,if_false,hlt]
theorem tw{fs:List Fr}{at':List (List UInt8)}{ps:List Pt}(h2:2≤ps.length):Fb fs at' ps ps.length=xN fs at' ps:=by
 apply pts_ext (by rw[CR,Fa]);intro k hk;rw[CR]at hk;have hpk:(k+ps.length-1)%ps.length<ps.length:=fU _ (by omega);rw[Qg h2 _ (aG _) k hk,Oz hk];unfold WM;refine Pt.mk.injEq .. |>.mpr ⟨rfl,?_,?_⟩
 ·by_cases h:wM fs (ps.getD ((k+ps.length-1)%ps.length) default)=wM fs (ps.getD k default)
  ·rw[ip h,iN (fun x=>x.2 h)]
  ·rw[iN h,ip ⟨hpk,h⟩]
 ·by_cases h:wM fs (ps.getD k default)=wM fs (ps.getD ((k+1)%ps.length) default)
  ·rw[ip h,iN (fun x=>x.2 h)]
  ·rw[iN h,ip ⟨hk,h⟩]
def tx(fs:List Fr)(z:Rat):Prop:=
 ∃i,i<fs.length∧(((fs.getD i default).sp≠[48]∧z=(fs.getD i default).q.t)∨∃k,k<i∧(fs.getD k default).up=(fs.getD i default).up∧lR (fs.getD k default).q (fs.getD i default).q z)
def evB(fs:List Fr)(x y:List UInt8):Prop:=∃z,tx fs z∧dD x<z∧z<dD y
def CS(fs:List Fr)(p:Pt):Bool:=decide (DP fs p<0)
def L9(p:Pt):Bool:=decide (gT p.fr≠0)||decide (gT p.en≠0)
open Classical in
noncomputable def lD (fs:List Fr) (ls:List Lp) (x y:List UInt8):Int:=
 if iL fs [x,y] ls≠0 then iL fs [x,y] ls else if tK fs (oZ fs x) ls true=false then 1 else
  if(iE y x).1<0∨evB fs x y then 2 else
   if((iY fs (oZ fs y) ls).flatten.any (CS fs))=true then 2 else if((iY fs (oZ fs y) ls).flatten.any L9)=true then 4 else 0
open Classical in
noncomputable def rI (fs:List Fr) (ls:List Lp) (x y:List UInt8):List (List Pt):=if lD fs ls x y=0 then iY fs (oZ fs y) ls else[]
theorem BE(fs:List Fr)(at':List (List UInt8))(ls:List Lp):(iY fs at' ls).length=ls.length:=by unfold iY;rw[cO]
theorem OA{fs:List Fr}{at':List (List UInt8)}{ls:List Lp}{i:Nat}(hi:i<ls.length):(iY fs at' ls).getD i []=xN fs at' (ls.getD i default).ps:=by
 simp[iY,aO,hi]
theorem ua{fs:List Fr}{at':List (List UInt8)}{ls:List Lp}(Nx:Ws ls)(FD:∀k,(at'.getD k []).length≤700){nf:Nat}
 (hsd:∀i,i<ls.length→∀j,j<(ls.getD i default).ps.length→∃s:Nat,((ls.getD i default).ps.getD j default).side=s∧s<nf){i:Nat}(hi:i<ls.length):
 ((iY fs at' ls).getD i []).length=(ls.getD i default).ps.length∧∀j,j<(ls.getD i default).ps.length→
  (∃s:Nat,(((iY fs at' ls).getD i []).getD j default).side=s∧s<nf)∧(((iY fs at' ls).getD i []).getD j default).fr.length≤8000000∧(((iY fs at' ls).getD i []).getD j default).en.length≤8000000:=by
 rw[OA hi];refine⟨Fa _ _ _,fun j hj=>?_⟩;rw[Oz hj];have hm:=Nx _ (eB hi default);have hp:=hm.2 _ (eB hj default);refine⟨hsd i hi j hj,?_,?_⟩
 ·show(if _ then _ else _:List UInt8).length≤_;split
  ·exact hp.1
  ·have:=FD ((ls.getD i default).ps.getD ((j+(ls.getD i default).ps.length-1)%(ls.getD i default).ps.length) default).side.toNat;omega
 ·show(if _ then _ else _:List UInt8).length≤_;split
  ·exact hp.2
  ·have:=FD ((ls.getD i default).ps.getD ((j+1)%(ls.getD i default).ps.length) default).side.toNat;omega
theorem Tw(f:Pt→Bool)(l:List Pt):l.any f=anyN (fun k=>f (l.getD k default)) l.length:=by
 rw[DG,List.any_eq_true,eJ];constructor
 ·rintro⟨x,hx,hf⟩;obtain⟨k,hk,rfl⟩:=List.getElem_of_mem hx;exact⟨k,hk,by simpa[aO,hk]using hf⟩
 ·rintro⟨k,hk,hf⟩;exact⟨_,eB hk default,hf⟩
theorem wN(fs:List Fr)(ls:List Lp)(x y:List UInt8):
 (iL fs [x,y] ls≠0→lD fs ls x y=iL fs [x,y] ls)∧
 (iL fs [x,y] ls=0→tK fs (oZ fs x) ls true=false→lD fs ls x y=1)∧
 (iL fs [x,y] ls=0→tK fs (oZ fs x) ls true=true→((iE y x).1<0∨evB fs x y)→lD fs ls x y=2)∧
 (iL fs [x,y] ls=0→tK fs (oZ fs x) ls true=true→¬(iE y x).1<0→¬evB fs x y→
  lD fs ls x y=if((iY fs (oZ fs y) ls).flatten.any (CS fs))=true then 2 else if((iY fs (oZ fs y) ls).flatten.any L9)=true then 4 else 0):=by
 unfold lD;refine⟨fun h=>by rw[ip h],fun h h2=>by rw[iN (by rw[h];decide),ip h2],fun h h2 h3=>by rw[iN (by rw[h];decide),iN (by rw[h2];decide),ip h3],fun h h2 h3 h4=>?_⟩;rw[iN (by rw[h];decide),iN (by rw[h2];decide),iN (fun k=>k.elim h3 h4)]
theorem BF{fs:List Fr}{ls:List Lp}{x y:List UInt8}(h:lD fs ls x y≠0):rI fs ls x y=[]:=iN h
theorem IX{fs:List Fr}{ls:List Lp}{x y:List UInt8}(h:lD fs ls x y=0):rI fs ls x y=iY fs (oZ fs y) ls:=ip h
def wU:List Fr:=[⟨false,0,1,[49],[48]⟩,⟨true,10,-1,[49],[48]⟩,⟨false,10,-1,[49],[48]⟩,⟨true,0,1,[49],[48]⟩]
def AB(u v:List UInt8):List Pt:=[⟨0,u,v⟩,⟨1,u,v⟩,⟨2,v,u⟩,⟨3,v,u⟩]
theorem uc(a:Option cT)(c:Nat):iL wU [[48],[51]] [⟨a,c,AB [48] [49,48]⟩]=0:=by kernel_rfl
theorem YE(a:Option cT)(c:Nat):tK wU (oZ wU [48]) [⟨a,c,AB [48] [49,48]⟩] true=true:=by kernel_rfl
theorem ud(a:Option cT)(c:Nat):iY wU (oZ wU [51]) [⟨a,c,AB [48] [49,48]⟩]=[AB [51] [55]]:=by kernel_rfl
theorem ue(a:Option cT)(c:Nat):iY wU (oZ wU [53]) [⟨a,c,AB [48] [49,48]⟩]=[AB [53] [53]]:=by kernel_rfl
theorem uf:[AB [51] [55]].flatten.any (CS wU)=false:=by kernel_rfl
theorem ug:[AB [53] [53]].flatten.any (CS wU)=false:=by kernel_rfl
theorem sq_lim3:[AB [51] [55]].flatten.any L9=false:=by kernel_rfl
theorem sq_lim5:[AB [53] [53]].flatten.any L9=false:=by kernel_rfl
theorem sq_cmp3:(iE [51] [48]).1=1:=by kernel_rfl
theorem sq_cmp5:(iE [53] [48]).1=1:=by kernel_rfl
theorem uh:(iE [53] [53]).1=0:=by kernel_rfl
theorem sq_v0:dD [48]=0:=by kernel_rfl
theorem sq_v3:dD [51]=3:=by kernel_rfl
theorem sq_v5:dD [53]=5:=by kernel_rfl
theorem sq_q0:(wU.getD 0 default).q=⟨false,0,1,1,0⟩:=by kernel_rfl
theorem sq_q1:(wU.getD 1 default).q=⟨true,10,-1,1,0⟩:=by kernel_rfl
theorem sq_q2:(wU.getD 2 default).q=⟨false,10,-1,1,0⟩:=by kernel_rfl
theorem sq_q3:(wU.getD 3 default).q=⟨true,0,1,1,0⟩:=by kernel_rfl
theorem YF(u:Bool){z:Rat}(hz:0<z):((⟨u,0,1,1,0⟩:FQ).pos z=(⟨u,10,-1,1,0⟩:FQ).pos z∨(⟨u,10,-1,1,0⟩:FQ).pos z=(⟨u,0,1,1,0⟩:FQ).pos z)→z=5:=by
 rw[IP (q:=⟨u,0,1,1,0⟩) hz,IP (q:=⟨u,10,-1,1,0⟩) hz];unfold FQ.vel;simp only[];intro h;have e:((1:Int):Rat)=1:=rfl;have e2:((-1:Int):Rat)= -1:=rfl;have e3:((0:Int):Rat)=0:=rfl;have e4:((10:Int):Rat)=10:=rfl;rw[e,e2,e3,e4]at h;grind
theorem sq_ev{z:Rat}(h:tx wU z)(hz:0<z):z=5:=by
 obtain⟨i,hi,h⟩:=h;have hi:i<4:=hi;have ht:∀j,j<4→(wU.getD j default).q.t=0:=fun j hj=>by
  match j,hj with
  |0,_=>rw[sq_q0]
  |1,_=>rw[sq_q1]
  |2,_=>rw[sq_q2]
  |3,_=>rw[sq_q3]
 rcases h with⟨-,h⟩|⟨k,hk,hu,hm,-⟩
 ·rw[ht i hi]at h;grind
 ·match i,k,hi,hk with
  |1,0,_,_=>exact absurd hu (by decide)
  |2,0,_,_=>rw[sq_q0,sq_q2]at hm;exact YF false hz (.inl hm)
  |2,1,_,_=>exact absurd hu (by decide)
  |3,0,_,_=>exact absurd hu (by decide)
  |3,1,_,_=>rw[sq_q1,sq_q3]at hm;exact YF true hz (.inr hm)
  |3,2,_,_=>exact absurd hu (by decide)
theorem sq_ev3:¬evB wU [48] [51]:=fun⟨z,h,h1,h2⟩=>by
 rw[sq_v0]at h1;rw[sq_v3]at h2
 have:=sq_ev h h1
 grind
theorem sq_ev5:¬evB wU [48] [53]:=fun⟨z,h,h1,h2⟩=>by
 rw[sq_v0]at h1;rw[sq_v5]at h2
 have:=sq_ev h h1
 grind
theorem ui(a:Option cT)(c:Nat):iL wU [[48],[53]] [⟨a,c,AB [48] [49,48]⟩]=0:=by kernel_rfl
theorem YG(a:Option cT)(c:Nat):lD wU [⟨a,c,AB [48] [49,48]⟩] [48] [51]=0:=by
 rw[(wN _ _ _ _).2.2.2 (uc a c) (YE a c) (by rw[sq_cmp3];decide) sq_ev3,ud,iN (by rw[uf];decide),iN (by rw[sq_lim3];decide)]
theorem YH(a:Option cT)(c:Nat):lD wU [⟨a,c,AB [48] [49,48]⟩] [48] [53]=0:=by
 rw[(wN _ _ _ _).2.2.2 (ui a c) (YE a c) (by rw[sq_cmp5];decide) sq_ev5,ue,iN (by rw[ug];decide),iN (by rw[sq_lim5];decide)]
theorem sq_val3(a:Option cT)(c:Nat):rI wU [⟨a,c,AB [48] [49,48]⟩] [48] [51]=[AB [51] [55]]:=by rw[IX (YG a c),ud]
theorem sq_val5(a:Option cT)(c:Nat):rI wU [⟨a,c,AB [48] [49,48]⟩] [48] [53]=[AB [53] [53]]:=by rw[IX (YH a c),ue]
theorem sq_perr(a:Option cT)(c:Nat):sX wU [⟨a,c,AB [51] [55]⟩] [51]=0:=by kernel_rfl
theorem sq_pval(a:Option cT)(c:Nat):CN wU [⟨a,c,AB [51] [55]⟩] [51]=[[⟨[51],[51]⟩,⟨[55],[51]⟩,⟨[55],[55]⟩,⟨[51],[55]⟩]]:=by kernel_rfl
theorem sq_chk5(a:Option cT)(c:Nat):iL wU [[53]] [⟨a,c,AB [53] [53]⟩]=0:=by kernel_rfl
theorem sq_all5(a:Option cT)(c:Nat):tK wU (oZ wU [53]) [⟨a,c,AB [53] [53]⟩] false=true:=by kernel_rfl
theorem sq_pt5:∀j,j<4→∃s:Nat,((AB [53] [53]).getD j default).side=s∧s<4∧dV wU (oZ wU [53]) ((AB [53] [53]).getD j default)=⟨[53],[53]⟩∧((AB [53] [53]).getD j default).en=[53]:=fun j hj=>
 match j,hj with
 |0,_=>⟨0,rfl,by decide,by kernel_rfl,rfl⟩
 |1,_=>⟨1,rfl,by decide,by kernel_rfl,rfl⟩
 |2,_=>⟨2,rfl,by decide,by kernel_rfl,rfl⟩
 |3,_=>⟨3,rfl,by decide,by kernel_rfl,rfl⟩
end
section
open Go Go.RowKit Go.Shelf Go.Lib
theorem GH(a:Option cT)(c:Nat)(u v:List UInt8)(hu:u.length≤10)(hv:v.length≤10):Ws [⟨a,c,AB u v⟩]:=by
 intro l hl;rw[List.mem_singleton.1 hl];refine⟨by show 4≤1000000;decide,fun p hp=>?_⟩;simp only[AB,sZ,Cd,or_false]at hp;rcases hp with rfl|rfl|rfl|rfl<;>exact⟨by simp only[];omega,by simp only[];omega⟩
theorem YI:∀f∈wU,f.sp.length≤30∧f.st.length≤30:=by decide
theorem sq_dir:∀f∈wU,f.dir=1∨f.dir= -1:=by decide
theorem uj(a b:Option cT)(ca cb:Nat)(la:Option cT)(lc:Nat)(w:aF)(hE:iM w)(rf:zR w a wU)(rl:E5 w b [⟨la,lc,AB [53] [53]⟩]):
 aW aC 11 #[aB a 4 ca,aB b 1 cb,aA ⟨#[53]⟩] w (Rt (cC #[aB none 0 0,aD aE 0]) w):=by
 have e5:(⟨#[53]⟩:ByteArray)=bs [53]:=rfl;have fA:=(aH w.heap.size w).alloc (aG _) (aJ #[aA ⟨#[53]⟩] 27);have rz:Ek (w.alloc (aJ #[aA ⟨#[53]⟩] 27)) (some ⟨w.heap.size,0,none⟩) [[53]]:=by
  have q:=bT.new w #[aA ⟨#[53]⟩] 27;intro i hi;have hi:i<1:=hi;match i,hi with
  |0,_=>exact⟨_,_,rfl,q.cell 0⟩
 have HN:=zq (sV a b (some ⟨w.heap.size,0,none⟩) 4 1 1 ca cb 1 wU [⟨la,lc,AB [53] [53]⟩] [[53]] _ (hE.below fA) rfl rfl rfl (by decide) (by decide) (by decide) YI (fun z hz=>by rw[List.mem_singleton.1 hz];decide) (fun l h=>(GH la lc [53] [53] (by decide) (by decide) l h).1) (rf.below fA) (rl.below fA) rz);have HA:bH (∀a2 c2 W,Below w.heap.size w W→Ek W a2 (oZ wU [53])→aW aC 38 #[cN #[aB a 4 ca,aB a2 4 c2],aB b 1 cb,aN false] W (Rt (aN true) W)):=fun a2 c2 W hW ra=>by
  have:=Wt a a2 b 4 1 ca c2 cb wU (oZ wU [53]) [⟨la,lc,AB [53] [53]⟩] false W (hE.below hW) rfl (by rw[Dv];rfl) rfl (by decide) sq_dir (GH la lc [53] [53] (by decide) (by decide)) (rf.below hW) ra (rl.below hW);rwa[sq_all5]at this
 have HG:bH (∀a2 c2 W,Below w.heap.size w W→Ek W a2 (oZ wU [53])→aW aC 39 #[cN #[aB a 4 ca,aB a2 4 c2],aB b 1 cb] W fun e w'=>(∃G xa ya cx cy,e=aQ (bA (some ⟨G,0,none⟩))∧Ih w' G (aB xa 1 cx) (aB ya 1 cy))∧Below W.heap.size W w'):=fun a2 c2 W hW ra=>
  WG a a2 b 4 ca c2 cb wU (oZ wU [53]) ⟨la,lc,AB [53] [53]⟩ [53] W (hE.below hW) rfl (by rw[Dv];rfl) rfl sq_pt5 (by decide) uh (rf.below hW) ra (rl.below hW)
 have gY:=zq fA;unfold P9 at HN;rw[sq_chk5]at HN;clear fA rz rf rl hE e5;go_enter func11,ntmps11;go_wp2_with fail
 refine HN.out.mono ?_;rintro e W1⟨⟨a1,n1,c1,a2,n2,c2,rfl,hk⟩,hb1⟩;obtain⟨e1,e2,e3,hq⟩:=hk (by first |trivial|rfl);obtain⟨e4,hr⟩:=hq (by first |trivial|simp);subst e1;subst e2;subst e3;subst e4;have eW:=zq (aU gY.out hb1);have Hr:=zq hr;clear hb1 hr hk hq HN gY;obtain⟨W2,Ii⟩:∃V,W1.alloc (aJ #[aB a1 4 c1,aB a2 4 c2] 70)=V:=⟨_,rfl⟩;have hb2:Below W1.heap.size W1 W2:=by rw[←Ii];exact(aH _ _).alloc (aG _) _
 have HT:bH (bT W2 W1.heap.size #[aB a1 4 c1,aB a2 4 c2] 70):=by rw[←Ii];exact bT.new _ _ _
 have fR:=zq (aU eW.out hb2);have Hr2:=zq (Hr.out.below hb2);clear hb2 eW Hr;obtain⟨t0,t1,-,-,lT⟩:=HT.out.two;go_upto_if 29 with(fail);try rw[Ii]
 refine(HA.out _ _ _ fR.out Hr2.out).mono ?_;rintro e W3⟨rfl,hb3⟩;have HB3:=zq (aU fR.out hb3);have Ty:=zq (HT.out.below hb3 HT.out.lt);have Hr3:=zq (Hr2.out.below hb3);clear hb3 HT fR Hr2 t0 t1 lT HA Ii;obtain⟨t0,t1,-,-,lT⟩:=Ty.out.two;go_wp2_with fail
 refine(HG.out _ _ _ HB3.out Hr3.out).mono ?_;rintro e W4⟨⟨G,xa,ya,cx,cy,rfl,hg⟩,hb4⟩;have zG:=zq (aU HB3.out hb4);have HT4:=zq (Ty.out.below hb4 Ty.out.lt);have HGr:=zq hg;clear hb4 hg Ty HB3 Hr3 t0 t1 lT HG;go_wp2_with fail
 refine(WJ G xa ya cx cy W4 HGr.out).mono ?_;rintro e W5⟨rfl,hb5⟩;have yI:=zq (aU zG.out hb5);have HT5:=zq (HT4.out.below hb5 HT4.out.lt);clear hb5 HT4 zG HGr;obtain⟨t0,t1,-,-,lT⟩:=HT5.out.two;go_wp2;go_loopw[42] (fun i wr=>i=aD aE 0∧wr=W5) (fun _ _=>0);case atStart=>exact⟨rfl,rfl⟩
 case round=>
  obtain⟨rfl,rfl⟩:=hrel;go_wp2_with fail
  refine(Ny a1 a2 4 4 c1 c2 _).mono ?_;rintro e W6⟨rfl,hb6⟩;have FC:=zq (aU yI.out hb6);clear hb6;go_wp2;go_ret2;exact⟨rfl,FC.out⟩
section
attribute[local go_sem] dW
def mS(B B1 B2:Nat)(V V':aF):Prop:=Below B V V'∧cY (fun k=>k=B1∨k=B2) V V'
theorem mS.trans{B B1 B2:Nat}{X Y Z:aF}(h:mS B B1 B2 X Y)(k:mS B B1 B2 Y Z):mS B B1 B2 X Z:=⟨h.1.trans k.1,h.2.trans k.2⟩
theorem mS.call{B B1 B2:Nat}{X Y:aF}(h:Below X.heap.size X Y)(hB:B≤X.heap.size)(h1:B1<X.heap.size)(h2:B2<X.heap.size):mS B B1 B2 X Y:=
 ⟨h.mono hB,cY.below h (by rintro k (rfl|rfl)<;>assumption)⟩
theorem mS.blk1{B B1 B2:Nat}{X Y:aF}(h:mS B B1 B2 X Y){cs:Array aS}{T:eC}(k:bT X B1 cs T):bT Y B1 cs T:=(h.2 B1 (.inl rfl)).trans k
theorem mS.blk2{B B1 B2:Nat}{X Y:aF}(h:mS B B1 B2 X Y){cs:Array aS}{T:eC}(k:bT X B2 cs T):bT Y B2 cs T:=(h.2 B2 (.inr rfl)).trans k
def ce2(f g:FQ):List Rat:=[f.t,g.t]
def jv(f g:FQ):List Rat:=ce2 f g++(if f.vel≠0 then[f.t+yH f g/f.vel]else[])
def ul(f g:FQ):List Rat:=jv f g++(if g.vel≠0 then[g.t-yH f g/g.vel]else[])
theorem GI(f g:FQ):iW f g=ul f g++(if f.vel≠g.vel then[(yH f g+(f.vel*f.t-g.vel*g.t))/(f.vel-g.vel)]else[]):=rfl
theorem Qh{xs ys:List Rat}{c:Prop}[Decidable c]{x:Rat}(h:ys=xs++(if c then[x]else[])):(c→ys=xs++[x])∧(¬c→ys=xs):=
 ⟨fun k=>by rw[h,ip k],fun k=>by rw[h,iN k,pP]⟩
theorem Qi{P xs ys zs:List Rat}{x:Rat}(h1:ys=xs++[x])(h2:P=ys++zs):P.getD xs.length 0=x∧xs.length<P.length∧ys.length=xs.length+1:=by
 subst h1 h2;refine⟨by simp[aO],by simp,by simp⟩
theorem yb{e:Ending}{P R:Prop}(h:(e=aQ (aN true)∧P)∨(e=aQ (aN false)∧R)):∃b:Bool,e=aQ (aN b)∧bH ((b=true∧P)∨(b=false∧R)):=by
 rcases h with⟨h,p⟩|⟨h,r⟩
 ·exact⟨true,h,.inl ⟨rfl,p⟩⟩
 ·exact⟨false,h,.inr ⟨rfl,r⟩⟩
theorem un(f g:FQ):∃zs,iW f g=ul f g++zs:=⟨_,GI f g⟩
theorem uq(f g:FQ):∃zs,iW f g=jv f g++zs:=⟨_,(GI f g).trans (List.append_assoc ..)⟩
def Ma(f g:FQ)(k:Nat):Rat:=(iW f g).getD k 0
theorem ur(B1 B2 B:Nat)(f g:FQ)(hf:f.Good)(hg:g.Good)(w:aF)(hB:B≤w.heap.size)(hl1:B1<w.heap.size)(hl2:B2<w.heap.size)
 (hE:∀V,Below B w V→iM V)(q1:bT w B1 f.fr.cells 44)(q2:bT w B2 g.fr.cells 44):
 Sk dG 8 aC 267 #[bA (some ⟨B1,0,none⟩),bA (some ⟨B2,0,none⟩)] (fun k=> #[aA (bs (bJ (Ma f g k)))]) (mS B B1 B2) (iW f g).length w:=by
 intro l J Jx W hW hJ hY h0;have K0:mS B B1 B2 w W:=mS.call hW hB hl1 hl2;have p1:=K0.blk1 q1;have p2:=K0.blk2 q2;have hE:=zq (fun V(h:Below B W V)=>hE V (K0.1.trans h));have ut:B≤W.heap.size:=bE hB hW.size;have hl1':B1<W.heap.size:=p1.lt;have hl2':B2<W.heap.size:=p2.lt;clear q1 q2 K0 hB hl1 hl2 hW;have Mb:HQ 11 (yH f g):=(hg.hco.sub hf.hco).mono (by decide);have OB:=zq (fun V(h:Below B W V)=>zE f hf V (hE.out V h));have Ry:=zq (fun V(h:Below B W V)=>zE g hg V (hE.out V h));have qh:=zq (fun V(h:Below B W V)=>Gz f.co V (hE.out V h) (by have:=hf.co0;have:=hf.co1;omega));have Wi:=zq (fun V(h:Below B W V)=>Gz g.co V (hE.out V h) (by have:=hg.co0;have:=hg.co1;omega));have HGp:bH (∀V,Below B W V→aW aC 243 #[aA (bs (bJ (g.co:Rat))),aA (bs (bJ (f.co:Rat)))] V (Rt (aA (bs (bJ (yH f g)))) V)):=fun V h=>GB hg.hco hf.hco (by decide) V (hE.out V h);have MW:=zq (fun(h0:f.vel≠0)V(h:Below B W V)=>PZ Mb hf.hvel (by decide) h0 V (hE.out V h));have Vl:=zq (fun(h0:f.vel≠0)V(h:Below B W V)=>PW hf.t (Mb.div hf.hvel h0) (by decide) V (hE.out V h));have IK:=zq (fun(h0:g.vel≠0)V(h:Below B W V)=>PZ Mb hg.hvel (by decide) h0 V (hE.out V h));have HS2:=zq (fun(h0:g.vel≠0)V(h:Below B W V)=>GB hg.t (Mb.div hg.hvel h0) (by decide) V (hE.out V h));have HM1:=zq (fun V(h:Below B W V)=>Ks hf.hvel hf.t (by decide) V (hE.out V h));have HM2:=zq (fun V(h:Below B W V)=>Ks hg.hvel hg.t (by decide) V (hE.out V h));have HSm:=zq (fun V(h:Below B W V)=>GB (hf.hvel.mul hf.t) (hg.hvel.mul hg.t) (by decide) V (hE.out V h));have HAm:=zq (fun V(h:Below B W V)=>PW Mb ((hf.hvel.mul hf.t).sub (hg.hvel.mul hg.t)) (by decide) V (hE.out V h));have HSv:=zq (fun V(h:Below B W V)=>GB hf.hvel hg.hvel (by decide) V (hE.out V h));have HDl:=zq (fun(h0:f.vel-g.vel≠0)V(h:Below B W V)=>PZ (Mb.add ((hf.hvel.mul hf.t).sub (hg.hvel.mul hg.t))) (hf.hvel.sub hg.hvel) (by decide) h0 V (hE.out V h));have c4:=zq (Qh (GI f g));have c3:=zq (Qh (xs:=jv f g) (ys:=ul f g) rfl);have c2:=zq (Qh (xs:=ce2 f g) (ys:=jv f g) rfl);have z1:=zq (tn f.vel);have z2:=zq (tn g.vel);have z3:=zq (YD f.vel g.vel);clear Mb hf hg hE;have bz:bH (∀k V,k<(iW f g).length→J k V→UH dG 7 aC l #[aA (bs (bJ ((iW f g).getD k 0)))] V fun e V'=>(e=aQ (aN true)∧J (k+1) V'∧mS B B1 B2 V V')∨(e=aQ (aN false)∧Jx (k+1) V')):=hY;have HJ:=zq hJ;have hg0:(iW f g).getD 0 0=f.t:=rfl;have hg1:(iW f g).getD 1 0=g.t:=rfl;have kK:2≤(iW f g).length:=by rw[GI,ul,jv,ce2];simp only[cP,bF,bY];omega
 have Y2:bH (f.vel≠0→(jv f g).length≤(iW f g).length∧∀V,J (ce2 f g).length V→UH dG 7 aC l #[aA (bs (bJ (f.t+yH f g/f.vel)))] V fun e V'=>(e=aQ (aN true)∧J (jv f g).length V'∧mS B B1 B2 V V')∨(e=aQ (aN false)∧Jx (jv f g).length V')):=fun h=>by
  obtain⟨zs,hz⟩:=uq f g;obtain⟨e1,e2,e3⟩:=Qi (c2.out.1 h) hz;refine⟨by rw[hz,cP];omega,fun V hV=>?_⟩;have:=bz.out _ V e2 hV;rwa[e1,←e3]at this
 have Y3:bH (g.vel≠0→(ul f g).length≤(iW f g).length∧∀V,J (jv f g).length V→UH dG 7 aC l #[aA (bs (bJ (g.t-yH f g/g.vel)))] V fun e V'=>(e=aQ (aN true)∧J (ul f g).length V'∧mS B B1 B2 V V')∨(e=aQ (aN false)∧Jx (ul f g).length V')):=fun h=>by
  obtain⟨zs,hz⟩:=un f g;obtain⟨e1,e2,e3⟩:=Qi (c3.out.1 h) hz;refine⟨by rw[hz,cP];omega,fun V hV=>?_⟩;have:=bz.out _ V e2 hV;rwa[e1,←e3]at this
 have Y4:bH (f.vel≠g.vel→∀V,J (ul f g).length V→UH dG 7 aC l #[aA (bs (bJ ((yH f g+(f.vel*f.t-g.vel*g.t))/(f.vel-g.vel))))] V fun e V'=>(e=aQ (aN true)∧J (iW f g).length V'∧mS B B1 B2 V V')∨(e=aQ (aN false)∧Jx (iW f g).length V')):=fun h=>by
  obtain⟨e1,e2,e3⟩:=Qi (zs:=[]) (c4.out.1 h) (pP _).symm;intro V hV;have:=bz.out _ V e2 hV;rwa[e1,←e3]at this
 have L2:bH (f.vel=0→(jv f g).length=(ce2 f g).length):=fun h=>by rw[c2.out.2 (fun k=>k h)]
 have L3:bH (g.vel=0→(ul f g).length=(jv f g).length):=fun h=>by rw[c3.out.2 (fun k=>k h)]
 have L4:bH (f.vel=g.vel→(iW f g).length=(ul f g).length):=fun h=>by rw[c4.out.2 (fun k=>k h)]
 have Y0:=zq (fun V(h:J 0 V)=>bz.out 0 V (by omega) h);have Y1:=zq (fun V(h:J 1 V)=>bz.out 1 V (by omega) h);rw[hg0]at Y0;rw[hg1]at Y1;have c0:W.cell? ⟨B1,0,none⟩=some (aN f.up):=p1.cell 0;have c1:W.cell? ⟨B1,1,none⟩=some (aD aE f.co):=p1.cell 1;have c2':W.cell? ⟨B1,2,none⟩=some (aD aE f.dir):=p1.cell 2;have c3':W.cell? ⟨B1,3,none⟩=some (aA (bs (bJ f.v))):=p1.cell 3;have c4':W.cell? ⟨B1,4,none⟩=some (aA (bs (bJ f.t))):=p1.cell 4;have d4:W.cell? ⟨B2,4,none⟩=some (aA (bs (bJ g.t))):=p2.cell 4;have P1:bH (bT W B1 #[aN f.up,aD aE f.co,aD aE f.dir,aA (bs (bJ f.v)),aA (bs (bJ f.t))] 44):=p1;have P2:bH (bT W B2 #[aN g.up,aD aE g.co,aD aE g.dir,aA (bs (bJ g.v)),aA (bs (bJ g.t))] 44):=p2;have Q1:=zq P1.out;have Q2:=zq P2.out;have OB:bH (∀V,Below B W V→aW aC 242 #[cN #[aN f.up,aD aE f.co,aD aE f.dir,aA (bs (bJ f.v)),aA (bs (bJ f.t))]] V (Rt (aA (bs (bJ f.vel))) V)):=OB;have Ry:bH (∀V,Below B W V→aW aC 242 #[cN #[aN g.up,aD aE g.co,aD aE g.dir,aA (bs (bJ g.v)),aA (bs (bJ g.t))]] V (Rt (aA (bs (bJ g.vel))) V)):=Ry;have H0:=zq h0;have HYa:=zq hY;obtain⟨N,hN⟩:∃N,(iW f g).length=N:=⟨_,rfl⟩;rw[hN]at kK Y2 Y3 Y4 L4⊢;have L1:bH ((ce2 f g).length=2):=rfl;generalize(ce2 f g).length=k2 at *;generalize(jv f g).length=k3 at *;generalize(ul f g).length=k4 at *;have HN:=zq hN;clear p1 p2 h0 hY hJ bz hg0 hg1 hN;generalize bs (bJ f.v)=S1 at *;generalize bs (bJ g.v)=S2 at *;generalize bs (bJ f.t)=T1 at *;generalize bs (bJ g.t)=T2 at *;generalize bs (bJ f.vel)=VT at *;generalize bs (bJ g.vel)=WT at *;generalize bs (bJ (yH f g))=GT at *;generalize bs (bJ (f.co:Rat))=C1 at *;generalize bs (bJ (g.co:Rat))=C2 at *;generalize f.up=up1 at *;generalize f.dir=dir1 at *;generalize g.up=up2 at *;generalize g.dir=dir2 at *;refine GZ func267 rfl trivial ?_ rfl;simp only[ntmps267,bW,bF,bY,cW,cX,bR,bS,cD,bU,cL,bZ];obtain⟨fn,tmps,assign,body,hy,hR⟩:=Y0.out W H0.out;clear Y0;gi_wp2;refine hR.mono ?_;rintro e W1 (⟨rfl,hJ1,Yh⟩|⟨rfl,hx⟩);case inr=>
  gi_wp2;repeat(refine⟨fun _ h=>(by cases h),?_⟩;gi_wp2)
  refine cI (tE rfl _ _ _) rfl ?_;exact⟨⟨_,rfl⟩,.inr ⟨1,bE (by decide) kK,hx⟩⟩
 have K1:=zq Yh;have d4:=(K1.out.2.cell (p:=⟨B2,4,none⟩) (.inr rfl)).trans d4;obtain⟨fn,tmps,assign,body,hy,hR⟩:=Y1.out W1 hJ1;clear Y1 H0 hJ1 Yh c0 c1 c2' c3' c4';gi_wp2;refine hR.mono ?_;rintro e W2 (⟨rfl,hJ2,hk2⟩|⟨rfl,hx⟩);case inr=>
  gi_wp2;refine cI (tE rfl _ _ _) rfl ?_;exact⟨⟨_,rfl⟩,.inr ⟨2,kK,hx⟩⟩
 have K2:=zq (K1.out.trans hk2);have HJ2:=zq hJ2;clear hJ2 hk2 K1 d4 kK;have P1:=zq (K2.out.blk1 P1.out);have P2:=zq (K2.out.blk2 P2.out);gi_wp2;obtain⟨c0,c1,c2',c3',c4'⟩:=P1.out.front;obtain⟨d0,d1,d2,d3,d4⟩:=P2.out.front;have KB2:=zq K2.out.1;have FA:B≤W2.heap.size:=bE ut KB2.out.size;gi_cut [4,5]from 7 (fun a b V=>a=aA VT∧b=aA WT∧bH (Below W2.heap.size W2 V));case first =>
  refine wpIn_wide.2 ?_;go_region_held3 (fun w'=>w'.cell? ⟨B1,0,none⟩=some (aN up1)∧w'.cell? ⟨B1,1,none⟩=some (aD aE f.co)∧w'.cell? ⟨B1,2,none⟩=some (aD aE dir1)∧w'.cell? ⟨B1,3,none⟩=some (aA S1)∧w'.cell? ⟨B1,4,none⟩=some (aA T1)∧w'.cell? ⟨B2,0,none⟩=some (aN up2)∧w'.cell? ⟨B2,1,none⟩=some (aD aE g.co)∧w'.cell? ⟨B2,2,none⟩=some (aD aE dir2)∧w'.cell? ⟨B2,3,none⟩=some (aA S2)∧w'.cell? ⟨B2,4,none⟩=some (aA T2)) (go_keep)
   (first
    |(go_at_call 242;with_reducible refine(OB.out _ KB2.out.drew).mono ?_;rintro e w1 ⟨rfl,hb1⟩;have mM:=zq (aU (aH _ W2).drew hb1);have:=ck hb1 B1 0 (aN up1);have:=ck hb1 B1 1 (aD aE f.co);have:=ck hb1 B1 2 (aD aE dir1);have:=ck hb1 B1 3 (aA S1);have:=ck hb1 B1 4 (aA T1);have:=ck hb1 B2 0 (aN up2);have:=ck hb1 B2 1 (aD aE g.co);have:=ck hb1 B2 2 (aD aE dir2);have:=ck hb1 B2 3 (aA S2);have:=ck hb1 B2 4 (aA T2))
    |(go_at_call 242;with_reducible refine(Ry.out _ (KB2.out.trans (mM.out.mono FA))).mono ?_;rintro e w2 ⟨rfl,hb2⟩;have gJ:=zq (aU mM.out hb2);have:=ck hb2 B1 0 (aN up1);have:=ck hb2 B1 1 (aD aE f.co);have:=ck hb2 B1 2 (aD aE dir1);have:=ck hb2 B1 3 (aA S1);have:=ck hb2 B1 4 (aA T1);have:=ck hb2 B2 0 (aN up2);have:=ck hb2 B2 1 (aD aE g.co);have:=ck hb2 B2 2 (aD aE dir2);have:=ck hb2 B2 3 (aA S2);have:=ck hb2 B2 4 (aA T2)))
  all_goals
   gi_wp2;gi_meet;case rel=>exact⟨rfl,rfl,gJ.out⟩
 case rest=>
 obtain⟨rfl,rfl,fR⟩:=hcut;rename aF=>W3;have HJ3:=zq (HJ.out _ _ _ HJ2.out fR.out);have K3:=zq (K2.out.trans (mS.call fR.out (bE ut K2.out.1.size) P1.out.lt P2.out.lt));have KB3:=zq K3.out.1;have pv:B≤W3.heap.size:=bE ut KB3.out.size;clear c0 c1 c2' c3' c4' d0 d1 d2 d3 d4;have P1:=zq (P1.out.below fR.out P1.out.lt);have P2:=zq (P2.out.below fR.out P2.out.lt);clear fR HJ2 K2;obtain⟨c0,c1,c2',c3',c4'⟩:=P1.out.front;obtain⟨d0,d1,d2,d3,d4⟩:=P2.out.front;gi_wp2;gi_cut [6]from 7 (fun a V=>a=aA GT∧bH (Below W3.heap.size W3 V));case first =>
  refine wpIn_wide.2 ?_;go_region_held3 (fun w'=>w'.cell? ⟨B1,1,none⟩=some (aD aE f.co)∧w'.cell? ⟨B1,4,none⟩=some (aA T1)∧w'.cell? ⟨B2,1,none⟩=some (aD aE g.co)∧w'.cell? ⟨B2,4,none⟩=some (aA T2)) (go_keep)
   (first
    |(go_at_call 239;with_reducible refine(Wi.out _ KB3.out.drew).mono ?_;rintro e w1 ⟨rfl,hb1⟩;have mM:=zq (aU (aH _ W3).drew hb1);have:=ck hb1 B1 1 (aD aE f.co);have:=ck hb1 B1 4 (aA T1);have:=ck hb1 B2 1 (aD aE g.co);have:=ck hb1 B2 4 (aA T2))
    |(go_at_call 239;with_reducible refine(qh.out _ (KB3.out.trans (mM.out.mono pv))).mono ?_;rintro e w2 ⟨rfl,hb2⟩;have gJ:=zq (aU mM.out hb2);have:=ck hb2 B1 1 (aD aE f.co);have:=ck hb2 B1 4 (aA T1);have:=ck hb2 B2 1 (aD aE g.co);have:=ck hb2 B2 4 (aA T2))
    |(go_at_call 243;with_reducible refine(HGp.out _ (KB3.out.trans (gJ.out.mono pv))).mono ?_;rintro e w3 ⟨rfl,hb3⟩;have kY:=zq (aU gJ.out hb3);have:=ck hb3 B1 1 (aD aE f.co);have:=ck hb3 B1 4 (aA T1);have:=ck hb3 B2 1 (aD aE g.co);have:=ck hb3 B2 4 (aA T2)))
  all_goals
   gi_wp2;gi_meet;case rel=>exact⟨rfl,kY.out⟩
 case rest=>
 obtain⟨rfl,HB3⟩:=hcut;rename aF=>W4;have HJ4:bH (J k2 W4):=by have:=HJ.out _ _ _ HJ3.out HB3.out;rw[L1.out];exact this
 have K4:=zq (K3.out.trans (mS.call HB3.out (bE ut K3.out.1.size) P1.out.lt P2.out.lt));have KB4:=zq K4.out.1;have Vg:B≤W4.heap.size:=bE ut KB4.out.size;clear c0 c1 c2' c3' c4' d0 d1 d2 d3 d4;have P1:=zq (P1.out.below HB3.out P1.out.lt);have P2:=zq (P2.out.below HB3.out P2.out.lt);clear HB3 HJ3 K3 OB Ry qh Wi HGp;obtain⟨-,c1,-,-,c4'⟩:=P1.out.front;obtain⟨-,d1,-,-,d4⟩:=P2.out.front;gi_wp2;gi_cut [42]from 7 (fun v V=>(v=aN false∧bH (J k3 V)∧bH (mS B B1 B2 W V))∨(v=aN true∧bH (∃k,k≤N∧Jx k V)));case first =>
  by_cases hv:f.vel=0
  ·have hvb:(VT.toList==[48])=true:=by rw[z1.out];exact decide_eq_true hv
   have L2:=L2.out hv;refine wpIn_wide.2 ?_;refine wp_region_held_drew (S:=(fun _=>True)) (by kernel_rfl) ?_ (fun rR=>?_)
   ·trivial
   refine tH 0 rfl ?_;refine tH 1 rfl ?_;refine tH 2 rfl ?_;refine sH 3 rfl ?_;refine sH 4 rfl ?_;refine sH 5 rfl ?_;refine sH 6 rfl ?_;refine sH 7 rfl ?_;refine sH 8 rfl ?_;refine sH 9 rfl ?_;refine sH 10 rfl ?_;refine sH 11 rfl ?_;refine tH 12 rfl ?_;try simp only[dK,bD,aY,aZ,aM,aV,bC]
   refine BQ (by kernel_rfl) ?_ _;gi_wp2;gi_meet;case rel=>exact .inl ⟨rfl,HJ.out k3 W4 _ (by rw[L2];exact HJ4.out) (aH _ W4).drew,K4.out.trans (mS.call (aH _ W4).drew Vg P1.out.lt P2.out.lt)⟩
  ·have hvb:(VT.toList==[48])=false:=by rw[z1.out];exact decide_eq_false hv
   have MW:=zq (MW.out hv);have Vl:=zq (Vl.out hv);obtain⟨hk3,hY2⟩:=Y2.out hv;have HY2:=zq hY2;clear hv hY2;generalize bs (bJ (yH f g/f.vel))=D1 at *;generalize bs (bJ (f.t+yH f g/f.vel))=A1 at *;gi_region_with
    (first
     |(refine⟨trivial,?_⟩;gi_at_call 268;(with_reducible refine(callsIn_wide.2 (MW.out _ KB4.out.drew)).mono ?_);rintro e w1 ⟨rfl,hb1⟩;have mM:=zq (aU (aH _ W4).drew hb1);have:=ck hb1 B1 4 (aA T1);have:=ck hb1 B2 4 (aA T2))
     |(refine⟨trivial,?_⟩;gi_at_call 240;(with_reducible refine(callsIn_wide.2 (Vl.out _ (KB4.out.trans (mM.out.mono Vg)))).mono ?_);rintro e w2 ⟨rfl,hb2⟩;have gJ:=zq (aU mM.out hb2);have:=ck hb2 B1 4 (aA T1);have:=ck hb2 B2 4 (aA T2);obtain⟨fny,tmy,asy,boy,hy,hRy⟩:=HY2.out w2 (HJ.out _ _ _ HJ4.out gJ.out))
     |(refine hRy.mono ?_;rintro e w3 JW;obtain⟨by3,rfl,HRy⟩:=yb JW))
   all_goals
    gi_wp2;gi_meet;case rel=>
     rcases HRy.out with⟨hb,Ve,hK⟩|⟨hb,hx⟩
     ·exact .inl ⟨by rw[hb];rfl,Ve,(K4.out.trans (mS.call gJ.out Vg P1.out.lt P2.out.lt)).trans hK⟩
     ·exact .inr ⟨by rw[hb];rfl,k3,hk3,hx⟩
 case rest=>
 rcases hcut with⟨rfl,HJ5,K5⟩|⟨rfl,HX⟩;case inr=>
  gi_wp2;refine cI (tE rfl _ _ _) rfl ?_;exact⟨⟨_,rfl⟩,.inr HX.out⟩
 rename aF=>W5;have P1:=zq (K5.out.blk1 Q1.out);have P2:=zq (K5.out.blk2 Q2.out);clear HJ4 K4 KB4 Vg c1 c4' d1 d4 MW Vl Y2 L2 z1;have KB5:=zq K5.out.1;have hs5:B≤W5.heap.size:=bE ut KB5.out.size;obtain⟨-,c1,-,-,c4'⟩:=P1.out.front;obtain⟨-,d1,-,-,d4⟩:=P2.out.front;gi_wp2;gi_cut [55]from 7 (fun v V=>(v=aN false∧bH (J k4 V)∧bH (mS B B1 B2 W V))∨(v=aN true∧bH (∃k,k≤N∧Jx k V)));case first =>
  by_cases hv:g.vel=0
  ·have hvb:(WT.toList==[48])=true:=by rw[z2.out];exact decide_eq_true hv
   have L3:=L3.out hv;refine wpIn_wide.2 ?_;refine wp_region_held_drew (S:=(fun _=>True)) (by kernel_rfl) ?_ (fun rR=>?_)
   ·trivial
   refine tH 0 rfl ?_;refine tH 1 rfl ?_;refine tH 2 rfl ?_;refine sH 3 rfl ?_;refine sH 4 rfl ?_;refine sH 5 rfl ?_;refine sH 6 rfl ?_;refine sH 7 rfl ?_;refine sH 8 rfl ?_;refine sH 9 rfl ?_;refine sH 10 rfl ?_;refine sH 11 rfl ?_;refine tH 12 rfl ?_;try simp only[dK,bD,aY,aZ,aM,aV,bC]
   refine BQ (by kernel_rfl) ?_ _;gi_wp2;gi_meet;case rel=>exact .inl ⟨rfl,HJ.out k4 W5 _ (by rw[L3];exact HJ5.out) (aH _ W5).drew,K5.out.trans (mS.call (aH _ W5).drew hs5 P1.out.lt P2.out.lt)⟩
  ·have hvb:(WT.toList==[48])=false:=by rw[z2.out];exact decide_eq_false hv
   have IK:=zq (IK.out hv);have HS2:=zq (HS2.out hv);obtain⟨Yo,hY3⟩:=Y3.out hv;have HY3:=zq hY3;clear hv hY3;generalize bs (bJ (yH f g/g.vel))=D2 at *;generalize bs (bJ (g.t-yH f g/g.vel))=A2 at *;gi_region_with
    (first
     |(refine⟨trivial,?_⟩;gi_at_call 268;(with_reducible refine(callsIn_wide.2 (IK.out _ KB5.out.drew)).mono ?_);rintro e w1 ⟨rfl,hb1⟩;have mM:=zq (aU (aH _ W5).drew hb1);have:=ck hb1 B1 4 (aA T1);have:=ck hb1 B2 4 (aA T2))
     |(refine⟨trivial,?_⟩;gi_at_call 243;(with_reducible refine(callsIn_wide.2 (HS2.out _ (KB5.out.trans (mM.out.mono hs5)))).mono ?_);rintro e w2 ⟨rfl,hb2⟩;have gJ:=zq (aU mM.out hb2);have:=ck hb2 B1 4 (aA T1);have:=ck hb2 B2 4 (aA T2);obtain⟨fny,tmy,asy,boy,hy,hRy⟩:=HY3.out w2 (HJ.out _ _ _ HJ5.out gJ.out))
     |(refine hRy.mono ?_;rintro e w3 JW;obtain⟨by3,rfl,HRy⟩:=yb JW))
   all_goals
    gi_wp2;gi_meet;case rel=>
     rcases HRy.out with⟨hb,Ve,hK⟩|⟨hb,hx⟩
     ·exact .inl ⟨by rw[hb];rfl,Ve,(K5.out.trans (mS.call gJ.out hs5 P1.out.lt P2.out.lt)).trans hK⟩
     ·exact .inr ⟨by rw[hb];rfl,k4,Yo,hx⟩
 case rest=>
 rcases hcut with⟨rfl,HJ6,K6⟩|⟨rfl,HX⟩;case inr=>
  gi_wp2;refine cI (tE rfl _ _ _) rfl ?_;exact⟨⟨_,rfl⟩,.inr HX.out⟩
 rename aF=>W6;have P1:=zq (K6.out.blk1 Q1.out);have P2:=zq (K6.out.blk2 Q2.out);clear HJ5 K5 KB5 hs5 c1 c4' d1 d4 IK HS2 Y3 L3 z2;have KB6:=zq K6.out.1;have hs6:B≤W6.heap.size:=bE ut KB6.out.size;obtain⟨-,c1,-,-,c4'⟩:=P1.out.front;obtain⟨-,d1,-,-,d4⟩:=P2.out.front;by_cases hv:f.vel=g.vel
 ·have hvb:(VT.toList==WT.toList)=true:=by rw[z3.out];exact decide_eq_true hv
  have L4:=zq (L4.out hv);clear hv;gi_wp2;go_end0;exact⟨⟨_,rfl⟩,.inl (by rw[L4.out];exact HJ6.out)⟩
 ·have hvb:(VT.toList==WT.toList)=false:=by rw[z3.out];exact decide_eq_false hv
  have HDl:=zq (HDl.out (by grind));have HY4:=zq (Y4.out hv);clear hv Y4 L4;generalize bs (bJ (f.vel*f.t))=M1 at *;generalize bs (bJ (g.vel*g.t))=M2 at *;generalize bs (bJ (f.vel*f.t-g.vel*g.t))=SM at *;generalize bs (bJ (yH f g+(f.vel*f.t-g.vel*g.t)))=AM at *;generalize bs (bJ (f.vel-g.vel))=SV at *;generalize bs (bJ ((yH f g+(f.vel*f.t-g.vel*g.t))/(f.vel-g.vel)))=DL at *;have Tz:bH (Below W6.heap.size W6 W6.drew):=(aH _ W6).drew;gi_wp2;gi_region_with
   (first
    |(refine⟨trivial,?_⟩;gi_at_call 241;(with_reducible refine(callsIn_wide.2 (HM1.out _ KB6.out.drew)).mono ?_);rintro e w1 ⟨rfl,hb1⟩;have mM:=zq (aU Tz.out hb1);have:=ck hb1 B1 4 (aA T1);have:=ck hb1 B2 4 (aA T2))
    |(refine⟨trivial,?_⟩;gi_at_call 241;(with_reducible refine(callsIn_wide.2 (HM2.out _ (KB6.out.trans (mM.out.mono hs6)))).mono ?_);rintro e w2 ⟨rfl,hb2⟩;have gJ:=zq (aU mM.out hb2);have:=ck hb2 B1 4 (aA T1);have:=ck hb2 B2 4 (aA T2))
    |(refine⟨trivial,?_⟩;gi_at_call 243;(with_reducible refine(callsIn_wide.2 (HSm.out _ (KB6.out.trans (gJ.out.mono hs6)))).mono ?_);rintro e w3 ⟨rfl,hb3⟩;have kY:=zq (aU gJ.out hb3))
    |(refine⟨trivial,?_⟩;gi_at_call 240;(with_reducible refine(callsIn_wide.2 (HAm.out _ (KB6.out.trans (kY.out.mono hs6)))).mono ?_);rintro e w4 ⟨rfl,hb4⟩;have oI:=zq (aU kY.out hb4))
    |(refine⟨trivial,?_⟩;gi_at_call 243;(with_reducible refine(callsIn_wide.2 (HSv.out _ (KB6.out.trans (oI.out.mono hs6)))).mono ?_);rintro e w5 ⟨rfl,hb5⟩;have Ie:=zq (aU oI.out hb5))
    |(refine⟨trivial,?_⟩;gi_at_call 268;(with_reducible refine(callsIn_wide.2 (HDl.out _ (KB6.out.trans (Ie.out.mono hs6)))).mono ?_);rintro e w6 ⟨rfl,hb6⟩;have Kr:=zq (aU Ie.out hb6);obtain⟨fny,tmy,asy,boy,hy,hRy⟩:=HY4.out w6 (HJ.out _ _ _ HJ6.out Kr.out))
    |(refine hRy.mono ?_;rintro e w7 JW;obtain⟨by3,rfl,HRy⟩:=yb JW))
  all_goals
   gi_wp2;go_end0;rcases HRy.out with⟨-,Ve,-⟩|⟨-,hx⟩
   ·exact⟨⟨_,rfl⟩,.inl Ve⟩
   ·exact⟨⟨_,rfl⟩,.inr ⟨N,aG _,hx⟩⟩
end
section
attribute[local go_sem] dW
theorem uu{f g:FQ}(hf:f.Good)(hg:g.Good):∀z∈iW f g,HQ 198 z:=by
 have Mb:HQ 11 (yH f g):=(hg.hco.sub hf.hco).mono (by decide);intro z hz;unfold iW at hz;simp only[Cn,sZ,Cd,or_false]at hz;rcases hz with(((rfl|rfl)|h)|h)|h
 ·exact hf.t.mono (by decide)
 ·exact hg.t.mono (by decide)
 ·by_cases c:f.vel≠0
  ·rw[ip c,gQ]at h;subst h;exact(hf.t.add (Mb.div hf.hvel c)).mono (by decide)
  ·rw[iN c]at h;cases h
 ·by_cases c:g.vel≠0
  ·rw[ip c,gQ]at h;subst h;exact(hg.t.sub (Mb.div hg.hvel c)).mono (by decide)
  ·rw[iN c]at h;cases h
 ·by_cases c:f.vel≠g.vel
  ·rw[ip c,gQ]at h;subst h;exact((Mb.add ((hf.hvel.mul hf.t).sub (hg.hvel.mul hg.t))).div (hf.hvel.sub hg.hvel) (by grind)).mono (by decide)
  ·rw[iN c]at h;cases h
theorem OC(f g:FQ):(iW f g).length≤5:=by
 unfold iW;by_cases a:f.vel≠0<;>by_cases b:g.vel≠0<;>by_cases c:f.vel≠g.vel<;>simp[a,b,c]
def vG(f g:FQ)(k:Nat)(L:List Rat):Prop:=L.length≤k∧∀z,z∈L↔z∈(iW f g).take k∧lR f g z
theorem vG.no{f g:FQ}{k:Nat}{L:List Rat}(h:vG f g k L)(hk:k<(iW f g).length)(hn:¬lR f g ((iW f g).getD k 0)):vG f g (k+1) L:=by
 refine⟨by have:=h.1;omega,fun z=>?_⟩;rw[h.2,dU hk,Cn,gQ];rw[show(iW f g).getD k 0=(iW f g)[k] by simp[aO,hk]]at hn;constructor
 ·rintro⟨a,b⟩;exact⟨.inl a,b⟩
 ·rintro⟨a|rfl,b⟩
  ·exact⟨a,b⟩
  ·exact absurd b hn
theorem vG.yes{f g:FQ}{k:Nat}{L:List Rat}(h:vG f g k L)(hk:k<(iW f g).length)(hn:lR f g ((iW f g).getD k 0)):vG f g (k+1) (L++[(iW f g).getD k 0]):=by
 refine⟨by rw[cP];have:=h.1;simp;omega,fun z=>?_⟩;rw[dU hk,Cn,Cn,gQ,gQ,h.2];rw[show(iW f g).getD k 0=(iW f g)[k] by simp[aO,hk]]at hn⊢;constructor
 ·rintro(⟨a,b⟩|rfl)
  ·exact⟨.inl a,b⟩
  ·exact⟨.inr rfl,hn⟩
 ·rintro⟨a|rfl,b⟩
  ·exact .inl ⟨a,b⟩
  ·exact .inr rfl
theorem vG.all{f g:FQ}{L:List Rat}(h:vG f g (iW f g).length L):∀z,z∈L↔lR f g z:=fun z=>by
 rw[h.2,List.take_length]
 exact⟨fun h=>h.2,fun h=>⟨Ol h,h⟩⟩
theorem TA(F G:Array aS)(a1 a2 a3 a4 a5 b1 b2 b3 b4 b5:aS)(hF:F= #[a1,a2,a3,a4,a5])(hG:G= #[b1,b2,b3,b4,b5])(w:aF):
 aW aC 216 #[cN F,cN G] w fun e w'=>e=aQ (.func (.func 267) #[] #[bA (some ⟨w.heap.size,0,none⟩),bA (some ⟨w.heap.size+1,0,none⟩)])∧w'=(w.alloc (aJ F 44)).alloc (aJ G 44):=by
 subst hF hG;go_enter func216,ntmps216;go_wp2;go_ret;exact⟨rfl,rfl⟩
theorem cd{F:Fence}{m:Nat}{w:aF}{cR:Array Oper}{rest:List Oper}{o:Oper}{a:kZ}{Q:Exit→kZ→aF→Prop}(Is:o.guard=none)(s x:qV)
 (ho:o.op=.call {callee:=.builtin .append,args:= #[s,x],argTypes:= #[54,54]})(base:Nat)
 (v:aS)(n:Nat)(xs:List aS)(hs:a.eval s=v)(hown:w.ownsRow base 27 1 v n xs)
 (y:ByteArray)(hx:a.eval x=aB (some ⟨w.heap.size,0,none⟩) 1 1)
 (M8:n+1≤2147483648)(kJ:base≤w.heap.size)
 (h:∀g cap w',w'.ownsRow base 27 1 (aB (some ⟨g,0,none⟩) (n+1) cap) (n+1) (xs++[aA y])→base≤g→w.grownBy w' v.ownBlock→
  wpListIn F m aC cR Q rest (a.put o.dst (aB (some ⟨g,0,none⟩) (n+1) cap)) w'):
 wpListIn F m aC cR Q (o::rest) a (w.alloc (aJ #[aA y] 27)):=by
 obtain⟨i0,hi,zL,vX,oL⟩:=info_parts LJ;refine wpListIn_append_own _ Is s x 54 ho base 27 i0 (aA ⟨#[]⟩) 1 16 underlying54 hi zL vX oL rfl (by decide) v n xs hs (hown.alloc _) ⟨w.heap.size,0,none⟩ 1 1 [aA y] hx rfl (NR w [aA y] 27) (by simp[Value.oneCell'])
  (by simp only[maxLen];omega) (by omega) (by simp;omega) ?_
 intro v' w' oR hg It;obtain⟨g',M9,rfl⟩:=Dl oR;exact h g' M9 w' oR (gG oR).1 (Ea (World.grownBy_alloc w _ none) hg)
theorem jW{fn:Func}{p q:Tmp}(h:fn.results= #[.tmp p,.tmp q])(tmps:Array aS)(w:aF):(results fn tmps).run aC w=.ok (cC #[tmps.getD p undef,tmps.getD q undef]) w:=by
 simp[results,h,go_sem]
theorem cg{f g:FQ}{z:Rat}(h:lR f g z):z∈iW f g:=Ol h
theorem WN{w:aF}{base e size n cap k:Nat}{a:Option cT}{xs:List aS}(h:w.ownsRow base e size (aB a n cap) k xs):(a=none∧n=0∧cap=0)∨∃g,a=some ⟨g,0,none⟩:=by
 rcases h.2 with⟨h1,_⟩|⟨g,c,yU,hv,_⟩
 ·cases h1;exact .inl ⟨rfl,rfl,rfl⟩
 ·cases hv;exact .inr ⟨g,rfl⟩
theorem OD{w:aF}{base e size n:Nat}{v:aS}{xs:List aS}(h:w.ownsRow base e size v n xs){j:Nat}{o:Obj}(hj:v.ownBlock=some j)(ho:w.heap[j]? =some o):o.isCells=true:=by
 rcases h.2 with⟨h1,_⟩|⟨g,c,yU,hv,_,hg,_⟩
 ·rw[h1]at hj;cases hj
 ·rw[hv]at hj;simp only[Value.ownBlock,rC]at hj;subst hj;rw[hg]at ho;cases ho;rfl
theorem ins_nil(f:aS)(w:aF):aW aC 244 #[aB none 0 0,aD aE 0,aD aE 0,f] w fun e w'=>(∃v,e=aQ v)∧w=w':=by
 go_enter func244,ntmps244;go_wp2;go_loop [8] (fun i=>i=aD aE 1) (fun _=>0);case atStart=>rfl
 case round=>
  subst hrel;go_wp2;go_end0;exact⟨⟨_,rfl⟩,rfl⟩
theorem pdq_nil(c:Int)(f:aS)(w:aF):aW aC 172 #[aB none 0 0,aD aE 0,aD aE 0,aD aE c,f] w fun e w'=>(∃v,e=aQ v)∧w=w':=by
 have H:=zq (ins_nil f w);go_enter func172,ntmps172;go_wp2;go_loop [1,2] (fun a b=>a=aD aE 0∧b=aD aE 0) (fun _ _=>0);case atStart=>exact⟨rfl,rfl⟩
 case round=>
  obtain⟨rfl,rfl⟩:=hrel;go_wp2_with fail
  refine H.out.mono ?_;rintro e w'⟨⟨v,rfl⟩,rfl⟩;go_wp2;refine cI (tE rfl _ _ _) rfl ?_;exact⟨⟨_,rfl⟩,rfl⟩
theorem uv(w:aF):aW aC 96 #[aB none 0 0,.func (.func 105) #[] #[]] w fun e w'=>(∃v,e=aQ v)∧w=w':=by
 have H:=zq (fun c=>pdq_nil c (.func (.func 105) #[] #[]) w);have HL:=zq (Tr 0 (by decide) w);go_enter func96,ntmps96;go_wp2_with fail
 refine HL.out.mono ?_;rintro e w'⟨⟨c,rfl⟩,rfl⟩;go_wp2_with fail
 refine(H.out _).mono ?_;rintro e w'⟨⟨v,rfl⟩,rfl⟩;go_wp2;go_end0;exact⟨⟨_,rfl⟩,rfl⟩
theorem TC(w:aF):aW aC 97 #[aB none 0 0] w fun e w'=>e=aQ (aB none 0 0)∧w=w':=by
 go_enter func97,ntmps97;go_wp2;go_ret;exact⟨rfl,rfl⟩
def YJ(O base:Nat)(f g:FQ)(k:Nat)(W:aF):Prop:=
 base≤W.heap.size∧∃(a:Option cT)(n cap:Nat)(L:List Rat),bT W O #[aB a n cap] 54∧W.ownsRow base 27 1 (aB a n cap) n (jS (L.map bJ))∧L.length=n∧vG f g k L
theorem YJ.own{O base:Nat}{f g:FQ}{k:Nat}{A B:aF}{lM:Option Nat}(h:YJ O base f g k A)(hg:A.grownBy B lM)(hr:∀r,lM=some r→∃o:Obj,A.heap[r]? =some o∧o.isCells=false):YJ O base f g k B:=by
 obtain⟨h0,a,n,cap,L,h1,h2,h3,h4⟩:=h;exact⟨bE h0 hg.size,a,n,cap,L,h1.own hg hr,oT h2 hg hr,h3,h4⟩
theorem TD(f g:FQ)(hf:f.Good)(hg:g.Good)(hup:f.up=g.up)(w:aF)(hE:iM w):
 aW aC 140 #[f.fr.v,g.fr.v] w fun e w'=>(∃(a:Option cT)(n cap:Nat)(L:List Rat),e=aQ (cC #[aB a n cap,aD aE 0])∧L.length=n∧n≤1000∧LC w' a (jS (L.map bJ))∧(∀z,z∈L↔lR f g z)∧∀z∈L,HQ 198 z)∧Below w.heap.size w w':=by
 have HCf:=zq (fun(W:aF)(h:Below w.heap.size w W)=>qP f hf W (hE.below h))
 have HCg:=zq (fun(W:aF)(h:Below w.heap.size w W)=>qP g hg W (hE.below h))
 have HPf:=zq (fun(z:Rat)(hz:HQ 198 z)(W:aF)(h:Below w.heap.size w W)=>CK f hf z 198 hz (by decide) W (hE.below h))
 have HPg:=zq (fun(z:Rat)(hz:HQ 198 z)(W:aF)(h:Below w.heap.size w W)=>CK g hg z 198 hz (by decide) W (hE.below h))
 have HVf:=zq (fun(z:Rat)(hz:HQ 198 z)(W:aF)(h:Below w.heap.size w W)=>Ej f hf z 198 hz (by decide) W (hE.below h))
 have HVg:=zq (fun(z:Rat)(hz:HQ 198 z)(W:aF)(h:Below w.heap.size w W)=>Ej g hg z 198 hz (by decide) W (hE.below h))
 have HEn:=zq (fun(W:aF)(h:Below w.heap.size w W)=>hE.below h)
 have HHQ:=zq (uu hf hg)
 have Hf:=zq hf
 have Hg:=zq hg
 have evf:f.fr.v=cN (GG f.up f.co f.dir (bs (bJ f.v)) (bs (bJ f.t))):=rfl
 have evg:g.fr.v=cN (GG g.up g.co g.dir (bs (bJ g.v)) (bs (bJ g.t))):=rfl
 rw[evf]at HCf HPf HVf⊢
 rw[evg,←hup]at HCg HPg HVg⊢
 have fA:Below w.heap.size w ((w.alloc (aJ (GG f.up f.co f.dir (bs (bJ f.v)) (bs (bJ f.t))) 44)).alloc (aJ (GG f.up g.co g.dir (bs (bJ g.v)) (bs (bJ g.t))) 44)):=((aH _ w).alloc (aG _) _).alloc (by simp) _
 have q1:bT ((w.alloc (aJ (GG f.up f.co f.dir (bs (bJ f.v)) (bs (bJ f.t))) 44)).alloc (aJ (GG f.up g.co g.dir (bs (bJ g.v)) (bs (bJ g.t))) 44)) w.heap.size (GG f.up f.co f.dir (bs (bJ f.v)) (bs (bJ f.t))) 44:=(bT.new w _ _).alloc _
 have q2:bT ((w.alloc (aJ (GG f.up f.co f.dir (bs (bJ f.v)) (bs (bJ f.t))) 44)).alloc (aJ (GG f.up g.co g.dir (bs (bJ g.v)) (bs (bJ g.t))) 44)) (w.heap.size+1) (GG f.up g.co g.dir (bs (bJ g.v)) (bs (bJ g.t))) 44:=by
  have:=bT.new (w.alloc (aJ (GG f.up f.co f.dir (bs (bJ f.v)) (bs (bJ f.t))) 44)) (GG f.up g.co g.dir (bs (bJ g.v)) (bs (bJ g.t))) 44
  rwa[bB]at this
 have HM1:bH (∀W,bT W w.heap.size (GG f.up f.co f.dir (bs (bJ f.v)) (bs (bJ f.t))) 44→bT W w.heap.size f.fr.cells 44):=fun W h=>h
 have hgup:g.up=f.up:=hup.symm
 have HMS:bH (∀B1 B2 W,Below w.heap.size w W→B1<W.heap.size→B2<W.heap.size→bT W B1 (GG f.up f.co f.dir (bs (bJ f.v)) (bs (bJ f.t))) 44→bT W B2 (GG f.up g.co g.dir (bs (bJ g.v)) (bs (bJ g.t))) 44→
  Sk dG 8 aC 267 #[bA (some ⟨B1,0,none⟩),bA (some ⟨B2,0,none⟩)] (fun k=> #[aA (bs (bJ (Ma f g k)))]) (mS w.heap.size B1 B2) (iW f g).length W):=fun B1 B2 W h h1 h2 k1 k2=>
  ur B1 B2 w.heap.size f g hf hg W h.size h1 h2 (fun V hV=>hE.below (h.trans hV)) k1 (by rw[hup]at k2;exact k2)
 clear evf evg hf hg hE hup hgup HM1
 unfold GG at *
 generalize f.up=up at *
 generalize bs (bJ f.v)=S1 at *
 generalize bs (bJ f.t)=T1 at *
 generalize bs (bJ g.v)=S2 at *
 generalize bs (bJ g.t)=T2 at *
 refine dE func140 rfl ?_
 simp only[ntmps140,bW,bF,bY,cW,cX,bR,bS,cD,bU,cL,bZ]
 go_wp2_with fail
 refine(HCf.out _ fA).mono ?_
 rintro e W1⟨rfl,hb1⟩
 have mM:=aR fA hb1 fA.size
 have q1:=q1.below hb1 q1.lt
 have q2:=q2.below hb1 q2.lt
 clear hb1 fA
 obtain⟨d0,d1,d2,d3,d4⟩:=q2.front
 have l2:=q2.lt
 go_wp2_with fail
 refine(HCg.out _ mM).mono ?_
 rintro e W2⟨rfl,hb2⟩
 have gJ:=aR mM hb2 mM.size
 have q1:=q1.below hb2 q1.lt
 have q2:=q2.below hb2 q2.lt
 clear hb2 mM d0 d1 d2 d3 d4 l2
 obtain⟨c0,c1,c2,c3,c4⟩:=q1.front
 obtain⟨d0,d1,d2,d3,d4⟩:=q2.front
 have l1:=q1.lt
 have l2:=q2.lt
 have Q1:=zq q1
 have Q2:=zq q2
 have fR:=zq gJ
 clear q1 q2 gJ
 go_wp2_with fail
 refine(TA _ _ _ _ _ _ _ _ _ _ _ _ rfl rfl _).mono ?_
 rintro e w'⟨rfl,rfl⟩
 go_wp2_with fail
 obtain⟨W0,eQ⟩:∃W0,((W2.alloc (aJ #[aB none 0 0] 54)).alloc (aJ #[aN up,aD aE f.co,aD aE f.dir,aA S1,aA T1] 44)).alloc (aJ #[aN up,aD aE g.co,aD aE g.dir,aA S2,aA T2] 44)=W0:=⟨_,rfl⟩
 have F0:bT W0 w.heap.size #[aN up,aD aE f.co,aD aE f.dir,aA S1,aA T1] 44:=by rw[←eQ];exact((Q1.out.alloc _).alloc _).alloc _
 have G0:bT W0 (w.heap.size+1) #[aN up,aD aE g.co,aD aE g.dir,aA S2,aA T2] 44:=by rw[←eQ];exact((Q2.out.alloc _).alloc _).alloc _
 have O0:bT W0 W2.heap.size #[aB none 0 0] 54:=by rw[←eQ];exact((bT.new W2 _ _).alloc _).alloc _
 have M1:bT W0 (W2.heap.size+1) #[aN up,aD aE f.co,aD aE f.dir,aA S1,aA T1] 44:=by
  rw[←eQ]
  have:=(bT.new (W2.alloc (aJ #[aB none 0 0] 54)) #[aN up,aD aE f.co,aD aE f.dir,aA S1,aA T1] 44).alloc (aJ #[aN up,aD aE g.co,aD aE g.dir,aA S2,aA T2] 44)
  rwa[bB]at this
 have M2:bT W0 (W2.heap.size+1+1) #[aN up,aD aE g.co,aD aE g.dir,aA S2,aA T2] 44:=by
  rw[←eQ]
  have:=bT.new ((W2.alloc (aJ #[aB none 0 0] 54)).alloc (aJ #[aN up,aD aE f.co,aD aE f.dir,aA S1,aA T1] 44)) #[aN up,aD aE g.co,aD aE g.dir,aA S2,aA T2] 44
  rwa[bB,bB]at this
 have hs0:W0.heap.size=W2.heap.size+3:=by rw[←eQ];simp
 have fA:Below w.heap.size w W0:=by rw[←eQ];exact((fR.out.alloc fR.out.size _).alloc (by simp;omega) _).alloc (by simp;omega) _
 rw[eQ]
 clear eQ Q1 Q2 fR c0 c1 c2 c3 c4 d0 d1 d2 d3 d4 l1
 have hx2:w.heap.size+1<W2.heap.size:=l2
 clear l2
 generalize W2.heap.size=O at *
 have hs0':O+3≤W0.heap.size:=by omega
 clear hs0
 refine VL (gf:=267) (lb:= #[bA (some ⟨O+1,0,none⟩),bA (some ⟨O+1+1,0,none⟩)]) rfl (enters_of func267 (by kernel_rfl) rfl)
  (HMS.out (O+1) (O+1+1) W0 fA (by omega) (by omega) M1 M2)
  mS.trans (fun W l o o' hl h ho _=>⟨kR (by omega) h,fun k hk=>cH (by rcases hk with rfl|rfl<;>omega)⟩) (fun _=>rfl)
  (fun k W=>(YJ O W0.heap.size f g k W∧bT W w.heap.size #[aN up,aD aE f.co,aD aE f.dir,aA S1,aA T1] 44∧bT W (w.heap.size+1) #[aN up,aD aE g.co,aD aE g.dir,aA S2,aA T2] 44)∧Below w.heap.size w W)
  (fun _ _ _=>False)
  (cU (Own.from (fun s A B lM hs hg hr=>⟨hs.1.own hg hr,hs.2.1.own hg hr,hs.2.2.own hg hr⟩) _) (ownFrom_below (aG _) (by omega)))
  (fun c s A B lM hs _ _=>hs)
  ⟨⟨⟨aG _,none,0,0,[],O0,⟨rfl,.inl ⟨rfl,rfl⟩⟩,rfl,aG _,fun z=>by simp⟩,F0,G0⟩,fA⟩
  ?Jp ?assign ?body ?done ?stop
 case assign=>
  intro l k W K hK
  gi_wp2
  exact hK
 case body=>
  rintro l k W hk⟨⟨hI,b1,b2⟩,hB⟩
  have hz:=HHQ.out _ (eB hk 0)
  have HNo:bH (∀L,vG f g k L→¬lR f g ((iW f g).getD k 0)→vG f g (k+1) L):=fun L h hn=>h.no hk hn
  have HYes:bH (∀L,vG f g k L→lR f g ((iW f g).getD k 0)→vG f g (k+1) (L++[(iW f g).getD k 0])):=fun L h hn=>h.yes hk hn
  have hk5:k<5:=Nat.lt_of_lt_of_le hk (OC f g)
  have HNo:bH (∀L,vG f g k L→¬lR f g (Ma f g k)→vG f g (k+1) L):=HNo
  have HYes:bH (∀L,vG f g k L→lR f g (Ma f g k)→vG f g (k+1) (L++[Ma f g k])):=HYes
  have hz:HQ 198 (Ma f g k):=hz
  generalize Ma f g k=z at *
  have HP1:=zq (HPf.out z hz)
  have HP2:=zq (HPg.out z hz)
  have OB:=zq (HVf.out z hz)
  have Ry:=zq (HVg.out z hz)
  have HMt:bH (lR f g z↔f.pos z=g.pos z∧(f.low z≠g.low z∨f.high z≠g.high z)):=Iff.rfl
  have e1:=zq (YD (f.pos z) (g.pos z))
  have e2:=zq (YD (f.low z) (g.low z))
  have e3:=zq (YD (f.high z) (g.high z))
  obtain⟨ZT,hZT⟩:∃ZT,bs (bJ z)=ZT:=⟨_,rfl⟩
  rw[hZT]at HP1 HP2 OB Ry
  rw[hZT]
  have HZT:=zq hZT
  clear hZT HPf HPg HVf HVg hz HHQ hk
  generalize bs (bJ (f.pos z))=PF at *
  generalize bs (bJ (g.pos z))=PG at *
  generalize bs (bJ (f.low z))=LF at *
  generalize bs (bJ (g.low z))=LG at *
  generalize bs (bJ (f.high z))=UF at *
  generalize bs (bJ (g.high z))=UG at *
  have B1:=zq b1
  have B2:=zq b2
  have HB:=zq hB
  have HI:=zq hI
  clear b1 b2 hB hI F0 G0 O0 M1 M2
  obtain⟨c0,c1,c2,c3,c4⟩:=B1.out.front
  have l1:=B1.out.lt
  gi_wp2_with fail
  refine⟨trivial,(Calls.round (OB.out _ HB.out) _ _).mono ?_⟩
  rintro e W1⟨rfl,hb1⟩
  have eW:=zq (aU HB.out hb1)
  have Vl:=zq hb1
  have B1a:=zq (B1.out.below hb1 B1.out.lt)
  have B2a:=zq (B2.out.below hb1 B2.out.lt)
  clear c0 c1 c2 c3 c4 l1 hb1 OB
  obtain⟨c0,c1,c2,c3,c4⟩:=B2a.out.front
  have l1:=B2a.out.lt
  gi_wp2_with fail
  refine⟨trivial,(Calls.round (Ry.out _ eW.out) _ _).mono ?_⟩
  rintro e W2⟨rfl,hb2⟩
  have fR:=zq (aU eW.out hb2)
  have Qj:=zq (aU Vl.out hb2)
  have B1b:=zq (B1a.out.below hb2 B1a.out.lt)
  have B2b:=zq (B2a.out.below hb2 B2a.out.lt)
  clear c0 c1 c2 c3 c4 l1 hb2 Ry eW Vl B1a B2a
  obtain⟨c0,c1,c2,c3,c4⟩:=B1b.out.front
  obtain⟨d0,d1,d2,d3,d4⟩:=B2b.out.front
  have l1:=B1b.out.lt
  have l2:=B2b.out.lt
  gi_wp2
  gi_cut [57]from 29 (fun v V=>(∃r:Bool,v=aN r∧bH (r=true↔lR f g z))∧bH (Below W2.heap.size W2 V))
  case first =>
   by_cases g1:f.pos z=g.pos z
   case neg=>
    have hvb:(PF.toList==PG.toList)=false:=by rw[e1.out];exact decide_eq_false g1
    have R:bH (¬lR f g z):=fun h=>g1 (HMt.out.1 h).1
    clear g1
    refine xH (S:=(fun w'=>(w'.cell? ⟨w.heap.size,0,none⟩=some (aN up)∧w'.cell? ⟨w.heap.size,1,none⟩=some (aD aE f.co)∧w'.cell? ⟨w.heap.size,2,none⟩=some (aD aE f.dir)∧w'.cell? ⟨w.heap.size,3,none⟩=some (aA S1)∧w'.cell? ⟨w.heap.size,4,none⟩=some (aA T1))∧(w'.cell? ⟨w.heap.size+1,0,none⟩=some (aN up)∧w'.cell? ⟨w.heap.size+1,1,none⟩=some (aD aE g.co)∧w'.cell? ⟨w.heap.size+1,2,none⟩=some (aD aE g.dir)∧w'.cell? ⟨w.heap.size+1,3,none⟩=some (aA S2)∧w'.cell? ⟨w.heap.size+1,4,none⟩=some (aA T2)))) (by kernel_rfl) (by kernel_rfl) ?_ (fun rR=>?_)
    ·(try dsimp only);go_keep
    refine tH 0 rfl ?_
    refine tH 1 rfl ?_
    refine tH 3 rfl ?_
    refine tH 4 rfl ?_
    try simp only[dK,bD,aY,aZ,aM,aV,bC]
    refine pU (rs:=[2]) (by kernel_rfl) (by simp) ?_
    refine iX rfl (fun K hK=>?_) jR
    go_simp
    (with_reducible refine(HP1.out _ fR.out.drew).mono ?_)
    rintro e v1⟨rfl,yE⟩
    have OB:=zq (aU (aH _ W2).drew yE)
    have:=ck yE w.heap.size 0 (aN up);have:=ck yE w.heap.size 1 (aD aE f.co);have:=ck yE w.heap.size 2 (aD aE f.dir);have:=ck yE w.heap.size 3 (aA S1);have:=ck yE w.heap.size 4 (aA T1);have:=ck yE (w.heap.size+1) 0 (aN up);have:=ck yE (w.heap.size+1) 1 (aD aE g.co);have:=ck yE (w.heap.size+1) 2 (aD aE g.dir);have:=ck yE (w.heap.size+1) 3 (aA S2);have:=ck yE (w.heap.size+1) 4 (aA T2)
    show K _ _
    refine hK.out _ _ ?_ (fun rR=>?_)
    ·(try dsimp only);go_keep
    clear hK K
    try simp only[dK,bD,aY,aZ,aM,aV,bC]
    refine pU (rs:=[5]) (by kernel_rfl) (by simp) ?_
    refine iX rfl (fun K hK=>?_) jR
    go_simp
    (with_reducible refine(HP2.out _ (aU fR.out OB.out)).mono ?_)
    rintro e v2⟨rfl,CU⟩
    have Ry:=zq (aU OB.out CU)
    have:=ck CU w.heap.size 0 (aN up);have:=ck CU w.heap.size 1 (aD aE f.co);have:=ck CU w.heap.size 2 (aD aE f.dir);have:=ck CU w.heap.size 3 (aA S1);have:=ck CU w.heap.size 4 (aA T1);have:=ck CU (w.heap.size+1) 0 (aN up);have:=ck CU (w.heap.size+1) 1 (aD aE g.co);have:=ck CU (w.heap.size+1) 2 (aD aE g.dir);have:=ck CU (w.heap.size+1) 3 (aA S2);have:=ck CU (w.heap.size+1) 4 (aA T2)
    show K _ _
    refine hK.out _ _ ?_ (fun rR=>?_)
    ·(try dsimp only);go_keep
    clear hK K
    refine tH 6 rfl ?_
    refine tH 7 rfl ?_
    refine sH 8 rfl ?_
    refine sH 9 rfl ?_
    refine sH 10 rfl ?_
    refine sH 11 rfl ?_
    refine sH 12 rfl ?_
    refine sH 13 rfl ?_
    refine sH 14 rfl ?_
    refine sH 15 rfl ?_
    refine tH 16 rfl ?_
    try simp only[dK,bD,aY,aZ,aM,aV,bC]
    refine BQ (by kernel_rfl) ?_ _
    refine mR.normal ?_
    gi_wp2
    gi_meet
    case rel=>exact⟨⟨false,rfl,⟨fun h=>(by cases h),fun h=>absurd h R.out⟩⟩,Ry.out⟩
   have hvb:(PF.toList==PG.toList)=true:=by rw[e1.out];exact decide_eq_true g1
   by_cases g2:f.low z=g.low z
   case neg=>
    have hvb2:(LF.toList==LG.toList)=false:=by rw[e2.out];exact decide_eq_false g2
    have R:bH (lR f g z):=HMt.out.2 ⟨g1,.inl g2⟩
    clear g1 g2
    refine xH (S:=(fun w'=>(w'.cell? ⟨w.heap.size,0,none⟩=some (aN up)∧w'.cell? ⟨w.heap.size,1,none⟩=some (aD aE f.co)∧w'.cell? ⟨w.heap.size,2,none⟩=some (aD aE f.dir)∧w'.cell? ⟨w.heap.size,3,none⟩=some (aA S1)∧w'.cell? ⟨w.heap.size,4,none⟩=some (aA T1))∧(w'.cell? ⟨w.heap.size+1,0,none⟩=some (aN up)∧w'.cell? ⟨w.heap.size+1,1,none⟩=some (aD aE g.co)∧w'.cell? ⟨w.heap.size+1,2,none⟩=some (aD aE g.dir)∧w'.cell? ⟨w.heap.size+1,3,none⟩=some (aA S2)∧w'.cell? ⟨w.heap.size+1,4,none⟩=some (aA T2)))) (by kernel_rfl) (by kernel_rfl) ?_ (fun rR=>?_)
    ·(try dsimp only);go_keep
    refine tH 0 rfl ?_
    refine tH 1 rfl ?_
    refine tH 3 rfl ?_
    refine tH 4 rfl ?_
    try simp only[dK,bD,aY,aZ,aM,aV,bC]
    refine pU (rs:=[2]) (by kernel_rfl) (by simp) ?_
    refine iX rfl (fun K hK=>?_) jR
    go_simp
    (with_reducible refine(HP1.out _ fR.out.drew).mono ?_)
    rintro e v1⟨rfl,yE⟩
    have OB:=zq (aU (aH _ W2).drew yE)
    have:=ck yE w.heap.size 0 (aN up);have:=ck yE w.heap.size 1 (aD aE f.co);have:=ck yE w.heap.size 2 (aD aE f.dir);have:=ck yE w.heap.size 3 (aA S1);have:=ck yE w.heap.size 4 (aA T1);have:=ck yE (w.heap.size+1) 0 (aN up);have:=ck yE (w.heap.size+1) 1 (aD aE g.co);have:=ck yE (w.heap.size+1) 2 (aD aE g.dir);have:=ck yE (w.heap.size+1) 3 (aA S2);have:=ck yE (w.heap.size+1) 4 (aA T2)
    show K _ _
    refine hK.out _ _ ?_ (fun rR=>?_)
    ·(try dsimp only);go_keep
    clear hK K
    try simp only[dK,bD,aY,aZ,aM,aV,bC]
    refine pU (rs:=[5]) (by kernel_rfl) (by simp) ?_
    refine iX rfl (fun K hK=>?_) jR
    go_simp
    (with_reducible refine(HP2.out _ (aU fR.out OB.out)).mono ?_)
    rintro e v2⟨rfl,CU⟩
    have Ry:=zq (aU OB.out CU)
    have:=ck CU w.heap.size 0 (aN up);have:=ck CU w.heap.size 1 (aD aE f.co);have:=ck CU w.heap.size 2 (aD aE f.dir);have:=ck CU w.heap.size 3 (aA S1);have:=ck CU w.heap.size 4 (aA T1);have:=ck CU (w.heap.size+1) 0 (aN up);have:=ck CU (w.heap.size+1) 1 (aD aE g.co);have:=ck CU (w.heap.size+1) 2 (aD aE g.dir);have:=ck CU (w.heap.size+1) 3 (aA S2);have:=ck CU (w.heap.size+1) 4 (aA T2)
    show K _ _
    refine hK.out _ _ ?_ (fun rR=>?_)
    ·(try dsimp only);go_keep
    clear hK K
    refine tH 6 rfl ?_
    refine tH 7 rfl ?_
    refine tH 8 rfl ?_
    refine tH 9 rfl ?_
    refine tH 10 rfl ?_
    refine tH 11 rfl ?_
    refine sH 12 rfl ?_
    refine sH 13 rfl ?_
    refine sH 14 rfl ?_
    refine tH 15 rfl ?_
    refine tH 16 rfl ?_
    try simp only[dK,bD,aY,aZ,aM,aV,bC]
    refine BQ (by kernel_rfl) ?_ _
    refine mR.normal ?_
    gi_wp2
    gi_meet
    case rel=>exact⟨⟨true,rfl,⟨fun _=>R.out,fun _=>rfl⟩⟩,Ry.out⟩
   have hvb2:(LF.toList==LG.toList)=true:=by rw[e2.out];exact decide_eq_true g2
   have R:bH ((!decide (f.high z=g.high z))=true↔lR f g z):=by
    show _↔_
    rw[HMt.out,Bool.not_eq_true',decide_eq_false_iff_not]
    exact⟨fun h=>⟨g1,.inr h⟩,fun h=>h.2.resolve_left (fun k=>k g2)⟩
   have hvb3:=e3.out
   obtain⟨r3,hr3⟩:∃r,decide (f.high z=g.high z)=r:=⟨_,rfl⟩
   rw[hr3]at R hvb3
   clear g1 g2 hr3
   refine xH (S:=(fun w'=>(w'.cell? ⟨w.heap.size,0,none⟩=some (aN up)∧w'.cell? ⟨w.heap.size,1,none⟩=some (aD aE f.co)∧w'.cell? ⟨w.heap.size,2,none⟩=some (aD aE f.dir)∧w'.cell? ⟨w.heap.size,3,none⟩=some (aA S1)∧w'.cell? ⟨w.heap.size,4,none⟩=some (aA T1))∧(w'.cell? ⟨w.heap.size+1,0,none⟩=some (aN up)∧w'.cell? ⟨w.heap.size+1,1,none⟩=some (aD aE g.co)∧w'.cell? ⟨w.heap.size+1,2,none⟩=some (aD aE g.dir)∧w'.cell? ⟨w.heap.size+1,3,none⟩=some (aA S2)∧w'.cell? ⟨w.heap.size+1,4,none⟩=some (aA T2)))) (by kernel_rfl) (by kernel_rfl) ?_ (fun rR=>?_)
   ·(try dsimp only);go_keep
   refine tH 0 rfl ?_
   refine tH 1 rfl ?_
   refine tH 3 rfl ?_
   refine tH 4 rfl ?_
   try simp only[dK,bD,aY,aZ,aM,aV,bC]
   refine pU (rs:=[2]) (by kernel_rfl) (by simp) ?_
   refine iX rfl (fun K hK=>?_) jR
   go_simp
   (with_reducible refine(HP1.out _ fR.out.drew).mono ?_)
   rintro e v1⟨rfl,yE⟩
   have OB:=zq (aU (aH _ W2).drew yE)
   have:=ck yE w.heap.size 0 (aN up);have:=ck yE w.heap.size 1 (aD aE f.co);have:=ck yE w.heap.size 2 (aD aE f.dir);have:=ck yE w.heap.size 3 (aA S1);have:=ck yE w.heap.size 4 (aA T1);have:=ck yE (w.heap.size+1) 0 (aN up);have:=ck yE (w.heap.size+1) 1 (aD aE g.co);have:=ck yE (w.heap.size+1) 2 (aD aE g.dir);have:=ck yE (w.heap.size+1) 3 (aA S2);have:=ck yE (w.heap.size+1) 4 (aA T2)
   show K _ _
   refine hK.out _ _ ?_ (fun rR=>?_)
   ·(try dsimp only);go_keep
   clear hK K
   try simp only[dK,bD,aY,aZ,aM,aV,bC]
   refine pU (rs:=[5]) (by kernel_rfl) (by simp) ?_
   refine iX rfl (fun K hK=>?_) jR
   go_simp
   (with_reducible refine(HP2.out _ (aU fR.out OB.out)).mono ?_)
   rintro e v2⟨rfl,CU⟩
   have Ry:=zq (aU OB.out CU)
   have:=ck CU w.heap.size 0 (aN up);have:=ck CU w.heap.size 1 (aD aE f.co);have:=ck CU w.heap.size 2 (aD aE f.dir);have:=ck CU w.heap.size 3 (aA S1);have:=ck CU w.heap.size 4 (aA T1);have:=ck CU (w.heap.size+1) 0 (aN up);have:=ck CU (w.heap.size+1) 1 (aD aE g.co);have:=ck CU (w.heap.size+1) 2 (aD aE g.dir);have:=ck CU (w.heap.size+1) 3 (aA S2);have:=ck CU (w.heap.size+1) 4 (aA T2)
   show K _ _
   refine hK.out _ _ ?_ (fun rR=>?_)
   ·(try dsimp only);go_keep
   clear hK K
   refine tH 6 rfl ?_
   refine tH 7 rfl ?_
   refine tH 8 rfl ?_
   refine tH 9 rfl ?_
   refine tH 10 rfl ?_
   refine tH 11 rfl ?_
   refine tH 12 rfl ?_
   refine tH 13 rfl ?_
   refine tH 14 rfl ?_
   refine tH 15 rfl ?_
   refine tH 16 rfl ?_
   try simp only[dK,bD,aY,aZ,aM,aV,bC]
   refine BQ (by kernel_rfl) ?_ _
   refine mR.normal ?_
   gi_wp2
   gi_meet
   case rel=>exact⟨⟨_,by rfl,R.out⟩,Ry.out⟩
  case rest=>
  obtain⟨⟨r,rfl,HR⟩,HB3⟩:=hcut
  rename aF=>W3
  have Bv:=zq (aU fR.out HB3.out)
  have HAx:=zq (aU Qj.out HB3.out)
  have B1c:=zq (B1b.out.below HB3.out B1b.out.lt)
  have B2c:=zq (B2b.out.below HB3.out B2b.out.lt)
  clear c0 c1 c2 c3 c4 d0 d1 d2 d3 d4 l1 l2 e1 e2 e3 HMt HP1 HP2 fR Qj HB3 B1b B2b
  obtain⟨DM,a,n,cap,L,i1,i2,i3,i4⟩:=HI.out
  have hszW:O+3≤W.heap.size:=by omega
  have hszX:W0.heap.size≤W3.heap.size:=bE DM HAx.out.size
  have O3:=zq (i1.below HAx.out i1.lt)
  have R3:=zq (dI i2 HAx.out)
  have hn5:n≤5:=by rw[←i3];exact bE i4.1 (by omega)
  have HL:=zq i3
  cases r with
  |false=>
   have hF:=zq (HNo.out L i4 (fun h=>(by have:=HR.out.2 h;cases this)))
   clear i1 i2 i3 i4
   gi_wp2
   exact⟨(iC HAx.out).from _,mS.call HAx.out HB.out.size (by omega) (by omega),⟨⟨hszX,a,n,cap,L,O3.out,R3.out,HL.out,hF.out⟩,B1c.out,B2c.out⟩,Bv.out⟩
  |true=>
   have hF:=zq (HYes.out L i4 (HR.out.1 rfl))
   have hown:=i2
   clear i1 i2 i3 i4
   have hown:=R3.out
   have k0:W3.cell? ⟨O,0,none⟩=some (aB a n cap):=O3.out.cell 0
   have f0:=O3.out.fz 0
   have lO:=O3.out.lt
   have hb0:w.heap.size+1<W0.heap.size:=by omega
   have hbO:O+1+1<W0.heap.size:=by omega
   have Cw:∀j,j<W0.heap.size→(aB a n cap).ownBlock≠some j:=fun j hj e=>by have:=(hown.lt j e).1;omega
   have hrowO:=zq (Cw O (by omega))
   gi_wp2_with (gi_at_builtin;refine cd rfl _ _ rfl W0.heap.size (aB a n cap) n _ rfl hown ZT rfl (by omega) hszX ?_;intro g5 WO w5 rS uw CV;have O5:=zq (show bT w5 O #[aB a n cap] 54 from(CV.block O lO (fun e=>hrowO.out e.symm)).trans O3.out);have k5:w5.cell? ⟨O,0,none⟩=some (aB a n cap):=O5.out.cell 0;have f5:=O5.out.fz 0)
   have F5:=zq (show bT w5 w.heap.size #[aN up,aD aE f.co,aD aE f.dir,aA S1,aA T1] 44 from(CV.block _ B1c.out.lt (fun e=>Cw _ (by omega) e.symm)).trans B1c.out)
   have G5:=zq (show bT w5 (w.heap.size+1) #[aN up,aD aE g.co,aD aE g.dir,aA S2,aA T2] 44 from(CV.block _ B2c.out.lt (fun e=>Cw _ (by omega) e.symm)).trans B2c.out)
   have BW5:=zq (eP Bv.out CV hown (by omega) Bv.out.size)
   have BA5:=zq (eP (HAx.out.mono HB.out.size) CV hown (by omega) Bv.out.size)
   have KO5:=zq ((iC HAx.out).trans (KeepsOthers.of_grownBy CV (fun j o hj ho=>OD hown hj ho)))
   have SA5:=zq (show cY (fun k=>k=O+1∨k=O+1+1) W w5 from cY.trans (cY.below HAx.out (by rintro k (rfl|rfl)<;>omega)) (fun k hk=>CV.block k (by rcases hk with rfl|rfl<;>omega) (fun e=>Cw k (by rcases hk with rfl|rfl<;>omega) e.symm)))
   have S5:=zq CV.size
   have hg5':O≠g5:=by omega
   have e5:jS (L.map bJ)++[aA ZT]=jS ((L++[z]).map bJ):=by rw[←HZT.out];simp[jS]
   rw[e5]at rS
   have Hown5:=zq rS
   exact⟨(KO5.out.trans (cG _ _ _)).from _,⟨BA5.out.setCell (by show w.heap.size≤O;omega) _,SA5.out.trans (cY.setCell (by rintro k (rfl|rfl)<;>(show _≠O;omega)) _)⟩,
    ⟨⟨bE hszX (bE S5.out (by simp)),_,n+1,WO,L++[z],O5.out.set 0 _,Hown5.out.kept (grownBy_setCell' _ _ _) (.inr (show some g5≠some O from fun e=>hg5' (dQ e).symm)),by rw[cP,HL.out];rfl,hF.out⟩,
     F5.out.other _ (by show w.heap.size≠O;omega),G5.out.other _ (by show w.heap.size+1≠O;omega)⟩,BW5.out.setCell (by show w.heap.size≤O;omega) _⟩
 case done=>
  rintro D W hD⟨⟨hI,b1,b2⟩,hB⟩hK
  obtain⟨DM,a,n,cap,L,i1,i2,i3,i4⟩:=hI
  have hn5:n≤5:=by rw[←i3];exact bE i4.1 (OC f g)
  have Fc:=zq i4.all
  have HHq:=zq (fun z(h:z∈L)=>HHQ.out z (cg (Fc.out z|>.1 h)))
  have O1:=zq i1
  have R1:=zq i2
  have HL:=zq i3
  have HB:=zq hB
  have HK:=zq hK
  have k0:W.cell? ⟨O,0,none⟩=some (aB a n cap):=O1.out.cell 0
  have hO:=O1.out.lt
  have kJ:w.heap.size≤W0.heap.size:=fA.size
  have Cw:∀j,j<W0.heap.size→(aB a n cap).ownBlock≠some j:=fun j hj e=>by have:=(i2.lt j e).1;omega
  clear i1 i2 i3 i4 hB hK b1 b2 F0 G0 O0 M1 M2 HPf HPg HVf HVg
  rcases WN R1.out with⟨rfl,rfl,rfl⟩|⟨gq,rfl⟩
  ·have HS:=zq (uv W)
   have HC:=zq (TC W)
   go_wp2_with fail
   refine HS.out.mono ?_
   rintro e w'⟨⟨v,rfl⟩,rfl⟩
   go_wp2_with fail
   refine HC.out.mono ?_
   rintro e w'⟨rfl,rfl⟩
   go_wp2
   have hL0:L=[]:=List.length_eq_zero_iff.1 HL.out
   refine⟨by simp,.inl ⟨_,_,rfl,fH HK.out,?_⟩⟩
   refine⟨_,jW Tryz.results140 _ _,?_⟩
   exact⟨⟨none,0,0,[],rfl,rfl,by decide,fun i hi=>absurd hi (by simp[jS]),fun z=>by rw[←Fc.out z,hL0],fun z h=>absurd h (by simp)⟩,HB.out.trans (kR (bE kJ hD) HK.out)⟩
  ·have hgq:W0.heap.size≤gq:=by
    rcases fK gq W0.heap.size with h|h
    ·exact absurd rfl (Cw gq h)
    ·exact h
   have hDg:D≠gq:=fun e=>by
    have:=OD R1.out (j:=gq) rfl (by rw[←e];exact HK.out)
    cases this
   have HS:=zq (bi W0.heap.size gq n cap (L.map bJ) w W (HEn.out w (aH _ _)) HB.out kJ hn5 (by rw[cO];exact HL.out) (fun t ht=>by
    obtain⟨z,hz,rfl⟩:=List.mem_map.1 ht
    have:=tT (HHq.out z hz) (by decide)
    rwa[cZ]at this) R1.out)
   have hOg:O≠gq:=by omega
   clear Cw R1
   go_wp2_with fail
   refine HS.out.mono ?_
   rintro e W1⟨⟨v,rfl⟩,ds',k1,k2,k3,k4⟩
   have eW:=zq (HB.out.grown k4 HB.out.size (fun k e=>by cases e;exact bE kJ hgq))
   have HK1:=zq ((k4.block D (Array.getElem?_eq_some_iff.1 HK.out).1 (fun e=>hDg (by cases e;rfl))).trans HK.out)
   have O2:bT W1 O #[aB (some ⟨gq,0,none⟩) n cap] 54:=(k4.block O hO (fun e=>hOg (by cases e;rfl))).trans O1.out
   have k0:W1.cell? ⟨O,0,none⟩=some (aB (some ⟨gq,0,none⟩) n cap):=O2.cell 0
   have HC:=zq (Qe W0.heap.size gq n cap ds' W1 (by omega) k1 k3)
   have K2:=zq k2
   clear k1 k2 k3 k4 O1 O2 hO HS HK HB
   go_wp2_with fail
   refine HC.out.mono ?_
   rintro e W2⟨m,L2,rfl,j1,j2,j3,j4,j5⟩
   have fR:=zq (eW.out.grown j5 eW.out.size (fun k e=>by cases e;exact bE kJ hgq))
   have br:=zq ((j5.block D (Array.getElem?_eq_some_iff.1 HK1.out).1 (fun e=>hDg (by cases e;rfl))).trans HK1.out)
   have J1:=zq j1
   have J3:=zq j3
   have J4:=zq j4
   clear j1 j3 j4 j5 HC HK1 eW k0
   go_wp2
   have ht:∀t∈L2,∃z∈L,t=bJ z:=fun t ht=>by
    obtain⟨z,hz,e⟩:=List.mem_map.1 ((K2.out t).1 ((J3.out t).1 ht))
    exact⟨z,hz,e.symm⟩
   have hmap:(L2.map dD).map bJ=L2:=by
    rw[List.map_map]
    conv=>rhs;rw[←List.map_id L2]
    refine List.map_congr_left (fun t h=>?_)
    obtain⟨z,-,rfl⟩:=ht t h
    show bJ (dD (bJ z))=_
    rw[jZ];rfl
   have hmm:∀z,z∈L2.map dD↔z∈L:=fun z=>by
    constructor
    ·intro h
     obtain⟨t,h1,rfl⟩:=List.mem_map.1 h
     obtain⟨y,hy,rfl⟩:=ht t h1
     rw[jZ];exact hy
    ·intro h
     refine List.mem_map.2 ⟨bJ z,(J3.out _).2 ((K2.out _).2 (List.mem_map.2 ⟨z,h,rfl⟩)),jZ z⟩
   have hDW:D<W2.heap.size:=(Array.getElem?_eq_some_iff.1 br.out).1
   refine⟨by simp,.inl ⟨_,_,rfl,fH br.out,?_⟩⟩
   refine⟨_,jW Tryz.results140 _ _,?_⟩
   refine⟨⟨some ⟨gq,0,none⟩,m,cap,L2.map dD,rfl,by rw[cO];exact J1.out,by omega,?_,fun z=>(hmm z).trans (Fc.out z),fun z h=>HHq.out z ((hmm z).1 h)⟩,fR.out.trans (kR (bE kJ hD) br.out)⟩
   rw[hmap]
   intro i hi
   obtain⟨b,off,e1,e2⟩:=J4.out i hi
   cases e1
   refine⟨gq,0,rfl,?_⟩
   rw[iI (show(W2.putObj D _).heap[gq]? =W2.heap[gq]? from cH (fun e=>hDg e.symm))]
   exact e2
 case stop=>
  rintro D c k W hD hk hF
  exact hF.elim
end
end
section
open Go Go.RowKit
section
def SeqH{β:Type}(F:Fence)(n:Nat)(P:Program)(gf:Nat)(lb:Array aS)(enc:β→Array aS)(Ok:List β→β→Prop)(Fin:List β→Prop)(Kp:aF→aF→Prop)(w:aF):Prop:=
 ∀(l:Nat)(J Jx:List β→aF→Prop)(W:aF),Below w.heap.size w W→(∀k V V',J k V→Below V.heap.size V V'→J k V')→
  (∀k x V,Ok k x→J k V→UH F (n-1) P l (enc x) V fun e V'=>(e=aQ (aN true)∧J (k++[x]) V'∧Kp V V')∨(e=aQ (aN false)∧Jx (k++[x]) V'))→
  J [] W→CallsIn F n P gf (#[.func (.yield l) #[] #[]]++lb) W fun e W'=>(∃v,e=aQ v)∧((∃k,Fin k∧J k W')∨∃k,Jx k W')
def Mc{β:Type}(B:Nat)(Kp:aF→aF→Prop)(I:List β→aF→Prop)(Ix:vK→List β→aF→Prop)(k:List β)(W:aF):Exit→kZ→aF→Prop
 |.normal,_,V=>gP B W V∧Kp W V∧I k V
 |.ret,_,V=>gP B W V∧Ix .ret k V
 |.exit id,_,V=>gP B W V∧Ix (.exit id) k V
 |.goto t,_,V=>gP B W V∧Ix (.goto t) k V
 |.panic _,_,_=>False
 |.outgrown,_,_=>False
variable{F:Fence}{n:Nat}{P:Program}
theorem Qk{g:qV}{ps:Array Tmp}{assign body:vK}{Q:Exit→kZ→aF→Prop}{a:kZ}{w:aF}
 (Ia:F.round=none)(h1:1≤n){gf:Nat}{lb:Array aS}(hg:a.eval g=.func (.func gf) #[] lb)(hFg:F.fn gf)(eg:∀args w,(callFunc gf args).run P w=.ok (.enter gf args) w)
 {β:Type}{enc:β→Array aS}{Ok:List β→β→Prop}{Fin:List β→Prop}{Kp:aF→aF→Prop}{w0:aF}(Bk:SeqH F (n-1) P gf lb enc Ok Fin Kp w0)(hb0:Below w0.heap.size w0 w)
 (JP:∀{A B C:aF},Kp A B→Kp B C→Kp A C)(Kn:∀(W:aF)(l:Nat)(o o':Obj),w.heap.size≤l→W.heap[l]? =some o→o.isCells=false→o.isWalk=false→Kp W (W.putObj l o'))(wG:∀x,(enc x).size=ps.size)
 (I:List β→aF→Prop)(Ix:vK→List β→aF→Prop)(hI:rK w.heap.size I)(Cf:∀c,rK w.heap.size (Ix c))(h0:I [] w)(tZ:β→kZ)
 (jM:∀(l:Nat)(x:β)(W:aF)(K:kZ→aF→Prop),K (tZ x) W→
  assign.wpIn (F.inRound l) (n-1-1) P (Exit.then K (fun _ _ _=>False)) {tmps:=(ps.zip (enc x)).foldl (fun t(p,v)=>t.setIfInBounds p v) a.tmps,defers:=[]} W)
 (qH:∀(l:Nat)(k:List β)(x:β)(W:aF),Ok k x→I k W→body.wpIn (F.inRound l) (n-1-1) P (Mc w.heap.size Kp I Ix (k++[x]) W) (tZ x) W)
 (oS:∀(D:Nat)(W:aF),w.heap.size≤D→(∃k,Fin k∧I k W)→W.heap[D]? =some (.deferred (some []))→Q .normal {a with defers:={target:=.collected D,args:= #[]}::a.defers} W)
 (qI:∀(D:Nat)(c:vK)(k:List β)(W:aF),w.heap.size≤D→Ix c k W→W.heap[D]? =some (.deferred (some []))→c.wpIn F n P Q {a with defers:={target:=.collected D,args:= #[]}::a.defers} W):
 (qX g ps assign body).wpIn F n P Q a w:=by
 refine wpIn_rangeFunc ?_
 intro fn Zt
 rw[Ia]
 have hD:=kE w (.deferred (some []))
 obtain⟨V,hV⟩:∃V,(w.alloc (.deferred (some []))).alloc (.loop (eA fn a ps assign body w.heap.size .ready none))=V:=⟨_,rfl⟩
 have kD:V.heap[w.heap.size]? =some (.deferred (some [])):=by rw[←hV];exact(Below.heap_alloc _ _ _ (by simp)).trans hD
 have kL:V.heap[w.heap.size+1]? =some (.loop (eA fn a ps assign body w.heap.size .ready none)):=by
  rw[←hV]
  have:=kE (w.alloc (.deferred (some []))) (.loop (eA fn a ps assign body w.heap.size .ready none))
  rwa[bB]at this
 have kI:I [] V:=by rw[←hV];exact hI.alloc _ (hI.alloc _ h0)
 have kB:Below w0.heap.size w0 V:=by
  rw[←hV];exact hb0.trans ((((aH _ w).alloc (aG _) _).alloc (by simp) _).mono hb0.size)
 refine⟨w.heap.size+1,[{target:=.collected w.heap.size,args:= #[]}],V,{target:=.fn (.func gf) lb,args:= #[.func (.yield (w.heap.size+1)) #[] #[]]},V,gf,
  #[.func (.yield (w.heap.size+1)) #[] #[]]++lb,V,?_,?_,?_,?_,fun _=>h1,?_⟩
 ·rw[←hV];exact run_enterLoop_outer _ _ _ _ _
 ·simp only[resolve,hg]
  simp[go_sem]
 ·intro f hf
  simp[Target.leads]at hf
  subst hf;exact hFg
 ·simp[invoke,go_sem,eg]
 ·have uA:=Bk (w.heap.size+1)
   (fun k W=>I k W∧W.heap[w.heap.size+1]? =some (.loop (eA fn a ps assign body w.heap.size .ready none))∧W.heap[w.heap.size]? =some (.deferred (some [])))
   (fun k W=>∃c,Ix c k W∧W.heap[w.heap.size+1]? =some (.loop (eA fn a ps assign body w.heap.size .done (some c)))∧W.heap[w.heap.size]? =some (.deferred (some [])))
   V kB (fun k A B⟨h1,h2,h3⟩hb=>⟨hI k A B none h1 (sK hb) (fun r e=>by cases e),(hb.block _ (Array.getElem?_eq_some_iff.1 h2).1).trans h2,(hb.block _ (Array.getElem?_eq_some_iff.1 h3).1).trans h3⟩) ?round ⟨kI,kL,kD⟩
  case round=>
   rintro k x W hk⟨hi,hl,hd⟩
   have hlt:w.heap.size+1<W.heap.size:=(Array.getElem?_eq_some_iff.1 hl).1
   have hy:=run_yield (P:=P) (args:=enc x) hl (by exact wG x)
   refine⟨fn,_,assign,body,hy,roundIn_of_wpIn Zt (jM _ x W _ ⟨_,run_beginRound hl rfl,?_⟩)⟩
   obtain⟨U,hU⟩:∃U,W.putObj (w.heap.size+1) (.loop (eA fn a ps assign body w.heap.size .busy none))=U:=⟨_,rfl⟩
   have uL:U.heap[w.heap.size+1]? =some (.loop (eA fn a ps assign body w.heap.size .busy none)):=by rw[←hU];exact iZ hlt
   have uD:U.heap[w.heap.size]? =some (.deferred (some [])):=by rw[←hU];exact(cH (by omega)).trans hd
   have uK:Kp W U:=by rw[←hU];exact Kn _ _ _ _ (by omega) hl rfl rfl
   have uI:I k U:=by rw[←hU];exact hI.putObj _ hi (by omega) hl rfl
   have FU:∀(j:Option vK)(X:aF),gP w.heap.size U X→
    X.heap[w.heap.size+1]? =some (.loop (eA fn a ps assign body w.heap.size .busy none))∧
    (Instr.endRound (w.heap.size+1) j).run P X=.ok (aN j.isNone) (X.putObj (w.heap.size+1) (.loop (eA fn a ps assign body w.heap.size (if j.isNone then .ready else .done) j)))∧
    (X.putObj (w.heap.size+1) (.loop (eA fn a ps assign body w.heap.size (if j.isNone then .ready else .done) j))).heap[w.heap.size+1]? =some (.loop (eA fn a ps assign body w.heap.size (if j.isNone then .ready else .done) j))∧
    (X.putObj (w.heap.size+1) (.loop (eA fn a ps assign body w.heap.size (if j.isNone then .ready else .done) j))).heap[w.heap.size]? =some (.deferred (some [])):=by
    intro j X hX
    have xL:=hX.same _ _ (by omega) uL rfl
    exact⟨xL,run_endRound (P:=P) j xL,iZ (Array.getElem?_eq_some_iff.1 xL).1,(cH (by omega)).trans (hX.same _ _ (aG _) uD rfl)⟩
   show Code.wpIn _ _ _ _ _ _ (W.putObj (w.heap.size+1) (.loop (eA fn a ps assign body w.heap.size .busy none)))
   rw[hU]
   refine wpIn_mono (qH _ k x U hk uI) ?_
   intro e a3 X hp
   have Bl:∀c:vK,gP w.heap.size U X∧Ix c (k++[x]) X→_:=fun c hc=>(FU (some c) X hc.1)
   cases e with
   |normal=>
    obtain⟨xL,xr,yL,yD⟩:=FU none X hp.1
    exact⟨_,_,xr,.inl ⟨rfl,⟨hI.putObj _ hp.2.2 (by omega) xL rfl,yL,yD⟩,JP (JP uK hp.2.1) (Kn _ _ _ _ (by omega) xL rfl rfl)⟩⟩
   |ret=>
    obtain⟨xL,xr,yL,yD⟩:=Bl .ret hp
    exact⟨_,_,xr,.inr ⟨rfl,.ret,(Cf _).putObj _ hp.2 (by omega) xL rfl,yL,yD⟩⟩
   |exit id=>
    obtain⟨xL,xr,yL,yD⟩:=Bl (.exit id) hp
    exact⟨_,_,xr,.inr ⟨rfl,.exit id,(Cf _).putObj _ hp.2 (by omega) xL rfl,yL,yD⟩⟩
   |goto t=>
    obtain⟨xL,xr,yL,yD⟩:=Bl (.goto t) hp
    exact⟨_,_,xr,.inr ⟨rfl,.goto t,(Cf _).putObj _ hp.2 (by omega) xL rfl,yL,yD⟩⟩
   |panic ch=>exact hp.elim
   |outgrown=>exact hp.elim
  refine uA.mono ?_
  rintro e W2⟨⟨v,rfl⟩,(⟨k,hf,hi,hl,hd⟩|⟨k,c,hi,hl,hd⟩)⟩
  ·exact⟨none,_,Ki (P:=P) hl (by simp[eA]),oS _ _ (aG _) ⟨k,hf,hI.putObj _ hi (by omega) hl rfl⟩ ((cH (by omega)).trans hd)⟩
  ·exact⟨some c,_,Ki (P:=P) hl (by simp[eA]),qI _ c k _ (aG _) ((Cf c).putObj _ hi (by omega) hl rfl) ((cH (by omega)).trans hd)⟩
theorem WP{g:qV}{ps:Array Tmp}{assign body:vK}{Q:Exit→kZ→aF→Prop}{a:kZ}{w:aF}
 {gf:Nat}{lb:Array aS}(hg:a.eval g=.func (.func gf) #[] lb)(eg:∀args w,(callFunc gf args).run P w=.ok (.enter gf args) w)
 {β:Type}{enc:β→Array aS}{Ok:List β→β→Prop}{Fin:List β→Prop}{Kp:aF→aF→Prop}(Bk:SeqH dG 8 P gf lb enc Ok Fin Kp w)
 (JP:∀{A B C:aF},Kp A B→Kp B C→Kp A C)(Kn:∀(W:aF)(l:Nat)(o o':Obj),w.heap.size≤l→W.heap[l]? =some o→o.isCells=false→o.isWalk=false→Kp W (W.putObj l o'))(wG:∀x,(enc x).size=ps.size)
 (I:List β→aF→Prop)(Ix:vK→List β→aF→Prop)(hI:rK w.heap.size I)(Cf:∀c,rK w.heap.size (Ix c))(h0:I [] w)(tZ:β→kZ)
 (jM:∀(l:Nat)(x:β)(W:aF)(K:kZ→aF→Prop),K (tZ x) W→
  assign.wpIn (Fence.wide.inRound l) 7 P (Exit.then K (fun _ _ _=>False)) {tmps:=(ps.zip (enc x)).foldl (fun t(p,v)=>t.setIfInBounds p v) a.tmps,defers:=[]} W)
 (qH:∀(l:Nat)(k:List β)(x:β)(W:aF),Ok k x→I k W→body.wpIn (Fence.wide.inRound l) 7 P (Mc w.heap.size Kp I Ix (k++[x]) W) (tZ x) W)
 (oS:∀(D:Nat)(W:aF),w.heap.size≤D→(∃k,Fin k∧I k W)→W.heap[D]? =some (.deferred (some []))→Q .normal {a with defers:={target:=.collected D,args:= #[]}::a.defers} W)
 (qI:∀(D:Nat)(c:vK)(k:List β)(W:aF),w.heap.size≤D→Ix c k W→W.heap[D]? =some (.deferred (some []))→c.wp P Q {a with defers:={target:=.collected D,args:= #[]}::a.defers} W):
 (qX g ps assign body).wp P Q a w:=
 (wpIn_wide (n:=9)).1 (Qk (F:=dG) rfl (by decide) hg trivial eg Bk (aH _ _) JP Kn wG I Ix hI Cf h0 tZ jM qH oS (fun D c k W h1 h3 h4=>wpIn_wide.2 (qI D c k W h1 h3 h4)))
end
end
section
open Go Go.RowKit Go.Shelf Go.Lib
section
attribute[local go_sem] dW
def jA(B:Nat)(V V':aF):Prop:=Below B V V'∧∀(k:Nat)(o:Obj),V.heap[k]? =some o→o.isCells=true→V'.heap[k]? =some o
theorem jA.refl(B:Nat)(V:aF):jA B V V:=⟨aH _ _,fun _ _ h _=>h⟩
theorem jA.trans{B:Nat}{X Y Z:aF}(h:jA B X Y)(k:jA B Y Z):jA B X Z:=⟨h.1.trans k.1,fun i o hi ho=>k.2 i o (h.2 i o hi ho) ho⟩
theorem jA.call{B:Nat}{X Y:aF}(h:Below X.heap.size X Y)(hB:B≤X.heap.size):jA B X Y:=
 ⟨h.mono hB,fun i o hi _=>(h.block i (Array.getElem?_eq_some_iff.1 hi).1).trans hi⟩
theorem jA.blk{B:Nat}{X Y:aF}(h:jA B X Y){b:Nat}{cs:Array aS}{T:eC}(k:bT X b cs T):bT Y b cs T:=h.2 b _ k rfl
theorem jA.putObj{B n:Nat}(hB:B≤n)(W:aF)(l:Nat)(o o':Obj)(hl:n≤l)(h:W.heap[l]? =some o)(ho:o.isCells=false)(_:o.isWalk=false):jA B W (W.putObj l o'):=
 ⟨kR (bE hB hl) h,fun i x hi hx=>by
  by_cases e:i=l
  ·subst e;rw[h]at hi;cases hi;rw[ho]at hx;cases hx
  ·exact(cH e).trans hi⟩
theorem jA.cell{B:Nat}{X Y:aF}(h:jA B X Y){p:cT}{v:aS}(hp:X.cell? p=some v):Y.cell? p=some v:=by
 have:Y.heap[p.block]? =X.heap[p.block]? :=by
  unfold World.cell? at hp;cases ho:X.heap[p.block]? with
  |none=>rw[ho]at hp;simp at hp
  |some o=>
   refine h.2 _ o ho ?_;rw[ho]at hp;cases o<;>first |rfl|simp at hp
 rw[iI this];exact hp
theorem jA.rdv{B:Nat}{X Y:aF}(h:jA B X Y){a:Option cT}{vs:List aS}(r:LC X a vs):LC Y a vs:=fun i hi=>by
 obtain⟨b,off,e,hc⟩:=r i hi
 exact⟨b,off,e,h.cell hc⟩
end
section
attribute[local go_sem] dW
def evJ(fs:List Fr)(i j:Nat)(z:Rat):Prop:=∃k,k<j∧(fs.getD k default).up=(fs.getD i default).up∧lR (fs.getD k default).q (fs.getD i default).q z
def evS(fs:List Fr)(i:Nat)(z:Rat):Prop:=(fs.getD i default).sp≠[48]∧z=(fs.getD i default).q.t
theorem uz{fs:List Fr}{z:Rat}:tx fs z↔∃i,i<fs.length∧(evS fs i z∨evJ fs i i z):=Iff.rfl
def YK(f g:FQ)(w:aF)(e:Ending)(w':aF):Prop:=
 (∃(a:Option cT)(n cap:Nat)(c:Int)(L:List Rat),e=aQ (cC #[aB a n cap,aD aE c])∧L.length=n∧n≤1000∧LC w' a (jS (L.map bJ))∧(∀z,z∈L↔f.up=g.up∧lR f g z)∧∀z∈L,HQ 198 z)∧Below w.heap.size w w'
theorem TE(f g:FQ)(hf:f.Good)(hg:g.Good)(hup:f.up≠g.up)(w:aF)(hE:iM w):
 aW aC 140 #[f.fr.v,g.fr.v] w (Rt (cC #[aB none 0 0,aD aE 9]) w):=by
 have HCf:=zq (fun(W:aF)(h:Below w.heap.size w W)=>qP f hf W (hE.below h));have HCg:=zq (fun(W:aF)(h:Below w.heap.size w W)=>qP g hg W (hE.below h));have evf:f.fr.v=cN (GG f.up f.co f.dir (bs (bJ f.v)) (bs (bJ f.t))):=rfl;have evg:g.fr.v=cN (GG g.up g.co g.dir (bs (bJ g.v)) (bs (bJ g.t))):=rfl;rw[evf]at HCf⊢;rw[evg]at HCg⊢;clear evf evg hf hg hE;have fA:Below w.heap.size w ((w.alloc (aJ (GG f.up f.co f.dir (bs (bJ f.v)) (bs (bJ f.t))) 44)).alloc (aJ (GG g.up g.co g.dir (bs (bJ g.v)) (bs (bJ g.t))) 44)):=((aH _ w).alloc (aG _) _).alloc (by simp) _;have q1:bT ((w.alloc (aJ (GG f.up f.co f.dir (bs (bJ f.v)) (bs (bJ f.t))) 44)).alloc (aJ (GG g.up g.co g.dir (bs (bJ g.v)) (bs (bJ g.t))) 44)) w.heap.size (GG f.up f.co f.dir (bs (bJ f.v)) (bs (bJ f.t))) 44:=(bT.new w _ _).alloc _;have q2:bT ((w.alloc (aJ (GG f.up f.co f.dir (bs (bJ f.v)) (bs (bJ f.t))) 44)).alloc (aJ (GG g.up g.co g.dir (bs (bJ g.v)) (bs (bJ g.t))) 44)) (w.heap.size+1) (GG g.up g.co g.dir (bs (bJ g.v)) (bs (bJ g.t))) 44:=by
  have:=bT.new (w.alloc (aJ (GG f.up f.co f.dir (bs (bJ f.v)) (bs (bJ f.t))) 44)) (GG g.up g.co g.dir (bs (bJ g.v)) (bs (bJ g.t))) 44;rwa[bB]at this
 unfold GG at *;obtain⟨u1,h1⟩:∃u,f.up=u:=⟨_,rfl⟩;obtain⟨u2,h2⟩:∃u,g.up=u:=⟨_,rfl⟩;rw[h1]at HCf hup fA q1 q2⊢;rw[h2]at HCg hup fA q1 q2⊢;clear h1 h2;generalize bs (bJ f.v)=S1 at *;generalize bs (bJ f.t)=T1 at *;generalize bs (bJ g.v)=S2 at *;generalize bs (bJ g.t)=T2 at *;have gY:=zq fA;have Q1:=zq q1;have Q2:=zq q2;clear fA q1 q2;cases u1<;>cases u2<;>(try(exact absurd rfl hup))<;>clear hup;all_goals
  go_enter func140,ntmps140;go_wp2_with fail
  refine(HCf.out _ gY.out).mono ?_;rintro e W1⟨rfl,hb1⟩;have eW:=zq (aU gY.out hb1);have Q1:=zq (Q1.out.below hb1 Q1.out.lt);have Q2:=zq (Q2.out.below hb1 Q2.out.lt);clear hb1 gY;obtain⟨d0,d1,d2,d3,d4⟩:=Q2.out.front;have l2:=Q2.out.lt;go_wp2_with fail
  refine(HCg.out _ eW.out).mono ?_;rintro e W2⟨rfl,hb2⟩;have fR:=zq (aU eW.out hb2);have Q1:=zq (Q1.out.below hb2 Q1.out.lt);have Q2:=zq (Q2.out.below hb2 Q2.out.lt);clear hb2 eW d0 d1 d2 d3 d4 l2;obtain⟨c0,c1,c2,c3,c4⟩:=Q1.out.front;obtain⟨d0,d1,d2,d3,d4⟩:=Q2.out.front;go_wp2;go_ret2;exact⟨rfl,fR.out⟩
theorem vd(f g:FQ)(hf:f.Good)(hg:g.Good)(w:aF)(hE:iM w):aW aC 140 #[f.fr.v,g.fr.v] w (YK f g w):=by
 by_cases hup:f.up=g.up
 ·refine(TD f g hf hg hup w hE).mono ?_;rintro e w'⟨⟨a,n,cap,L,h1,h2,h3,h4,h5,h6⟩,hb⟩;exact⟨⟨a,n,cap,0,L,h1,h2,h3,h4,fun z=>⟨fun h=>⟨hup,(h5 z).1 h⟩,fun h=>(h5 z).2 h.2⟩,h6⟩,hb⟩
 ·refine(TE f g hf hg hup w hE).mono ?_;rintro e w'⟨h1,hb⟩;exact⟨⟨none,0,0,9,[],h1,rfl,by decide,fun i hi=>absurd hi (by simp[jS]),fun z=>⟨fun h=>absurd h (by simp),fun h=>absurd h.1 hup⟩,fun z h=>absurd h (by simp)⟩,hb⟩
def WQ(fs:List Fr)(k j:Nat)(L0 L:List Rat):Prop:=(∀z∈L0,z∈L)∧(∀z,evS fs k z→z∈L)∧∀z,evJ fs k j z→z∈L
theorem WQ.more{fs:List Fr}{k j:Nat}{L0 L:List Rat}(h:WQ fs k j L0 L)(x:Rat):WQ fs k j L0 (L++[x]):=
 ⟨fun z hz=>mV _ (h.1 z hz),fun z hz=>mV _ (h.2.1 z hz),fun z hz=>mV _ (h.2.2 z hz)⟩
theorem WQ.next{fs:List Fr}{k j:Nat}{L0 L Lq:List Rat}(h:WQ fs k j L0 L)(hq:∀z∈Lq,z∈L)(hm:∀z,z∈Lq↔(fs.getD j default).q.up=(fs.getD k default).q.up∧lR (fs.getD j default).q (fs.getD k default).q z):WQ fs k (j+1) L0 L:=by
 refine⟨h.1,h.2.1,fun z hz=>?_⟩;obtain⟨i,hi,h1,h2⟩:=hz;rcases fK i j with c|c
 ·exact h.2.2 z ⟨i,c,h1,h2⟩
 ·obtain rfl:i=j:=by omega
  exact hq z ((hm z).2 ⟨h1,h2⟩)
theorem fr_st{f:Fr}(h:f.Ok):bs f.st=bs (bJ f.q.t):=by
 have:=congrArg Fr.st h.good.2;rw[←this];rfl
theorem ev_seq (VK:∀ (f g:FQ),f.Good→g.Good→∀ W,iM W→aW aC 140 #[f.fr.v,g.fr.v] W (YK f g W)) (Bf B:Nat) (a:Option cT) (nf ca:Nat) (fs:List Fr) (hf:fs.length=nf) (hn:nf≤24) (hOk:∀ f∈fs,f.Ok) (w:aF) (hB:B≤w.heap.size) (hBl:Bf < w.heap.size)
 (hE:∀ V,Below B w V→iM V) (hc:∀ V,Below B w V→zR V a fs) (Ql:nf≤ca) (hBs:bT w Bf #[aB a nf ca] 25) :
 SeqH dG 8 aC 139 #[bA (some ⟨Bf,0,none⟩)] (fun z:Rat=> #[aA (bs (bJ z))]) (fun _ z=> HQ 198 z∧tx fs z) (fun k=> ∀ z,tx fs z→z∈k) (jA B) w:=by
 intro l J Jx W hW hJ hY h0;have K0:jA B w W:=jA.call hW hB;have hBs:=K0.blk hBs;have HE:=zq (fun V (h:Below B W V)=> hE V (K0.1.trans h));have Hc:=zq (fun V (h:Below B W V)=> hc V (K0.1.trans h));have ut:B≤W.heap.size:=bE hB hW.size;have Hf:=zq hf;have ZR:bH (∀ i,i < nf→(fs.getD i default).Ok):=fun i hi=> hOk _ (eB (by rw [hf];exact hi) default);have HEq:bH (∀ i j,i < nf→j < nf→∀ V,Below B W V→aW aC 140 #[(fs.getD j default).v,(fs.getD i default).v] V (YK (fs.getD j default).q (fs.getD i default).q V)):=fun i j hi hj V hV=> by
  obtain⟨g1,e1⟩:=(ZR.out i hi).good;obtain⟨g2,e2⟩:=(ZR.out j hj).good;have:=VK _ _ g2 g1 V (HE.out V hV);rwa [e1,e2] at this
 have HBs:=zq hBs;have HJ0:=zq h0;have HJ:=zq hJ;have HY:=zq hY;clear hf hOk hE hc hBs K0 hW hB hBl VK h0 hJ hY;refine GZ func139 rfl trivial ?_ rfl;simp only [ntmps139,bW,bF,bY,cW,cX,bR,bS,cD,bU,cL,bZ];have k0:=HBs.out.cell 0;simp only [List.getElem?_toArray,List.getElem?_cons_zero] at k0;have kl:=HBs.out.lt;gi_wp2;gi_loopw [13] (fun i wr=> ∃ (k:Nat) (L:List Rat),i=aD aE (k:Int)∧k≤nf∧bH (J L wr)∧bH (jA B W wr)∧bH (∀ i,i < k→∀ z,evS fs i z∨evJ fs i i z→z∈L))
  (fun i _=> nf - (aK i).toNat)
 case atStart=> exact⟨0, [],rfl,bN _,HJ0.out,jA.refl _ _,fun i hi=> by omega⟩
 case round=>
  obtain⟨k,L,rfl,hk,HJk,HK,HL⟩:=hrel;by_cases hlt:k < nf
  ·have HKk:=zq HK.out.1;obtain⟨fb,fo,rfl,c0,c1,c2,c3,c4⟩:=(Hc.out _ HKk.out).at (i:=k) (by rw [Hf.out];exact hlt) rfl;have Hfs:bH (∀ V,Below B W V→zR V (some ⟨fb,fo,none⟩) fs):=Hc;have hst:=fr_st (ZR.out k hlt);have hz30:=(ZR.out k hlt).good.1.t;have HQt:bH (HQ 198 (fs.getD k default).q.t):=hz30.mono (by decide);have HEqk:=zq (fun j hj V hV=> HEq.out k j hlt hj V hV);have HSt:bH (evS fs k (fs.getD k default).q.t↔(fs.getD k default).sp≠ [48]):=⟨fun h=> h.1,fun h=> ⟨h,rfl⟩⟩;have HSu:bH (∀ z,evS fs k z→z=(fs.getD k default).q.t):=fun z h=> h.2;have hsp48:((bs (fs.getD k default).sp).toList== [48])=decide ((fs.getD k default).sp= [48]):=by
    rw [cJ,bP];rw [DG];simp
   have HSp:=zq hsp48;have HEv:bH (∀ z,evS fs k z∨evJ fs k k z→tx fs z):=fun z h=> uz.2 ⟨k,by rw [Hf.out];exact hlt,h⟩;have HCov:bH (∀ L2,WQ fs k k L L2→∀ i,i < k + 1→∀ z,evS fs i z∨evJ fs i i z→z∈L2):=fun L2 h i hi z hz=> by
    rcases fK i k with c | c
    ·exact h.1 z (HL.out i c z hz)
    ·obtain rfl:i=k:=by omega
     exact hz.elim (h.2.1 z) (h.2.2 z)
   have Tz:bH (∀ L2,(∀ z∈L,z∈L2)→(∀ z,evS fs k z→z∈L2)→WQ fs k 0 L L2):=fun L2 h1 h2=> ⟨h1,h2,fun z ⟨i,hi,_⟩=> absurd hi (Nat.not_lt_zero _)⟩;have jt:bH (∀ j L2 Lq,WQ fs k j L L2→(∀ z∈Lq,z∈L2)→(∀ z,z∈Lq↔(fs.getD j default).q.up=(fs.getD k default).q.up∧lR (fs.getD j default).q (fs.getD k default).q z)→WQ fs k (j + 1) L L2):=fun j L2 Lq h1 h2 h3=> h1.next h2 h3;have HEvJ:bH (∀ j,j < k→∀ z,((fs.getD j default).q.up=(fs.getD k default).q.up∧lR (fs.getD j default).q (fs.getD k default).q z)→tx fs z):=fun j hj z h=> HEv.out z (.inr ⟨j,hj,h.1,h.2⟩);have k0' :=k0;have k0:wr.cell? ⟨Bf,0,none⟩=some (aB (some ⟨fb,fo,none⟩) nf ca):=HK.out.cell k0';have kl2:Bf < wr.heap.size:=bG wr ⟨Bf,0,none⟩ k0;have NC:fb < wr.heap.size:=bG wr ⟨fb,fo + k * 5,none⟩ c0;have oI:=(aH wr.heap.size wr).alloc (aG _) (aJ #[aN (fs.getD k default).up,aD aE (fs.getD k default).co,aD aE (fs.getD k default).dir,aA (bs (fs.getD k default).sp),aA (bs (fs.getD k default).st)] 44);have Q4:=zq (bT.new wr #[aN (fs.getD k default).up,aD aE (fs.getD k default).co,aD aE (fs.getD k default).dir,aA (bs (fs.getD k default).sp),aA (bs (fs.getD k default).st)] 44);have zG:=zq oI;clear hz30 hsp48 oI HL;have HEqk:bH (∀ (j:Nat),j < nf→∀ (V:aF),Below B W V→aW aC 140 #[(fs.getD j default).v,cN #[aN (fs.getD k default).up,aD aE (fs.getD k default).co,aD aE (fs.getD k default).dir,aA (bs (fs.getD k default).sp),aA (bs (fs.getD k default).st)]] V (YK (fs.getD j default).q (fs.getD k default).q V)):=HEqk;have HQ48:bH ((fs.getD k default).sp≠ [48]→tx fs (fs.getD k default).q.t):=fun h=> HEv.out _ (.inl (HSt.out.2 h));have HSn:bH ((fs.getD k default).sp= [48]→∀ z,¬ evS fs k z):=fun h z hz=> hz.1 h;have HFT:bH (∀ (L2:List Rat) (V:aF),J L2 V→tx fs (fs.getD k default).q.t→UH dG 7 aC l #[aA (bs (bJ (fs.getD k default).q.t))] V fun e V' => (e=aQ (aN true)∧J (L2 ++ [(fs.getD k default).q.t]) V' ∧jA B V V')∨(e=aQ (aN false)∧Jx (L2 ++ [(fs.getD k default).q.t]) V')):=fun L2 V h hz=> HY.out L2 _ V ⟨HQt.out,hz⟩ h;have HSu2:bH (∀ z,evS fs k z→z=(fs.getD k default).q.t):=HSu;generalize (fs.getD k default).q=fq at *;generalize fs.getD k default=f at *;obtain⟨Aw,CM,pA,LK,Rx⟩:=f;simp only [] at *;rw [hst] at HEqk Q4 zG c4;clear hst HSt HSu HEv HEq HQt;generalize fq.t=ft at *;generalize bs (bJ ft)=FT at *;gi_upto_region 3 with (fail);obtain⟨wb,hwb⟩:∃ wb,wr.alloc (aJ #[aN Aw,aD aE CM,aD aE pA,aA (bs LK),aA FT] 44)=wb:=⟨_,rfl⟩;rw [hwb] at Q4 zG ⊢;have HKb:=zq (HK.out.trans (jA.call zG.out (bE ut HKk.out.size)));have HJb:=zq (HJ.out _ _ _ HJk.out zG.out);have k1:=cF zG.out k0;have hsb:wr.heap.size < wb.heap.size:=Q4.out.lt;clear k0 kl2 NC c0 c1 c2 c3 c4 hwb zG HKk;generalize wr.heap.size=b4 at *;obtain⟨d0,d1,d2,d3,d4⟩:=Q4.out.front;gi_cut [27] from 14 (fun v V=> (v=aN false∧bH (∃ L1,J L1 V∧jA B wb V∧WQ fs k 0 L L1))∨(v=aN true∧bH (∃ L1,Jx L1 V)));case first=>
    have hsp:=HSp.out;by_cases h48:LK= [48]
    ·rw [decide_eq_true h48] at hsp;have R:bH (∃ L1,J L1 wb∧jA B wb wb∧WQ fs k 0 L L1):=⟨L,HJb.out,jA.refl _ _,Tz.out L (fun z h=> h) (fun z h=> absurd h (HSn.out h48 z))⟩;clear h48;generalize bs LK=Fsq at *;gi_wp2;repeat (refine⟨fun _ h=> (by cases h), ?_⟩;gi_wp2)
     gi_meet;case rel=> exact .inl ⟨rfl,R.out⟩
    ·rw [decide_eq_false h48] at hsp;obtain⟨fny,tmy,asy,boy,hy,hR⟩:=HFT.out L wb HJb.out (HQ48.out h48);clear h48;generalize bs LK=Fsq at *;gi_wp2;refine hR.mono ?_;rintro e W1 (⟨rfl,hJ1,hK1⟩ | ⟨rfl,hx⟩)
     ·have R:bH (∃ L1,J L1 W1∧jA B wb W1∧WQ fs k 0 L L1):=⟨_,hJ1,hK1,Tz.out _ (fun z h=> mV _ h) (fun z h=> by rw [HSu2.out z h];exact Vs _ (List.mem_singleton.2 rfl))⟩;gi_wp2;gi_meet;case rel=> exact .inl ⟨rfl,R.out⟩
     ·have R:bH (∃ L1,Jx L1 W1):=⟨_,hx⟩;gi_wp2;gi_meet;case rel=> exact .inr ⟨rfl,R.out⟩
   case rest=>
   rcases hcut with ⟨rfl,HX⟩ | ⟨rfl,HX⟩;case inr=>
    gi_wp2;refine cI (tE rfl _ _ _) rfl ?_;exact⟨⟨_,rfl⟩, .inr HX.out⟩
   obtain⟨L1,hJ1,hK1,YL⟩:=HX.out;rename aF=> wc;have HJ1:=zq hJ1;have HKc:=zq hK1;have HCv:=zq YL;clear hJ1 hK1 YL HX d0 d1 d2 d3 d4 HJb HSn HQ48 HSu2 Tz HFT HSp;have k2:=HKc.out.cell k1;have kl2:=bG wc ⟨Bf,0,none⟩ k2;have hnca:(k:Int)≤(ca:Int):=by omega
   gi_wp2;gi_loopw [32] (fun i wr2=> ∃ (j:Nat) (L2:List Rat),i=aD aE (j:Int)∧j≤k∧bH (J L2 wr2)∧bH (jA B wb wr2)∧bH (WQ fs k j L L2))
    (fun i _=> k - (aK i).toNat)
   case atStart=> exact⟨0,L1,rfl,bN _,HJ1.out,HKc.out,HCv.out⟩
   case round=>
    obtain⟨j,L2,rfl,hj,HJ2,br,bo⟩:=hrel;have HKw:=zq (HKb.out.trans br.out);have vR:=zq HKw.out.1;by_cases hlt2:j < k
    ·obtain⟨fb',fo',e1,c0,c1,c2,c3,c4⟩:=(Hfs.out _ vR.out).at (i:=j) (by rw [Hf.out];omega) rfl;injection e1 with e1;injection e1 with e1 e2;subst e1 e2;have HEqj:=zq (HEqk.out j (by omega));have HEvj:=zq (HEvJ.out j hlt2);have HNxj:=zq (jt.out j);unfold Fr.v Fr.cells at HEqj;generalize (fs.getD j default).q=gq at *;generalize fs.getD j default=g at *;obtain⟨Wp,gco,LM,gsp,gst⟩:=g;simp only [] at *;have Q4j:=zq (br.out.blk Q4.out);have k3:=br.out.cell k1;obtain⟨d0,d1,d2,d3,d4⟩:=Q4j.out.front;have hl4:=Q4j.out.lt;generalize bs LK=Fsq at *;generalize bs gsp=GS at *;generalize bs gst=GT at *;have Kr:=(aH wr.heap.size wr).alloc (aG _) (aJ #[aN Wp,aD aE gco,aD aE LM,aA GS,aA GT] 44);have FC:=zq Kr;have Bv:=zq (vR.out.trans (Kr.mono (bE ut vR.out.size)));clear Kr;gi_wp2_with fail;refine⟨trivial,(callsIn_wide.2 (HEqj.out _ Bv.out)).mono ?_⟩;rintro e W6 ⟨⟨a',n',M9,cc,Lq,rfl,hl,hn',hr,hm,hq⟩,hb6⟩;have HB66:=zq (aU FC.out hb6);have HK6:=zq (br.out.trans (jA.call HB66.out (bE ut vR.out.size)));have HJ6:=zq (HJ.out _ _ _ HJ2.out HB66.out);have Hl:=zq hl;have Hr:=zq hr;have Hm:=zq hm;have Hq:=zq hq;clear hl hr hm hq hb6 FC Bv HEqj c0 c1 c2 c3 c4 d0 d1 d2 d3 d4 k3 hl4 Q4j HJ2 br HKw vR HB66;gi_wp2;gi_loopw [44] (fun i wr3=> ∃ (m:Nat) (L3:List Rat),i=aD aE (m:Int)∧m≤n' ∧bH (J L3 wr3)∧bH (jA B wb wr3)∧bH (jA B W6 wr3)∧bH (WQ fs k j L L3)∧bH (∀ z∈Lq.take m,z∈L3))
      (fun i _=> n' - (aK i).toNat)
     case atStart=> exact⟨0,L2,rfl,bN _,HJ6.out,HK6.out,jA.refl _ _,bo.out,fun z h=> absurd h (by simp)⟩
     case round=>
      obtain⟨m,L3,rfl,hm',HJ3,HK3,HK63,HC3,HLm⟩:=hrel;by_cases hlt3:m < n'
      ·obtain⟨ab,ao,rfl,x0⟩:=(HK63.out.rdv Hr.out) m (by rw [Gx,cO,Hl.out];exact hlt3);have Ib:m < Lq.length:=by rw [Hl.out];exact hlt3
       have hxz:(jS (Lq.map bJ)).getD m undef=aA (bs (bJ (Lq.getD m 0))):=by simp [jS,aO,Ib]
       rw [hxz] at x0;have hzm:Lq.getD m 0∈Lq:=eB Ib 0;have HLt:bH (Lq.take (m + 1)=Lq.take m ++ [Lq.getD m 0]):=by
        show _=_;rw [dU Ib];simp [aO,Ib]
       obtain⟨fny,tmy,asy,boy,hy,hR⟩:=HY.out L3 (Lq.getD m 0) wr ⟨Hq.out _ hzm,HEvj.out _ ((Hm.out _).1 hzm)⟩ HJ3.out;clear hxz Ib hzm;generalize Lq.getD m 0=z at *;generalize bs (bJ z)=ZT at *;gi_wp2;refine hR.mono ?_;rintro e W7 (⟨rfl,hJ7,hK7⟩ | ⟨rfl,hx⟩)
       ·have HJ7:=zq hJ7;have HK7:=zq (HK3.out.trans hK7);have HK67:=zq (HK63.out.trans hK7);have HC7:=zq (HC3.out.more z);have HL7:bH (∀ x∈Lq.take (m + 1),x∈L3 ++ [z]):=fun x hx=> by
         rw [HLt.out] at hx;rcases List.mem_append.1 hx with h | h
         ·exact mV _ (HLm.out x h)
         ·exact Vs _ h
        clear hJ7 hK7;gi_wp2;go_roundw;case rel=> exact⟨m + 1,L3 ++ [z],by go_num,by omega,HJ7.out,HK7.out,HK67.out,HC7.out,HL7.out⟩
        case measure=> simp only [aK];omega
       ·have R:bH (∃ L1,Jx L1 W7):=⟨_,hx⟩;gi_wp2;refine cI (tE rfl _ _ _) rfl ?_;exact⟨⟨_,rfl⟩, .inr R.out⟩
      ·obtain rfl:n' =m:=by omega
       have HC4:=zq (HNxj.out L3 Lq HC3.out (fun z hz=> HLm.out z (by rw [List.take_of_length_le (by rw [Hl.out];exact aG _)];exact hz)) Hm.out);clear HLm HNxj;gi_wp2;go_roundw;case rel=> exact⟨j + 1,L3,by go_num,by omega,HJ3.out,HK3.out,HC4.out⟩
       case measure=> simp only [aK];omega
    ·obtain rfl:k=j:=by omega
     have HL2:=zq (HCov.out L2 bo.out);clear HCov bo;gi_wp2;go_roundw;case rel=> exact⟨k + 1,L2,by go_num,by omega,HJ2.out,HKw.out,HL2.out⟩
     case measure=> simp only [aK];omega
  ·obtain rfl:nf=k:=by omega
   gi_wp2;go_end0;exact⟨⟨_,rfl⟩, .inl ⟨L,fun z hz=> by
    obtain⟨i,hi,h⟩:=uz.1 hz;exact HL.out i (by rw [← Hf.out];exact hi) z h,HJk.out⟩⟩
end
end
section
open Go Go.RowKit Go.Lib
theorem ve(a b:Rat):decide (tG a b<0)=decide (a<b):=by
 unfold tG;by_cases h:a<b
 ·simp[h]
 ·by_cases k:b<a<;>simp[h,k]
theorem Yx.at{w:aF}{a:Option cT}{qs:List Po}(h:Yx w a qs){i:Nat}(hi:i<qs.length){p:Po}(hp:qs.getD i default=p):∃b off,a=some ⟨b,off,none⟩∧w.cell? ⟨b,off+i*2,none⟩=some (aA (bs p.x))∧w.cell? ⟨b,off+i*2+1,none⟩=some (aA (bs p.y)):=by
 subst hp;exact h i hi
theorem ci (a b:Option cT) (n ca cb:Nat) (qs:List Po) (w:aF) (hn:qs.length=n) (sT:n≤1000000) (ra:Yx w a qs) (rb:Yx w b qs) :
 aW aC 28 #[aB a n ca,aB b n cb] w (Rt (aN true) w):=by
 have Ra:=zq ra;have Rb:=zq rb;have Hn:=zq hn;clear ra rb hn;go_enter func28,ntmps28;go_wp2;go_loopw [13] (fun i wr=> ∃ k:Nat,i=aD aE k∧k≤n∧bH (Below w.heap.size w wr)) (fun i _=> n - (aK i).toNat);case atStart=> exact⟨0,rfl,bN _,aH _ w⟩
 case round=>
  obtain⟨k,rfl,hk,HB⟩:=hrel;by_cases hlt:k < n
  ·obtain⟨pb,po,rfl,c0,c1⟩:=(Ra.out.below HB.out).at (i:=k) (by rw [Hn.out];exact hlt) rfl;obtain⟨qb,qo,rfl,d0,d1⟩:=(Rb.out.below HB.out).at (i:=k) (by rw [Hn.out];exact hlt) rfl;have hji:(k:Int) < (n:Int):=by omega
   generalize qs.getD k default=P at *;obtain⟨px,py⟩:=P;simp only [] at *;have Q:∀ W,(MQ 10000 66 (cN #[aA (bs px),aA (bs py)]) (cN #[aA (bs px),aA (bs py)])).run aC W= .ok true W:=fun W=> by rw [eqPo];simp
   generalize bs px=PX at *;generalize bs py=PY at *;go_wp2;go_region;all_goals
    go_wp2;go_roundw;case rel=> exact⟨k + 1,by go_num,by omega,HB.out.drew⟩
    case measure=> simp only [aK];omega
  ·obtain rfl:n=k:=by omega
   go_wp2;go_ret;exact⟨rfl,HB.out⟩
end
end Go.Proofs.YtckgmoobicmbnaaGreatDoor
