import Derived.Test.YtncclggcfgnhpaaGreatDoorZ6
namespace Go.Proofs.YtncclggcfgnhpaaGreatDoor
set_option maxRecDepth 100000
set_option maxHeartbeats 8000000
set_option linter.all false
open Go.Proofs.Tryz
open _root_.Array renaming replicate_succ->bG,replicate_zero->bH,size_append->lM,append_empty->AA
open _root_.Bool renaming true->ι,false->ν,and_eq_true->aI,false_eq_true->aK,not_eq_true'->bX,true_and->iO,or_eq_false_iff->jA,false_or->nZ,not_eq_false'->vS,false_and->wT,and_false->Bk,or_assoc->Up
open _root_.Go renaming World->η,Value->χ,undef->ψ,Calls->aE,Addr->bW,Program->cQ,TypeId->cS,below_drewN->dO,Oper->eZ,results->gP,KeepsFrom->iB,results_tmp->iH,Act->iS,info_parts->jJ,Operand->mC,wpAnyIn_done->mL,callFunc->nU,grownBy_putObj'->pX,ownFrom_below->qO,maxLen->yE,size_zeroCells->Bj,wpList->Dk,Fence->Jy
open Go.Act renaming put->oQ
open Go.Addr renaming add_lit->qP
open Go.AllReadyIn renaming nil->dW
open Go.Ending renaming returned->σ
open Go.IntKind renaming i64->Ξ
open Go.IntWalk renaming i64_in->aM
open Go.KeepsOthers renaming setCell->dA,of_grownBy->FN
open Go.Obj renaming cells->π
open Go.Oper renaming semAt_some->eQ
open Go.OwnFrom renaming and->eJ
open Go.Proofs renaming enters_of->iC
open Go.Proofs.Lays8 renaming n4->Bq
open Go.Proofs.Tryz renaming prog->γ,underlying81->Mt
open Go.RowKit renaming intOf->ξ,Hid->aQ
open Go.RowKit.Below renaming refl->μ
open Go.Shelf renaming Ren->iG
open Go.Value renaming string->Δ,slice->Θ,int->Υ,bool->ω,pointer->aB,agg->bQ,tuple->bT,oneCell'->iP
open Go.World renaming block_lt_of_cell?->aD,size_alloc->aL,ownsRow_nil->rN
open Go.World.ownsRow renaming cellAt->dN
open _root_.Inhabited renaming default->Γ
open _root_.Int renaming zero_mul->Ge
open _root_.List renaming getD_eq_getElem?_getD->Ω,length_cons->aC,length_append->aJ,getElem?_eq_getElem->aS,getElem?_cons_zero->aU,setIfInBounds_toArray->aX,length_nil->bB,getElem?_toArray->bC,size_toArray->bI,take_succ_eq_append_getElem->bM,cons_append->bV,append_toArray->bN,mem_cons_self->bO,set_cons_zero->bU,mem_cons_of_mem->cC,push_toArray->cE,range->cI,nil_append->cM,set_cons_succ->cR,take_of_length_le->eA,map_append->dV,getElem?_append_right->fA,getElem_of_mem->fC,getElem_mem->fJ,flatMap_cons->gS,mem_cons->jT,flatMap_append->kA,append_nil->kQ,getElem?_append_left->nQ,not_mem_nil->pL,range_succ->sB,append_assoc->sI,take_length->DM
open _root_.Nat renaming le_refl->θ,le_trans->aA,zero_le->aP,mod_lt->aV,zero_add->bD,reduceAdd->cL,lt_of_lt_of_le->cN,reduceSub->dF,le_of_lt->fM,le_of_eq->qU,zero_mul->vO,lt_succ_self->Fk
open _root_.Option renaming none->δ,some->ζ
open _root_.Option.some renaming inj->dZ
variable{w w' W W' w1 w2:η}{a:Option bW}{i k N r s B l D c E e size B' cH P3 P4 cap hs nf ca:Nat}{P:cQ}{u0 u1 u2 u3 u4 v1 v2 z:χ}{T ty:cS}{A:Int}{c1 c2 cs:Array χ}{p:bW}{F:Jy}{fn:Func}{Ds:List Nat}{β α:Type}{xs bx pl:List χ}{row:Option Nat}{fs:List Fr}{X Y:ByteArray}{aZ:List Lp}
section
open Go Go.RowKit Go.Shelf Go.Lib
section
attribute[local go_sem] eQ
def jnX(l:List Sd)(k:Nat):Bool:=!WI (l.getD (pre l.length k) Γ) (l.getD k Γ) (fR l k)&&am6 (l.getD (pre l.length k) Γ) (l.getD k Γ)
def jnR(f:Nat->List Sd)(r:Nat):Bool:=anyN (jnX (f r)) (f r).length
def WP(f:Nat->List Sd)(N:Nat):Bool:=!anyN (jnR f) N&&anyN (Dc f) N
theorem wg(a N cap rs w)(hl:rs.length=N)(hN:N <= 1000)(hn:∀ r,(aF rs r).length <= 1000)(hC:∀ r,C8 (aF rs r))(rr:GB w a rs):
 aE γ 100 #[Θ a N cap] w (Rt (ω (WP (aF rs) N)) w):=by
 obtain ⟨W0,fI⟩:=nm ((w.alloc (π #[ω ν] 4)).alloc (π #[ω ν] 4))
 obtain ⟨gz,vH,fL⟩:=Of fI
 have gH:=zq fL
 have HR:=zq rr
 have HL:=zq hl
 have HC:=zq hC
 have HN:=zq hn
 have HW:=zq fI
 have X1:aQ (∀ r,r < N -> jnR (aF rs) r=ι -> WP (aF rs) N=ν):=fun r h2 h=>by unfold WP; rw [eF.2 ⟨r,h2,h⟩]; rfl
 have X3:aQ (anyN (jnR (aF rs)) N=ν -> WP (aF rs) N=anyN (Dc (aF rs)) N):=fun h=>by unfold WP; rw [h]; rfl
 have aV3:=vH.lt
 obtain ⟨RB,hRB⟩:=nm w.heap.size
 rw [hRB] at gz vH aV3
 obtain ⟨SB,hSB⟩:=nm (RB+1)
 rw [hSB] at vH aV3
 have ql:=zq hRB
 have HSB:=zq hSB
 have Hp0:=zq gz
 have Hq0:=zq vH
 clear hl rr hn hC fL fI gz vH aV3
 generalize WP (aF rs) N=R at *
 refine eE func100 rfl ?_
 simp only [ntmps100,bI,aC,bB,cL,dF,bG,bH,cE,bN,cM,bV]
 go_upto_region 2 with (fail)
 rw [HW.o]
 clear HW hSB hRB
 go_wp2
 refine wp_loop (fun a' w'=>∃ (r:Nat) (Ds:List Nat) (u5 u11 u12 u13 u14 u15 u47:χ),a'={ tmps:=#[Θ a N cap,ψ,aB (ζ ⟨RB,0,δ⟩),aB (ζ ⟨SB,0,δ⟩),ψ,u5,ψ,ψ,Θ a N cap,Υ Ξ N,Υ Ξ r,u11,u12,u13,u14,u15,ψ,ψ,ψ,ψ,ψ,ψ,ψ,ψ,ψ,ψ,ψ,ψ,ψ,ψ,ψ,ψ,ψ,ψ,ψ,ψ,ψ,ψ,ψ,ψ,ψ,ψ,ψ,ψ,ψ,ψ,ψ,u47,ψ],defers:=Ds.map mkD } /\
  r <= N /\ aQ (anyN (jnR (aF rs)) r=ν) /\ aQ (bE w' RB #[ω ν] 4) /\ aQ (bE w' SB #[ω (anyN (Dc (aF rs)) r)] 4) /\ aQ (Bw w w') /\ aQ (Mk w.heap.size w'.heap.size Ds w'))
  (fun a' _=>N - (ξ (a'.tmps.getD 10 ψ)).toNat) ⟨0,[],ψ,ψ,ψ,ψ,ψ,ψ,ψ,rfl,aP _,rfl,Hp0.o,Hq0.o,gH.o,Mk.nil _ _ _⟩ ?_
 clear Hp0 Hq0 gH
 rintro _ wr ⟨r,Ds,u5,u11,u12,u13,u14,u15,u47,rfl,hr,HA,HRb,HSb,HB,HM⟩
 by_cases hrN:r < N
 .obtain ⟨b,o,rfl,c0,RD⟩:=(HR.o.below HB.o).at (i:=r) (by rw [HL.o]; exact hrN) rfl
  rw [show (rs.getD r Γ).ss.length=(aF rs r).length from rfl] at c0
  have GD:=zq RD
  have VH:aQ (∀ p,0 < (aF rs r).length -> (rs.getD r Γ).a=ζ p -> p.block < w.heap.size):=fun p h0 e=>by
   obtain ⟨b',o',e1,-,rs1⟩:=HR.o.at (i:=r) (by rw [HL.o]; exact hrN) rfl
   obtain ⟨b2,o2,e2,c⟩:=rs1 0 h0
   rw [e] at e2; injection e2 with e2; subst e2
   exact aD w _ (c 0 dD)
  have X1r:=zq (X1.o r hrN)
  have X4:=zq (fun h:jnR (aF rs) r=ν=>iA (p:=jnR (aF rs)) HA.o h)
  have E1:aQ (jnR (aF rs) r=anyN (jnX (aF rs r)) (aF rs r).length):=rfl
  have E2:aQ (anyN (Dc (aF rs)) (r+1)=(anyN (Dc (aF rs)) r || anyN (DE (aF rs r)) (aF rs r).length)):=rfl
  have LB:=HN.o r
  have HCr:=zq (HC.o r)
  rw [show (rs.getD r Γ).ss=aF rs r from rfl] at GD
  clear RD
  obtain ⟨l,hl⟩:=nm (aF rs r)
  rw [hl] at E1 E2 LB HCr GD VH c0
  obtain ⟨n,hln⟩:=nm l.length
  rw [hln] at E1 E2 LB VH c0
  have HLn:=zq hln
  clear hl hln
  generalize (rs.getD r Γ).a=ar at *
  generalize (rs.getD r Γ).cap=cr at *
  generalize anyN (Dc (aF rs)) r=S1 at *
  obtain ⟨S2,hS2⟩:=nm (anyN (Dc (aF rs)) (r+1))
  rw [hS2] at E2
  have HS2:=zq hS2
  clear hS2
  obtain ⟨JR,hJR⟩:=nm (jnR (aF rs) r)
  rw [hJR] at E1 X1r X4
  clear hJR
  go_wp2_with fail
  refine ka (EQ ar n cr wr) fun W1 tZ=>?_
  have hb1:Bw wr W1:=by rw [tZ]; exact nA _ _
  have hq1:bE W1 wr.heap.size #[Θ ar n cr] 81:=by rw [tZ]; exact bE.new _ _ _
  have eG:=HB.bS hb1
  have Fv:=zq hq1
  have bq4:=HRb.bb hb1
  have bq5:=HSb.bb hb1
  have HM1:=zq ((HM.o.below hb1).grow hb1.size)
  have CG:=zq (GD.o.below hb1)
  have hSl:=HSb.o.lt
  have HBs:aQ (SB < wr.heap.size):=hSl
  clear hb1 hq1 tZ HB HRb HSb HM GD hSl c0
  generalize wr.heap.size=Bs at *
  go_wp2_with fail
  have Og:∀ j,sQ Bs ar n j -> j ≠ SB:=by
   rintro j (rfl | ⟨h0,p,e,rfl⟩) h
   .have:=HBs.o; omega
   .have:=VH.o p h0 e; have:=ql.o; have:=HSB.o; omega
  have EJ:aQ (∀ k,anyN (jnX l) (k+1)=(anyN (jnX l) k || (!WI (l.getD (pre l.length k) Γ) (l.getD k Γ) (fR l k) && am6 (l.getD (pre l.length k) Γ) (l.getD k Γ)))):=fun k=>rfl
  have ES:aQ (∀ k,anyN (DE l) (k+1)=(anyN (DE l) k || !(l.getD k Γ).gable)):=fun k=>rfl
  rw [HLn.o] at EJ
  refine EU Bs ar n cr l rfl HLn.o LB (Fv.o.cell 0) CG.o
   (fun k W=>bE W RB #[ω ν] 4 /\ bE W SB #[ω (S1 || anyN (DE l) k)] 4 /\ Bw w W /\ Mk w.heap.size W1.heap.size Ds W /\ anyN (jnX l) k=ν)
   (fun c _ W=>c=.ret /\ bE W RB #[ω ν] 4 /\ Bw w W /\ Mk w.heap.size W1.heap.size Ds W /\ anyN (jnX l) n=ι)
   (eJ (Own.from (fun s A B row hs hg hr=>hs.own hg hr) _) (eJ (Own.from (fun s A B row hs hg hr=>hs.own hg hr) _) (eJ (qO (θ _) eG.o.size) (eJ Mk.from (fun _ _ _ _ h _ _=>h)))))
   (fun c=>eJ (fun _ _ _ _ h _ _=>h) (eJ (Own.from (fun s A B row hs hg hr=>hs.own hg hr) _) (eJ (qO (θ _) eG.o.size) (eJ Mk.from (fun _ _ _ _ h _ _=>h)))))
   ⟨bq4.o,by rw [show anyN (DE l) 0=ν from rfl,Bool.or_false]; exact bq5.o,eG.o,HM1.o,rfl⟩
   (fun k q ar'=>{ tmps:=#[Θ (ζ ⟨b,o,δ⟩) N cap,ψ,aB (ζ ⟨RB,0,δ⟩),aB (ζ ⟨SB,0,δ⟩),ψ,Θ ar n cr,ψ,aB (ζ ⟨q,0,δ⟩),Θ (ζ ⟨b,o,δ⟩) N cap,Υ Ξ N,Υ Ξ r,ω ι,aB (ζ ⟨b,o+r,δ⟩),Θ ar n cr,Θ ar n cr,.func (.func 189) #[] #[aB (ζ ⟨Bs,0,δ⟩)],Υ Ξ k,bQ ar',ψ,ψ,ψ,ψ,ψ,ψ,ψ,ψ,ψ,ψ,ψ,ψ,ψ,ψ,ψ,ψ,ψ,ψ,ψ,ψ,ψ,ψ,ψ,ψ,ψ,ψ,ψ,ψ,ψ,u47,ψ],defers:=[] })
   (fun ly k p s t W K hk hK=>?_) (fun ly k q p s t W hk hp hs ht hq QJ Pd hI=>?_) (fun D W hD hI hK=>?_) (fun D c k W hD hk hI hK=>?_)
  .refine Ag arZ (I7 p s t) rfl ?_
   show K _ _
   simpa only [oQ,aX,bU,cR] using hK
  .obtain ⟨h1,h2,h3,h4,h5⟩:=hI
   have H1:=zq h1
   have H3:=zq h3
   have H4:=zq h4
   have Hrw:=zq Pd
   have HK:=zq hk
   have C1p:C1 p:=by rw [<- hp]; exact HCr.o _
   have WK:C1 s:=by rw [<- hs]; exact HCr.o k
   have Z5:C1 t:=by rw [<- ht]; exact HCr.o _
   have F1:=zq (EJ.o k)
   have F2:=zq (ES.o k)
   rw [hp,hs,ht,h5,nZ] at F1
   rw [hs] at F2
   have ag:=zq (fun W=>aD4 p s t W C1p WK Z5)
   generalize WI p s t=L at *
   obtain ⟨S4,hS4⟩:=nm (S1 || anyN (DE l) (k+1))
   have F3:aQ (S4=((S1 || anyN (DE l) k) || !s.gable)):=by show _=_; rw [<- hS4,F2.o,Up]
   have HS4:=zq hS4
   generalize (S1 || anyN (DE l) k)=S3 at *
   have f0:=h2.ce 0
   have z0:=h2.fz 0
   have lS:=h2.lt
   have b11:=hq.ce 11
   have H2:=zq h2
   have HQ:=zq hq
   have Hqn:aQ (q ≠ SB):=fun e=>by have:=HBs.o; have:=eG.o.size; have h6:=Fv.o.lt; omega
   obtain ⟨g,hg⟩:=nm s.gable
   rw [hg] at b11 F3
   have Hg:=zq hg
   clear h1 h2 h3 h4 h5 hp hs ht hq hS4 hg C1p WK Z5 F2 HCr Pd hk EJ ES
   cases S3
   all_goals
    simp only [nZ,Bool.true_or] at F3
    gi_upto_region 8 with (fail)
   all_goals
    obtain ⟨X,hX⟩:=nm S4
    have hx:=F3.o
    rw [hX] at hx HS4
    have hxe:=congrArg (fun z=>W.setCell ⟨SB,0,δ⟩ (ω z)) hx
    rw [<- hxe]
    clear hxe
    clear F3 hX
    have O8:=HQ.o.other (a:=⟨SB,0,δ⟩) (ω X) Hqn.o
    have hs2:=H2.o.set 0 (ω X)
    have Pw:=H1.o.other (a:=⟨SB,0,δ⟩) (ω X) (by show RB ≠ SB; have:=HSB.o; omega)
    have Bo:=H4.o.setCell H2.o 0 (ω X)
    have hb2:=H3.o.setCell (p:=⟨SB,0,δ⟩) (by show w.heap.size <= SB; have:=HSB.o; have:=ql.o; omega) (ω X)
    have hF:=(dA W ⟨SB,0,δ⟩ (ω X)).from W1.heap.size
    have hG:=eK.setCell (W:=W) (a:=⟨SB,0,δ⟩) Og (ω X)
    have hw2:∀ j,sQ Bs ar n j -> j < (W.setCell ⟨SB,0,δ⟩ (ω X)).heap.size:=fun j hj=>by rw [World.size_setCell]; exact Hrw.o j hj
    simp only [aX,bU] at hs2
    generalize W.setCell ⟨SB,0,δ⟩ (ω X)=V at *
    have Hs2:=zq hs2
    have Hr2:=zq Pw
    have Hm2:=zq Bo
    have jo:=zq hb2
    have HF:=zq hF
    have HG:=zq hG
    have Hw2:=zq hw2
    have GX:=zq O8
    have Hne:=zq Og
    clear O8 hs2 Pw Bo hb2 hF hG hw2 H1 H2 H3 H4 HQ Hqn f0 z0 lS b11 hx
    gi_wp2_with (refine ldI 212 q 0 (I7 p s t) (GX.o.range 0 21 rfl) ?_)
    refine ⟨trivial,(Calls.round (ag.o _) _ _).mono ?_⟩
    rintro e V3 ⟨rfl,hb3⟩
    have h1:=Hr2.o.below hb3 Hr2.o.lt
    have hq3:=GX.o.below hb3 GX.o.lt
    have b4:=hq3.ce 4
    have b5:=hq3.ce 5
    have b11:=hq3.ce 11
    have b12:=hq3.ce 12
    have r0:=h1.ce 0
    have rz:=h1.fz 0
    have lr:=h1.lt
    rw [Hg.o] at b11
    have H1:=zq h1
    have H2:=Hs2.bb hb3
    have PN:=zq (HF.o.trans ((gC hb3).from _))
    have HG3:=zq (HG.o.trans (eK.below (ks:=sQ Bs ar n) hb3 Hw2.o))
    have H3:=jo.bS hb3
    have H4:=zq (Hm2.o.below hb3)
    have HF4:=zq (PN.o.trans ((dA V3 ⟨RB,0,δ⟩ (ω ν)).from _))
    have q7:=H1.o.set 0 (ω ν)
    simp only [aX,bU] at q7
    have HQ7:=zq q7
    have Dx:=zq (H3.o.setCell (p:=⟨RB,0,δ⟩) (by show w.heap.size <= RB; exact qU ql.o) (ω ν))
    have HM7:=zq (H4.o.setCell H1.o 0 (ω ν))
    clear q7 h1 hq3 hb3 Hr2 Hs2 Hm2 jo HF HG Hw2 GX
    have hx:aQ (∀ b,anyN (jnX l) (k+1)=b -> b=ν /\ anyN (jnX l) (k+1)=ν \/ b=ι /\ anyN (jnX l) n=ι):=fun b hb=>by
     cases b
     .exact .inl ⟨rfl,hb⟩
     .obtain ⟨j,h1,h2⟩:=eF.1 hb
      exact .inr ⟨rfl,eF.2 ⟨j,by have:=HK.o; omega,h2⟩⟩
    have hy:=zq (hx.o _ F1.o)
    clear hx F1
    unfold am6 at hy
    rw [Hg.o] at hy
    obtain ⟨c,hc⟩:=nm (p.plate != s.plate)
    obtain ⟨pg,hpg⟩:=nm p.gable
    have hc2:(s.plate != p.plate)=c:=by rw [<- hc,bne_comm]
    rw [hc,hpg] at hy
    rw [hpg] at b4
    clear hc hpg
    cases L <;> cases g <;> cases pg <;> cases c
    all_goals
     have hb:=hy.o
     simp at hb
     clear hy
     have Hb:=zq hb
     clear hb
     gi_wp2
     first
      | exact ⟨PN.o,HG3.o,H1.o,by rw [HS4.o]; exact H2.o,H3.o,H4.o,Hb.o⟩
      | exact ⟨HF4.o,rfl,HQ7.o,Dx.o,HM7.o,Hb.o⟩
      | (trace_state; fail)
  .obtain ⟨h1,h2,h3,h4,h5⟩:=hI
   have hj:JR=ν:=by rw [E1.o]; exact h5
   have PA:=zq (X4.o hj)
   have e2:bE W SB #[ω S2] 4:=by rw [E2.o]; exact h2
   rw [<- HS2.o] at e2
   have HS:=zq e2
   have H1:=zq h1
   have H3:=zq h3
   have H4:=zq (h4.cons (fM (cN (by have:=HBs.o; have:=ql.o; have:=HSB.o; omega) (fM Fv.o.lt))) hD hK)
   clear h1 h2 h3 h4 h5 e2 hj X4 X1r E1 E2
   go_wp2
   go_roundw
   .exact ⟨r+1,D :: Ds,_,_,_,_,_,_,_,rfl,hrN,PA.o,H1.o,HS.o,H3.o,H4.o⟩
   .show N - ((r:Int)+1).toNat < N - (r:Int).toNat
    omega
  .obtain ⟨rfl,h1,h3,h4,h5⟩:=hI
   have e:=zq (X1r.o (by rw [E1.o]; exact h5))
   have H1:=zq h1
   have H3:=zq h3
   have H4:=zq (h4.cons (fM (cN (by have:=HBs.o; have:=ql.o; have:=HSB.o; omega) (fM Fv.o.lt))) hD hK)
   clear h1 h3 h4 h5
   go_wp2
   exact af (Ds:=D :: Ds) rfl H4.o (fun V=>bE V RB #[ω ν] 4 /\ Bw w V) ⟨H1.o,H3.o⟩ (fun V X hX hV hx=>⟨hV.1.putObj _ hx rfl,hV.2.trans (tK hX hx)⟩)
    (fun V hV=>⟨oG rfl _ _ RB (ω ν) rfl (hV.1.cell 0) (EW _),by rw [e.o],hV.2⟩)
 .obtain rfl:N=r:=oM
  have e:=zq (X3.o HA.o)
  have s0:=HSb.o.ce 0
  have r0:=HRb.o.ce 0
  have rz:=HRb.o.fz 0
  have lr:=HRb.o.lt
  have q7:=HRb.o.set 0 (ω (anyN (Dc (aF rs)) N))
  simp only [aX,bU] at q7
  have HQ7:=zq q7
  have Dx:=zq (HB.o.setCell (p:=⟨RB,0,δ⟩) (by show w.heap.size <= RB; exact qU ql.o) (ω (anyN (Dc (aF rs)) N)))
  have HM7:=zq (HM.o.setCell HRb.o 0 (ω (anyN (Dc (aF rs)) N)))
  clear q7
  go_wp2
  exact af (Ds:=Ds) rfl HM7.o (fun V=>bE V RB #[ω (anyN (Dc (aF rs)) N)] 4 /\ Bw w V) ⟨HQ7.o,Dx.o⟩ (fun V X hX hV hx=>⟨hV.1.putObj _ hx rfl,hV.2.trans (tK hX hx)⟩)
   (fun V hV=>⟨oG rfl _ _ RB (ω (anyN (Dc (aF rs)) N)) rfl (hV.1.cell 0) (EW _),by rw [e.o],hV.2⟩)
end
end
section
open Go Go.RowKit Go.Lib
section
theorem an4:(Tryz.prog.info? 221).map (fun i=>(i.zero,i.size,i.bytes))=ζ (ζ (bQ #[Υ Ξ 0,Υ Ξ 0,Υ Ξ 0,Υ Ξ 0]),4,32):=kF
theorem ah:(Tryz.prog.info? 224).map (fun i=>(i.zero,i.size,i.bytes))=ζ (ζ (bQ #[Υ Ξ 0,Υ Ξ 0]),2,16):=kF
def KG(w:η)(row:Option Nat)(B:Nat)(T:cS):Prop:=∀j,row=ζ j->B<=j/\∃c,w.heap[j]? =ζ (π c T (0,0))
theorem KG.owns{n:Nat}{v:χ}(h:w.ownsRow B e size v n xs):KG w v.ownBlock B e:=fun j hj=>by
 rcases h.2 with⟨h,_⟩|⟨g,c,pZ,h,hB,k,_⟩
 .rw[h]at hj;cases hj
 .rw[h]at hj
  have e:g=j:=by simpa[Value.ownBlock]using hj
  subst e
  exact⟨hB,_,k⟩
theorem KG.blk{b T:Nat}(h:bE w b cs T)(hB:B<=b):KG w (ζ b) B T:=fun j hj=>by cases hj;exact⟨hB,_,h⟩
theorem Oi{b:Nat}{S B:cS}(h:bE w b cs S)(hg:w.grownBy w' row)(hr:KG w row B T)(hne:S≠T):bE w' b cs S:=
 (hg.block b h.lt (fun e=>by
  obtain⟨_,c,hc⟩:=hr b e.symm
  have h':w.heap[b]? =ζ (π cs S (0,0)):=h
  rw[h']at hc
  injection hc with hc
  injection hc with _ hc
  exact hne hc)).trans h
theorem RK{n T:Nat}{v:χ}(h:w.ownsRow B e size v n xs)(hg:w.grownBy w' row)(hr:KG w row B' T)(hne:e≠T):w'.ownsRow B e size v n xs:=by
 refine⟨h.1,?_⟩;rcases h.2 with h1|⟨g,cap,pZ,hv,hb,hh,r⟩
 .exact .inl h1
 .exact .inr ⟨g,cap,pZ,hv,hb,Oi (cs:=pZ) hh hg hr hne,r⟩
theorem Mk.growT{T:Nat}(h:Mk B E Ds w)(hg:w.grownBy w' row)(hr:KG w row B' T):Mk B E Ds w':=
 ⟨h.1,fun D hD=>⟨(h.2 D hD).1,(h.2 D hD).2.1,by
  have hd:=(h.2 D hD).2.2
  refine(hg.block D (Array.getElem?_eq_some_iff.1 hd).1 fun e=>?_).trans hd
  obtain⟨_,c,hc⟩:=hr D e.symm
  rw[hc]at hd;cases hd⟩⟩
theorem aV4{T:Nat}(hg:w.grownBy w' row)(hr:KG w row B T):iB E w w':=
 (FN hg fun j o e ho=>by
  obtain⟨_,c,hc⟩:=hr j e
  rw[hc]at ho;cases ho;rfl).from _
variable{P3 P4 P5 q E Bs n nr cr:Nat}{ar:Option bW}{Ds:List Nat}{w0 W:η}{rv kv v1 v2 bxv plv:χ}{qa ba pa:Array χ}{bx pl:List χ}
structure CrK(E Bs:Nat)(ar:Option bW)(nr cr:Nat)(Ds:List Nat)(w0 W:η)(P5:Nat)(rv:χ)(q:Nat)(qa:Array χ)(w:η):Prop where
 k1:iB E W w
 k2:eK (sQ Bs ar nr) W w
 k3:Bw w0 w
 k4:Mk w0.heap.size E Ds w
 k5:bE w Bs #[Θ ar nr cr] 81
 k6:bE w P5 #[rv] 3
 k7:bE w q qa 212
theorem CrK.below(h:CrK E Bs ar nr cr Ds w0 W P5 rv q qa w)(Pd:∀j,sQ Bs ar nr j->j<W.heap.size)(hb:Bw w w'):CrK E Bs ar nr cr Ds w0 W P5 rv q qa w':=
 ⟨h.k1.trans ((gC hb).from _),h.k2.trans (eK.below hb fun j hj=>cN (Pd j hj) h.k1.size),aW h.k3 hb,h.k4.below hb,h.k5.below hb h.k5.lt,h.k6.below hb h.k6.lt,h.k7.below hb h.k7.lt⟩
theorem CrK.grow(h:CrK E Bs ar nr cr Ds w0 W P5 rv q qa w)(hp:∀p,0<nr->ar=ζ p->p.block<w0.heap.size)(hg:w.grownBy w' row)(hr:KG w row w0.heap.size T)(h1:81≠T)(h2:3≠T)(h3:212≠T):CrK E Bs ar nr cr Ds w0 W P5 rv q qa w':=by
 have n5:=Oi h.k5 hg hr h1;refine⟨h.k1.trans (aV4 hg hr),h.k2.trans fun j hj=>?_,h.k3.grown hg h.k3.size fun k hk=>(hr k hk).1,h.k4.growT hg hr,n5,Oi h.k6 hg hr h2,Oi h.k7 hg hr h3⟩
 .rcases hj with rfl|⟨h0,p,e,rfl⟩
  .exact Eq.trans n5 (Eq.symm h.k5)
  .have hlt:=hp p h0 e;exact hg.block _ (cN hlt h.k3.size) (fun e=>by have:=(hr _ e.symm).1;omega)
def CrU(v1 v2 rv kv bxv plv:χ)(qa:Array χ):Nat->χ->Prop
 |0,v=>v=v1
 |1,v=>v=bQ qa
 |2,v=>v=bxv
 |5,v=>v=v2
 |6,v=>v=rv
 |7,v=>v=kv
 |8,v=>v=plv
 |_,_=>True
structure Pe(n:Nat)(bx pl:List χ)(v1 v2 kv:χ)(ba pa:Array χ)(P3 P4:Nat)(E Bs:Nat)(ar:Option bW)(nr cr:Nat)(Ds:List Nat)(w0 W:η)(P5:Nat)(rv:χ)(q:Nat)(qa:Array χ)
 (d:Nat->Bool)(u:Nat->χ)(w:η):Prop where
 vals:∀j,d j=ι->CrU v1 v2 rv kv (bQ ba) (bQ pa) qa j (u j)
 m3:d 3=ι->d 4=ν->∃g,u 3=Θ (ζ ⟨g,0,δ⟩) 1 1/\bE w g ba 221
 m9:d 9=ι->d 10=ν->∃g,u 9=Θ (ζ ⟨g,0,δ⟩) 1 1/\bE w g pa 224
 r3:w.ownsRow w0.heap.size 221 4 (if d 4=ι then u 4 else v1) (if d 4=ι then n+1 else n) (if d 4=ι then bx++ba.toList else bx)
 r4:w.ownsRow w0.heap.size 224 2 (if d 10=ι then u 10 else v2) (if d 10=ι then n+1 else n) (if d 10=ι then pl++pa.toList else pl)
 b3:bE w P3 #[if d 11=ι then u 4 else v1] 218
 b4:bE w P4 #[if d 12=ι then u 10 else v2] 219
 k:CrK E Bs ar nr cr Ds w0 W P5 rv q qa w
variable{d:Nat->Bool}{u:Nat->χ}{w w':η}
abbrev MK(u:Nat->χ)(i:Nat)(v:χ):Nat->χ:=fun j=>if j=i then v else u j
abbrev js(d:Nat->Bool)(i:Nat):Nat->Bool:=fun j=>if j=i then ι else d j
theorem De{p:Nat->χ->Prop}{v:χ}(h:∀j,d j=ι->p j (u j))(hv:p i v):∀j,js d i j=ι->p j (MK u i v j):=fun j hj=>by
 unfold js at hj
 unfold MK
 by_cases e:j=i
 .subst e;rw[ip rfl];exact hv
 .rw[iN e]at hj|-;exact h j hj
theorem Pe.quiet(h:Pe n bx pl v1 v2 kv ba pa P3 P4 E Bs ar nr cr Ds w0 W P5 rv q qa d u w)(Pd:∀j,sQ Bs ar nr j->j<W.heap.size)(i v)(hi:(i=3\/i=4\/i=9\/i=10\/i=11\/i=12)->False)(hv:CrU v1 v2 rv kv (bQ ba) (bQ pa) qa i v)(hb:Bw w w'):
 Pe n bx pl v1 v2 kv ba pa P3 P4 E Bs ar nr cr Ds w0 W P5 rv q qa (js d i) (MK u i v) w':=by
 have e3:(3:Nat)≠i:=fun e=>hi (.inl e.symm);have e4:(4:Nat)≠i:=fun e=>hi (.inr (.inl e.symm));have e9:(9:Nat)≠i:=fun e=>hi (.inr (.inr (.inl e.symm)));have e10:(10:Nat)≠i:=fun e=>hi (.inr (.inr (.inr (.inl e.symm))));have e11:(11:Nat)≠i:=fun e=>hi (.inr (.inr (.inr (.inr (.inl e.symm)))));have e12:(12:Nat)≠i:=fun e=>hi (.inr (.inr (.inr (.inr (.inr e.symm)))));refine⟨De h.vals hv,?_,?_,?_,?_,?_,?_,h.k.below Pd hb⟩<;>simp only[js,MK,iN e3,iN e4,iN e9,iN e10,iN e11,iN e12]
 .intro h1 h2;obtain⟨g,e,hg⟩:=h.m3 h1 h2;exact⟨g,e,hg.below hb hg.lt⟩
 .intro h1 h2;obtain⟨g,e,hg⟩:=h.m9 h1 h2;exact⟨g,e,hg.below hb hg.lt⟩
 .exact aR h.r3 hb
 .exact aR h.r4 hb
 .exact h.b3.below hb h.b3.lt
 .exact h.b4.below hb h.b4.lt
theorem Pe.made3(h:Pe n bx pl v1 v2 kv ba pa P3 P4 E Bs ar nr cr Ds w0 W P5 rv q qa d u w)(Pd:∀j,sQ Bs ar nr j->j<W.heap.size):
 Pe n bx pl v1 v2 kv ba pa P3 P4 E Bs ar nr cr Ds w0 W P5 rv q qa (js d 3) (MK u 3 (Θ (ζ ⟨w.heap.size,0,δ⟩) 1 1)) (w.alloc (π ba 221)):=by
 have hb:Bw w (w.alloc (π ba 221)):=nA _ _;refine⟨De h.vals trivial,fun _ _=>⟨_,rfl,bE.new _ _ _⟩,?_,aR h.r3 hb,aR h.r4 hb,h.b3.below hb h.b3.lt,h.b4.below hb h.b4.lt,h.k.below Pd hb⟩;intro h1 h2;obtain⟨g,e,hg⟩:=h.m9 h1 h2;exact⟨g,e,hg.below hb hg.lt⟩
theorem Pe.made9(h:Pe n bx pl v1 v2 kv ba pa P3 P4 E Bs ar nr cr Ds w0 W P5 rv q qa d u w)(Pd:∀j,sQ Bs ar nr j->j<W.heap.size):
 Pe n bx pl v1 v2 kv ba pa P3 P4 E Bs ar nr cr Ds w0 W P5 rv q qa (js d 9) (MK u 9 (Θ (ζ ⟨w.heap.size,0,δ⟩) 1 1)) (w.alloc (π pa 224)):=by
 have hb:Bw w (w.alloc (π pa 224)):=nA _ _;refine⟨De h.vals trivial,?_,fun _ _=>⟨_,rfl,bE.new _ _ _⟩,aR h.r3 hb,aR h.r4 hb,h.b3.below hb h.b3.lt,h.b4.below hb h.b4.lt,h.k.below Pd hb⟩;intro h1 h2;obtain⟨g,e,hg⟩:=h.m3 h1 h2;exact⟨g,e,hg.below hb hg.lt⟩
theorem Pe.app4(h:Pe n bx pl v1 v2 kv ba pa P3 P4 E Bs ar nr cr Ds w0 W P5 rv q qa d u w)(hp:∀p,0<nr->ar=ζ p->p.block<w0.heap.size)(h11:d 11=ν){v:χ}(ho:w'.ownsRow w0.heap.size 221 4 v (n+1) (bx++ba.toList))(h4:d 4=ν)(hg:w.grownBy w' v1.ownBlock):Pe n bx pl v1 v2 kv ba pa P3 P4 E Bs ar nr cr Ds w0 W P5 rv q qa (js d 4) (MK u 4 v) w':=by
 have r3:=h.r3;rw[h4]at r3;have hr:=KG.owns r3;refine⟨De h.vals trivial,fun _ h2=>by simp[js]at h2,?_,ho,RK h.r4 hg hr dD,?_,Oi h.b4 hg hr dD,h.k.grow hp hg hr dD dD dD⟩
 .intro h1 h2;obtain⟨g,e,hgb⟩:=h.m9 h1 h2;exact⟨g,e,Oi hgb hg hr dD⟩
 .have b3:=Oi h.b3 hg hr dD;show bE w' P3 #[if d 11=ι then _ else v1] _;rw[h11]at b3|-;exact b3
theorem Pe.app10(h:Pe n bx pl v1 v2 kv ba pa P3 P4 E Bs ar nr cr Ds w0 W P5 rv q qa d u w)(hp:∀p,0<nr->ar=ζ p->p.block<w0.heap.size)(Oj:d 12=ν)(h4:d 4=ι){v:χ}(ho:w'.ownsRow w0.heap.size 224 2 v (n+1) (pl++pa.toList))(wh:d 10=ν)(hg:w.grownBy w' v2.ownBlock):Pe n bx pl v1 v2 kv ba pa P3 P4 E Bs ar nr cr Ds w0 W P5 rv q qa (js d 10) (MK u 10 v) w':=by
 have r4:=h.r4;rw[wh]at r4;have hr:=KG.owns r4;refine⟨De h.vals trivial,fun _ h2=>?_,fun _ h2=>by simp[js]at h2,RK h.r3 hg hr dD,ho,Oi h.b3 hg hr dD,?_,h.k.grow hp hg hr dD dD dD⟩
 .have h2:d 4=ν:=h2;rw[h4]at h2;cases h2
 .have b4:=Oi h.b4 hg hr dD;show bE w' P4 #[if d 12=ι then _ else v2] _;rw[Oj]at b4|-;exact b4
theorem Pe.sto11(h:Pe n bx pl v1 v2 kv ba pa P3 P4 E Bs ar nr cr Ds w0 W P5 rv q qa d u w)(hp:∀p,0<nr->ar=ζ p->p.block<w0.heap.size)(h3:w0.heap.size<=P3)(v)(h4:d 4=ι)(wh:d 10=ι):
 Pe n bx pl v1 v2 kv ba pa P3 P4 E Bs ar nr cr Ds w0 W P5 rv q qa (js d 11) (MK u 11 v) (w.setCell ⟨P3,0,δ⟩ (u 4)):=by
 have hr:=KG.blk h.b3 h3;have hg:=grownBy_setCell' w P3 (u 4);refine⟨De h.vals trivial,fun _ h2=>?_,fun _ h2=>?_,RK h.r3 hg hr dD,RK h.r4 hg hr dD,?_,Oi h.b4 hg hr dD,h.k.grow hp hg hr dD dD dD⟩
 .have h2:d 4=ν:=h2;rw[h4]at h2;cases h2
 .have h2:d 10=ν:=h2;rw[wh]at h2;cases h2
 .exact h.b3.set 0 (u 4)
theorem Pe.sto12(h:Pe n bx pl v1 v2 kv ba pa P3 P4 E Bs ar nr cr Ds w0 W P5 rv q qa d u w)(hp:∀p,0<nr->ar=ζ p->p.block<w0.heap.size)(h3:w0.heap.size<=P4)(v)(h4:d 4=ι)(wh:d 10=ι):
 Pe n bx pl v1 v2 kv ba pa P3 P4 E Bs ar nr cr Ds w0 W P5 rv q qa (js d 12) (MK u 12 v) (w.setCell ⟨P4,0,δ⟩ (u 10)):=by
 have hr:=KG.blk h.b4 h3;have hg:=grownBy_setCell' w P4 (u 10);refine⟨De h.vals trivial,fun _ h2=>?_,fun _ h2=>?_,RK h.r3 hg hr dD,RK h.r4 hg hr dD,Oi h.b3 hg hr dD,?_,h.k.grow hp hg hr dD dD dD⟩
 .have h2:d 4=ν:=h2;rw[h4]at h2;cases h2
 .have h2:d 10=ν:=h2;rw[wh]at h2;cases h2
 .exact h.b4.set 0 (u 10)
end
end
section
open Go Go.RowKit Go.Shelf Go.Lib
section
attribute[local go_sem] eQ
theorem E5{n:Nat}{v:χ}(h:W.ownsRow cH e size v n xs):∃a c,v=Θ a n c:=by
 rcases h.2 with⟨h,h0⟩|⟨g,c,pZ,h,_⟩
 .exact⟨δ,0,by rw[h,h0]⟩
 .exact⟨_,_,h⟩
theorem World.rangeAt_of4{V:η}{g:Nat}{l:List χ}(h:∀j,j<4->V.cell? ⟨g,s+j,δ⟩=l[j]?)(hl:l.length=4:=by rfl):V.rangeAt g s l:=fun j v hv=>by
 have hj:j<4:=by rw[<-hl];exact(List.getElem?_eq_some_iff.1 hv).1
 rw[h j hj,hv]
structure CrV(P3 P4 B n:Nat)(bx pl:List χ)(v1 v2:χ)(W:η):Prop where
 b3:bE W P3 #[v1] 218
 b4:bE W P4 #[v2] 219
 r3:W.ownsRow B 221 4 v1 n bx
 r4:W.ownsRow B 224 2 v2 n pl
theorem CrV.below{n:Nat}(h:CrV P3 P4 B n bx pl v1 v2 W)(hb:Bw W W'):CrV P3 P4 B n bx pl v1 v2 W':=
 ⟨h.b3.below hb h.b3.lt,h.b4.below hb h.b4.lt,aR h.r3 hb,aR h.r4 hb⟩
theorem CrV.own{n:Nat}(h:CrV P3 P4 B n bx pl v1 v2 W)(hg:W.grownBy W' row)(hr:∀r,row=ζ r->∃o:Obj,W.heap[r]? =ζ o/\o.isCells=ν):CrV P3 P4 B n bx pl v1 v2 W':=
 ⟨h.b3.own hg hr,h.b4.own hg hr,mE h.r3 hg hr,mE h.r4 hg hr⟩
def CrS(P3 P4 B:Nat)(f:Nat->List Sd)(l:List (Nat×Nat))(W:η):Prop:=∃v1 v2,CrV P3 P4 B l.length (bxs f l) (pls l) v1 v2 W
theorem CrS.below{f:Nat->List Sd}{l:List (Nat×Nat)}(h:CrS P3 P4 B f l W)(hb:Bw W W'):CrS P3 P4 B f l W':=by
 obtain⟨v1,v2,h⟩:=h;exact⟨v1,v2,h.below hb⟩
theorem CrS.own{f:Nat->List Sd}{l:β->List (Nat×Nat)}:Own (fun s W=>CrS P3 P4 B f (l s) W):=fun s W W' row h hg hr=>by
 obtain⟨v1,v2,h⟩:=h;exact⟨v1,v2,h.own hg hr⟩
theorem ai(a N cap rs w)(hl : rs.length = N)(hN : N <= 1000)(hn : ∀ r, (aF rs r).length <= 1000)(rr : GB w a rs)(hc : bY (aF rs) N <= 24)(h0 : EO (aF rs) N = ν):
 aE γ 98 #[Θ a N cap] w (Rt (ω ν) w):=by
 have HR:=zq rr
 have HL:=zq hl
 have HN:=zq hn
 have H0:=zq h0
 have IU:aQ (∀ j,j <= N -> bY (aF rs) j <= 24):=fun j hj=>aA (sW hj) hc
 clear rr hl hn hc h0
 obtain ⟨W0,fI⟩:=nm ((w.alloc (π #[Θ δ 0 0] 218)).alloc (π #[Θ δ 0 0] 219))
 obtain ⟨n3,n4,nb⟩:=Of fI
 have hs:CrS w.heap.size (w.heap.size+1) w.heap.size (aF rs) (Dd (aF rs) 0) W0:=⟨_,_,n3,n4,rN _ _ _ _,rN _ _ _ _⟩
 have HW:=zq fI
 have gH:=zq nb
 obtain ⟨P3,hP3⟩:=nm w.heap.size
 rw (config:={occs:=.pos [1,2]}) [hP3] at hs
 obtain ⟨P4,hP4⟩:=nm (P3+1)
 rw [hP4] at hs
 have HP3:=zq hP3
 have HP4:=zq hP4
 have HS0:=zq hs
 clear fI nb n3 n4 hs
 refine eE func98 rfl ?_
 simp only [ntmps98,bI,aC,bB,cL,dF,bG,bH,cE,bN,cM,bV]
 go_upto_region 3 with (fail)
 rw [HW.o]
 clear HW hP3 hP4
 go_wp2
 refine wp_loop (fun a' w'=>∃ (r:Nat) (Ds:List Nat) (u5 u6 u17 u18 u19 u20 u21 u22 u36:χ),a'={ tmps:=#[Θ a N cap,ψ,ω ν,aB (ζ ⟨P3,0,δ⟩),aB (ζ ⟨P4,0,δ⟩),u5,u6,ψ,ψ,ψ,ψ,ψ,ψ,ψ,Θ a N cap,Υ Ξ N,Υ Ξ r,u17,u18,u19,u20,u21,u22,ψ,ψ,ψ,ψ,ψ,ψ,ψ,ψ,ψ,ψ,ψ,ψ,ψ,u36,ψ,ψ,ψ,ψ,ψ,ψ,ψ,ψ,ψ,ψ,ψ,ψ,ψ,ψ,ψ,ψ,ψ,ψ,ψ,ψ,ψ,ψ,ψ,ψ,ψ,ψ,ψ,ψ,ψ,ψ,ψ,ψ,ψ,ψ,ψ,ψ,ψ,ψ,ψ,ψ,ψ,ψ,ψ,ψ,ψ,ψ,ψ,ψ,ψ,ψ,ψ,ψ,ψ,ψ,ψ,ψ,ψ,ψ,ψ,ψ,ψ,ψ,ψ,ψ,ψ],defers:=Ds.map mkD } /\
  r <= N /\ aQ (CrS P3 P4 w.heap.size (aF rs) (Dd (aF rs) r) w') /\ aQ (Bw w w') /\ aQ (Mk w.heap.size w'.heap.size Ds w'))
  (fun a' _=>N - (ξ (a'.tmps.getD 16 ψ)).toNat) ⟨0,[],ψ,ψ,ψ,ψ,ψ,ψ,ψ,ψ,ψ,rfl,aP _,HS0.o,gH.o,Mk.nil _ _ _⟩ ?_
 clear HS0 gH
 rintro _ wr ⟨r,Ds,u5,u6,u17,u18,u19,u20,u21,u22,u36,rfl,hr,HS,HB,HM⟩
 by_cases hrN:r < N
 .obtain ⟨b,o,rfl,c0,RD⟩:=(HR.o.below HB.o).at (i:=r) (by rw [HL.o]; exact hrN) rfl
  rw [show (rs.getD r Γ).ss.length=(aF rs r).length from rfl] at c0
  have GD:=zq RD
  have VH:aQ (∀ p,0 < (aF rs r).length -> (rs.getD r Γ).a=ζ p -> p.block < w.heap.size):=fun p h0 e=>by
   obtain ⟨b',o',e1,-,rs1⟩:=HR.o.at (i:=r) (by rw [HL.o]; exact hrN) rfl
   obtain ⟨b2,o2,e2,c⟩:=rs1 0 h0
   rw [e] at e2; injection e2 with e2; subst e2
   exact aD w _ (c 0 dD)
  have E1:aQ (Dd (aF rs) (r+1)=Dd (aF rs) r ++ UD r (aF rs r).length):=rfl
  have LK:=IU.o (r+1) hrN
  have E2:aQ (bY (aF rs) (r+1)=bY (aF rs) r+(aF rs r).length):=rfl
  rw [E2.o] at LK
  have hal:=FA (aF rs) r
  have LB:=HN.o r
  rw [show (rs.getD r Γ).ss=aF rs r from rfl] at GD
  have HF:aQ (∀ k,bxC (aF rs) (r,k)=[Υ Ξ (DB ((aF rs r).getD k Γ).x (fR (aF rs r) k).x),Υ Ξ (DB ((aF rs r).getD k Γ).y (fR (aF rs r) k).y),Υ Ξ (DC ((aF rs r).getD k Γ).x (fR (aF rs r) k).x),Υ Ξ (DC ((aF rs r).getD k Γ).y (fR (aF rs r) k).y)]):=fun k=>rfl
  clear RD
  obtain ⟨l,hl⟩:=nm (aF rs r)
  rw [hl] at E1 E2 LK LB GD VH c0 HF
  obtain ⟨n,hln⟩:=nm l.length
  rw [hln] at E1 E2 LK LB VH c0
  have HLn:=zq hln
  clear hl hln
  generalize (rs.getD r Γ).a=ar at *
  generalize (rs.getD r Γ).cap=cr at *
  obtain ⟨A1,Yw⟩:=nm (Dd (aF rs) (r+1))
  rw [Yw] at E1
  have Uw:=zq Yw
  clear Yw
  generalize Dd (aF rs) r=A0 at *
  generalize bY (aF rs) r=C0 at *
  clear E2
  obtain ⟨W1,tZ⟩:=nm (wr.alloc (π #[Υ Ξ r] 3))
  have hb1:=nA wr (π #[Υ Ξ r] 3)
  have hq1:=bE.new wr #[Υ Ξ r] 3
  rw [tZ] at hb1 hq1
  have HW1:=zq tZ
  have O9:=zq (HS.o.below hb1)
  have eG:=HB.bS hb1
  have HM1:=zq ((HM.o.below hb1).grow hb1.size)
  have CG:=zq (GD.o.below hb1)
  have DP:=zq hq1
  have bq6:aQ (w.heap.size <= wr.heap.size):=HB.o.size
  clear tZ hb1 hq1 HS HB HM GD
  obtain ⟨P5,hP5⟩:=nm wr.heap.size
  have HP5:aQ (wr.heap.size=P5):=hP5
  go_upto_region 6 with (fail)
  rw [HW1.o]
  clear HW1
  rw [hP5] at DP
  have HPB:aQ (P5 < W1.heap.size):=DP.o.lt
  have ir:aQ (w.heap.size <= P5):=by rw [<- hP5]; exact bq6.o
  clear hP5
  go_wp2_with fail
  refine ka (EQ ar n cr W1) fun W3 hW3=>?_
  have hb3:Bw W1 W3:=by rw [hW3]; exact nA _ _
  have hq3:bE W3 W1.heap.size #[Θ ar n cr] 81:=by rw [hW3]; exact bE.new _ _ _
  have HS3:=zq (O9.o.below hb3)
  have HB3:=eG.bS hb3
  have HM3:=zq ((HM1.o.below hb3).grow hb3.size)
  have FX:=zq (CG.o.below hb3)
  have Q7:=zq hq3
  have bq7:=DP.bb hb3
  have HBs:aQ (w.heap.size <= W1.heap.size):=eG.o.size
  clear hb3 hq3 hW3 O9 eG HM1 CG DP c0
  generalize W1.heap.size=Bs at *
  go_wp2_with fail
  refine EU Bs ar n cr l rfl HLn.o LB (Q7.o.cell 0) FX.o
   (fun k W=>CrS P3 P4 w.heap.size (aF rs) (A0 ++ UD r k) W /\ bE W P5 #[Υ Ξ r] 3 /\ bE W Bs #[Θ ar n cr] 81 /\ Bw w W /\ Mk w.heap.size W3.heap.size Ds W)
   (fun c _ W=>False)
   (eJ (Own.from CrS.own _) (eJ (Own.from (fun s A B row hs hg hr=>hs.own hg hr) _) (eJ (Own.from (fun s A B row hs hg hr=>hs.own hg hr) _) (eJ (qO (θ _) HB3.o.size) Mk.from))))
   (fun c _ _ _ _ hs _ _=>hs)
   ⟨by rw [show A0 ++ UD r 0=A0 from kQ _]; exact HS3.o,bq7.o,Q7.o,HB3.o,HM3.o⟩
   (fun k Q ar'=>{ tmps:=#[Θ (ζ ⟨b,o,δ⟩) N cap,ψ,ω ν,aB (ζ ⟨P3,0,δ⟩),aB (ζ ⟨P4,0,δ⟩),aB (ζ ⟨P5,0,δ⟩),Θ ar n cr,Υ Ξ k,aB (ζ ⟨Q,0,δ⟩),ψ,ψ,ψ,ψ,ψ,Θ (ζ ⟨b,o,δ⟩) N cap,Υ Ξ N,Υ Ξ r,ω ι,Υ Ξ r,aB (ζ ⟨b,o+r,δ⟩),Θ ar n cr,Θ ar n cr,.func (.func 189) #[] #[aB (ζ ⟨Bs,0,δ⟩)],Υ Ξ k,bQ ar',ψ,ψ,ψ,ψ,ψ,ψ,ψ,ψ,ψ,ψ,ψ,u36,ψ,ψ,ψ,ψ,ψ,ψ,ψ,ψ,ψ,ψ,ψ,ψ,ψ,ψ,ψ,ψ,ψ,ψ,ψ,ψ,ψ,ψ,ψ,ψ,ψ,ψ,ψ,ψ,ψ,ψ,ψ,ψ,ψ,ψ,ψ,ψ,ψ,ψ,ψ,ψ,ψ,ψ,ψ,ψ,ψ,ψ,ψ,ψ,ψ,ψ,ψ,ψ,ψ,ψ,ψ,ψ,ψ,ψ,ψ,ψ,ψ,ψ,ψ,ψ,ψ],defers:=[] })
   (fun ly k p s t W K hk hK=>?_) (fun ly k Q p s t W hk hp hs ht hq QJ Pd hI=>?_) (fun D W hD hI hK=>?_) (fun D c k W _ _ h _=>absurd h (fun h=>h))
  .gi_upto_region 8 with (fail)
   refine Ag arZ (I7 p s t) rfl ?_
   show K _ _
   simpa only [oQ,aX,bU,cR] using hK
  .obtain ⟨h1,h2,h3,h4,h5⟩:=hI
   obtain ⟨v1,v2,h1⟩:=h1
   have hAl:(A0 ++ UD r k).length=C0+k:=by rw [aJ,hal,TN]
   rw [hAl] at h1
   have X1:=zq h1
   have X2:=zq h2
   have X3:=zq h3
   have X4:=zq h4
   have X5:=zq h5
   have XQ:=zq hq
   have Xrw:=zq Pd
   have Re:aQ (bxC (aF rs) (r,k)=[Υ Ξ (DB s.x t.x),Υ Ξ (DB s.y t.y),Υ Ξ (DC s.x t.x),Υ Ξ (DC s.y t.y)]):=by rw [HF.o,hs,ht]; exact zq rfl
   have Hbx:=zq (fun W=>an2 p s t W)
   have EB:aQ (bxs (aF rs) (A0 ++ UD r (k+1))=bxs (aF rs) (A0 ++ UD r k) ++ [Υ Ξ (DB s.x t.x),Υ Ξ (DB s.y t.y),Υ Ξ (DC s.x t.x),Υ Ξ (DC s.y t.y)]):=by
    show _=_
    rw [WM,<- sI,aE2,show bxs (aF rs) [(r,k)]=bxC (aF rs) (r,k) from kQ _,Re.o]
   have EP:aQ (pls (A0 ++ UD r (k+1))=pls (A0 ++ UD r k) ++ [Υ Ξ r,Υ Ξ k]):=by
    show _=_
    rw [WM,<- sI,aE3]; rfl
   have EL:aQ ((A0 ++ UD r (k+1)).length=C0+k+1):=by show _=_; rw [aJ,hal,TN]; omega
   generalize bxs (aF rs) (A0 ++ UD r k)=bx at *
   generalize pls (A0 ++ UD r k)=pl at *
   generalize DB s.x t.x=b0 at *
   generalize DB s.y t.y=b1 at *
   generalize DC s.x t.x=b2 at *
   generalize DC s.y t.y=b3 at *
   clear h1 h2 h3 h4 h5 hq Pd hp hs ht QJ HF
   have Hp4:aQ (∀ p,0 < n -> ar=ζ p -> p.block < w.heap.size):=VH.o
   have Hp3:aQ (w.heap.size <= P3):=qU HP3.o
   have Hp5:aQ (w.heap.size <= P4):=by have:=HP3.o; have:=HP4.o; show _ <= _; omega
   gi_wp2
   refine Ky (fun d a' w'=>∃ u:Nat -> χ,a'={ tmps:=#[Θ (ζ ⟨b,o,δ⟩) N cap,ψ,ω ν,aB (ζ ⟨P3,0,δ⟩),aB (ζ ⟨P4,0,δ⟩),aB (ζ ⟨P5,0,δ⟩),Θ ar n cr,Υ Ξ k,aB (ζ ⟨Q,0,δ⟩),ψ,ψ,ψ,ψ,ψ,Θ (ζ ⟨b,o,δ⟩) N cap,Υ Ξ N,Υ Ξ r,ω ι,Υ Ξ r,aB (ζ ⟨b,o+r,δ⟩),Θ ar n cr,Θ ar n cr,.func (.func 189) #[] #[aB (ζ ⟨Bs,0,δ⟩)],Υ Ξ k,bQ (I7 p s t),u 0,u 1,u 2,u 3,u 4,u 5,u 6,u 7,u 8,u 9,u 10,u36,ψ,ψ,ψ,ψ,ψ,ψ,ψ,ψ,ψ,ψ,ψ,ψ,ψ,ψ,ψ,ψ,ψ,ψ,ψ,ψ,ψ,ψ,ψ,ψ,ψ,ψ,ψ,ψ,ψ,ψ,ψ,ψ,ψ,ψ,ψ,ψ,ψ,ψ,ψ,ψ,ψ,ψ,ψ,ψ,ψ,ψ,ψ,ψ,ψ,ψ,ψ,ψ,ψ,ψ,ψ,ψ,ψ,ψ,ψ,ψ,ψ,ψ,ψ,ψ,ψ],defers:=[] } /\ Pe (C0+k) bx pl v1 v2 (Υ Ξ k) #[Υ Ξ b0,Υ Ξ b1,Υ Ξ b2,Υ Ξ b3] #[Υ Ξ r,Υ Ξ k] P3 P4 W3.heap.size Bs ar n cr Ds w W P5 (Υ Ξ r) Q (I7 p s t) d u w')
    ⟨fun _=>ψ,rfl,⟨fun _ h=>by (cases h),fun h=>by (cases h),fun h=>by (cases h),X1.o.r3,X1.o.r4,X1.o.b3,X1.o.b4,⟨(KeepsOthers.drew W).from _,fun _ _=>rfl,X4.o.drew,X5.o,X3.o,X2.o,XQ.o⟩⟩⟩ ?_ ?_
   .rintro d _ w' i oi ho ⟨u,rfl,H⟩ hd hneed hcl K hK
    have hi:i < 13:=(Array.getElem?_eq_some_iff.1 ho).1
    have hm:∀ k,List.elem k (GA .any _ i)=ι -> d k=ι:=fun k h=>hneed k (List.elem_iff.1 h)
    have hu:∀ j,List.elem i (GA .any _ j)=ι -> d j=ν:=fun j h=>by
     cases e:d j with
     | false=>rfl
     | true=>have:=hcl j e i (List.elem_iff.1 h); rw [hd] at this; cases this
    clear hneed hcl
    obtain rfl | rfl | rfl | rfl | rfl | rfl | rfl | rfl | rfl | rfl | rfl | rfl | rfl:i=0 \/ i=1 \/ i=2 \/ i=3 \/ i=4 \/ i=5 \/ i=6 \/ i=7 \/ i=8 \/ i=9 \/ i=10 \/ i=11 \/ i=12:=oM
    .obtain rfl:=dZ ho
     rw [ip kF]
     have c3:=H.b3.cell 0
     rw [hu 11 kF] at c3
     simp only [bC,aU,aK,if_false] at c3
     exact G7 (v:=v1) (w':=w') (by go_simp) (hK _ _ ⟨MK u 0 _,rfl,H.quiet Xrw.o 0 _ oM rfl (μ _ _)⟩)
    .obtain rfl:=dZ ho
     rw [ip kF]
     exact aD1 212 Q 0 (I7 p s t) (H.k.k7.range 0 21 rfl) (hK _ _ ⟨MK u 1 _,rfl,H.quiet Xrw.o 1 _ oM rfl (μ _ _)⟩)
    .obtain rfl:=dZ ho
     rw [ip kF]
     have e1:u 1=bQ (I7 p s t):=H.vals 1 (hm 1 kF)
     have hd1:js d 1=d:=funext fun j=>by
      unfold js
      by_cases e:j=1
      .rw [ip e,e,hm 1 kF]
      .rw [iN e]
     have H1:=H.quiet Xrw.o 1 (bQ (I7 p s t)) oM rfl (μ _ _)
     rw [hd1] at H1
     have HK:=zq hK
     have HX:=zq H1
     clear hK H H1 hd1 hm hu
     go_simp
     refine ⟨trivial,callsIn_wide.2 ((Hbx.o _).mono ?_)⟩
     rintro e w2 ⟨rfl,hb⟩
     exact HK.o _ _ ⟨MK (MK u 1 (bQ (I7 p s t))) 2 _,rfl,HX.o.quiet Xrw.o 2 _ oM rfl hb⟩
    .obtain rfl:=dZ ho
     rw [ip kF]
     have e2:u 2=bQ #[Υ Ξ b0,Υ Ξ b1,Υ Ξ b2,Υ Ξ b3]:=H.vals 2 (hm 2 kF)
     exact G7 (v:=Θ (ζ ⟨w'.heap.size,0,δ⟩) 1 1) (w':=w'.alloc (π #[Υ Ξ b0,Υ Ξ b1,Υ Ξ b2,Υ Ξ b3] 221)) (by go_simp) (hK _ _ ⟨MK u 3 _,rfl,H.made3 Xrw.o⟩)
    .obtain rfl:=dZ ho
     rw [ip kF]
     have e0:u 0=v1:=H.vals 0 (hm 0 kF)
     obtain ⟨g,e3,hG⟩:=H.m3 (hm 3 kF) hd
     have r3:=H.r3
     rw [hd] at r3
     simp only [aK,if_false] at r3
     obtain ⟨i0,hi0,Ak,yP,uT⟩:=jJ an4
     exact Kz _ _ 218 rfl w.heap.size 221 i0 _ 4 32 underlying218 hi0 Ak yP uT rfl dD v1 (C0+k) bx e0 r3 ⟨g,0,δ⟩ 1 1 [Υ Ξ b0,Υ Ξ b1,Υ Ξ b2,Υ Ξ b3] e3 rfl (fun j u hj=>by rw [qP,bD,hG.cell]; simpa using hj) (by simp [iP]) (by unfold yE; omega) oM H.k.k3.size
      (fun v' w2 ho hg=>hK _ _ ⟨MK u 4 _,rfl,H.app4 Hp4.o (hu 11 kF) ho hd hg⟩)
    .obtain rfl:=dZ ho
     rw [ip kF]
     have c3:=H.b4.cell 0
     rw [hu 12 kF] at c3
     simp only [bC,aU,aK,if_false] at c3
     exact G7 (v:=v2) (w':=w') (by go_simp) (hK _ _ ⟨MK u 5 _,rfl,H.quiet Xrw.o 5 _ oM rfl (μ _ _)⟩)
    .obtain rfl:=dZ ho
     rw [ip kF]
     have c3:=H.k.k6.ce 0
     exact G7 (v:=Υ Ξ r) (w':=w') (by go_simp) (hK _ _ ⟨MK u 6 _,rfl,H.quiet Xrw.o 6 _ oM rfl (μ _ _)⟩)
    .obtain rfl:=dZ ho
     rw [ip kF]
     exact G7 (v:=Υ Ξ k) (w':=w') (by go_simp) (hK _ _ ⟨MK u 7 _,rfl,H.quiet Xrw.o 7 _ oM rfl (μ _ _)⟩)
    .obtain rfl:=dZ ho
     rw [ip kF]
     have e6:u 6=Υ Ξ r:=H.vals 6 (hm 6 kF)
     have e7:u 7=Υ Ξ k:=H.vals 7 (hm 7 kF)
     exact G7 (v:=bQ #[Υ Ξ r,Υ Ξ k]) (w':=w') (by go_simp) (hK _ _ ⟨MK u 8 _,rfl,H.quiet Xrw.o 8 _ oM rfl (μ _ _)⟩)
    .obtain rfl:=dZ ho
     rw [ip kF]
     have e2:u 8=bQ #[Υ Ξ r,Υ Ξ k]:=H.vals 8 (hm 8 kF)
     exact G7 (v:=Θ (ζ ⟨w'.heap.size,0,δ⟩) 1 1) (w':=w'.alloc (π #[Υ Ξ r,Υ Ξ k] 224)) (by go_simp) (hK _ _ ⟨MK u 9 _,rfl,H.made9 Xrw.o⟩)
    .obtain rfl:=dZ ho
     rw [ip kF]
     have e0:u 5=v2:=H.vals 5 (hm 5 kF)
     obtain ⟨g,e3,hG⟩:=H.m9 (hm 9 kF) hd
     have r3:=H.r4
     rw [hd] at r3
     simp only [aK,if_false] at r3
     obtain ⟨i0,hi0,Ak,yP,uT⟩:=jJ ah
     exact Kz _ _ 219 rfl w.heap.size 224 i0 _ 2 16 underlying219 hi0 Ak yP uT rfl dD v2 (C0+k) pl e0 r3 ⟨g,0,δ⟩ 1 1 [Υ Ξ r,Υ Ξ k] e3 rfl (fun j u hj=>by rw [qP,bD,hG.cell]; simpa using hj) (by simp [iP]) (by unfold yE; omega) oM H.k.k3.size
      (fun v' w2 ho hg=>hK _ _ ⟨MK u 10 _,rfl,H.app10 Hp4.o (hu 12 kF) (hm 4 kF) ho hd hg⟩)
    .obtain rfl:=dZ ho
     rw [ip kF]
     have h4:=hm 4 kF
     have wh:=hm 10 kF
     have r3:=H.r3
     rw [h4] at r3
     simp only [if_true] at r3
     obtain ⟨g,c,e4⟩:=qV (Nat.succ_pos _) r3
     have z3:=H.b3.fz 0
     have c3:=H.b3.ce 0
     exact jn (w':=w'.setCell ⟨P3,0,δ⟩ (u 4)) (by rw [e4]; go_simp) (hK _ _ ⟨MK u 11 ψ,rfl,H.sto11 Hp4.o Hp3.o _ h4 wh⟩)
    .obtain rfl:=dZ ho
     rw [ip kF]
     have h4:=hm 4 kF
     have wh:=hm 10 kF
     have r3:=H.r4
     rw [wh] at r3
     simp only [if_true] at r3
     obtain ⟨g,c,e4⟩:=qV (Nat.succ_pos _) r3
     have z3:=H.b4.fz 0
     have c3:=H.b4.ce 0
     exact jn (w':=w'.setCell ⟨P4,0,δ⟩ (u 10)) (by rw [e4]; go_simp) (hK _ _ ⟨MK u 12 ψ,rfl,H.sto12 Hp4.o Hp5.o _ h4 wh⟩)
   .rintro d _ w' ⟨u,rfl,H⟩ hall
    have h4:=hall 4 dD
    have wh:=hall 10 dD
    have h11:=hall 11 dD
    have Oj:=hall 12 dD
    have r3:=H.r3
    have r4:=H.r4
    have b3:=H.b3
    have b4:=H.b4
    rw [h4] at r3
    rw [wh] at r4
    rw [h11] at b3
    rw [Oj] at b4
    simp only [if_true] at r3 r4 b3 b4
    have HK:=zq H.k
    have HV:=zq (CrV.mk b3 b4 r3 r4)
    clear H hall r3 r4 b3 b4 h4 wh h11 Oj
    gi_wp2
    refine ⟨HK.o.k1,HK.o.k2,⟨u 4,u 10,?_⟩,HK.o.k6,HK.o.k5,HK.o.k3,HK.o.k4⟩
    rw [EB.o,EP.o,EL.o]
    exact HV.o
  .obtain ⟨h1,h2,h3,h4,h5⟩:=hI
   have X1:aQ (CrS P3 P4 w.heap.size (aF rs) A1 W):=by rw [E1.o]; exact h1
   rw [<- Uw.o] at X1
   have X4:=zq h4
   have X5:=zq (h5.cons (aA HBs.o (fM Q7.o.lt)) hD hK)
   clear h1 h2 h3 h4 h5
   go_wp2
   go_roundw
   .exact ⟨r+1,D :: Ds,_,_,_,_,_,_,_,_,_,rfl,hrN,X1.o,X4.o,X5.o⟩
   .show N - ((r:Int)+1).toNat < N - (r:Int).toNat
    omega
 .obtain rfl : N = r := oM
  obtain ⟨v1,v2,hv⟩:=HS.o
  rw [FA] at hv
  obtain ⟨a3,k3,rfl⟩:=E5 hv.r3
  obtain ⟨a4,k4,rfl⟩:=E5 hv.r4
  have c3:=hv.b3.ce 0
  have c4:=hv.b4.ce 0
  have HV:=zq hv
  have LK:=IU.o N (θ _)
  have CW:=FA (aF rs) N
  have HG:aQ (∀ i,i < bY (aF rs) N -> ((Dd (aF rs) N).getD i Γ).1 < N /\ ((Dd (aF rs) N).getD i Γ).2 < (aF rs ((Dd (aF rs) N).getD i Γ).1).length):=fun i hi=>Jb (aN oM Γ)
  have HCr:aQ (∀ i k,k < i -> i < bY (aF rs) N -> nbI ((Dd (aF rs) N).getD i Γ).1 ((Dd (aF rs) N).getD k Γ).1 ((Dd (aF rs) N).getD i Γ).2 ((Dd (aF rs) N).getD k Γ).2 (aF rs ((Dd (aF rs) N).getD i Γ).1).length=ν -> mtB (aF rs) ((Dd (aF rs) N).getD i Γ) ((Dd (aF rs) N).getD k Γ)=ν):=fun i k h1 h2=>aE4 H0.o h1 h2
  have Do:aQ (∀ i j,i < bY (aF rs) N -> j < 4 -> (bxs (aF rs) (Dd (aF rs) N))[i * 4+j]?=(bxC (aF rs) ((Dd (aF rs) N).getD i Γ))[j]?):=fun i j hi hj=>TO (z:=4) (fun _=>rfl) _ i j oM hj
  have HPc:aQ (∀ i j,i < bY (aF rs) N -> j < 2 -> (pls (Dd (aF rs) N))[i * 2+j]?=(plC ((Dd (aF rs) N).getD i Γ))[j]?):=fun i j hi hj=>TO (z:=2) (fun _=>rfl) _ i j oM hj
  have HM0:=zq CW
  clear hv CW HS
  generalize Dd (aF rs) N=L at *
  obtain ⟨M,hM⟩:=nm (bY (aF rs) N)
  rw [hM] at HV HG HCr Do HPc HM0 LK c3 c4
  clear hM IU H0
  generalize bxs (aF rs) L=bx at *
  generalize pls L=pl at *
  go_wp2
  go_loopw [39] (fun i wi=>∃ q:Nat,i=Υ Ξ q /\ q <= M /\ aQ (CrV P3 P4 w.heap.size M bx pl (Θ a3 M k3) (Θ a4 M k4) wi) /\ aQ (Bw w wi) /\ aQ (Mk w.heap.size wi.heap.size Ds wi)) (fun i _=>M - (ξ i).toNat)
  case atStart=>exact ⟨0,rfl,aP _,HV.o,HB.o,HM.o⟩
  case round =>
   clear c3 c4 HV HB HM
   obtain ⟨i,rfl,hi,HV,HB,HM⟩:=hrel
   rename η=>wi
   by_cases hiM:i < M
   .have hiI : (i : Int) < M := oM
    go_wp2
    go_loopw [43] (fun j wi=>∃ q:Nat,j=Υ Ξ q /\ q <= i /\ aQ (CrV P3 P4 w.heap.size M bx pl (Θ a3 M k3) (Θ a4 M k4) wi) /\ aQ (Bw w wi) /\ aQ (Mk w.heap.size wi.heap.size Ds wi)) (fun j _=>i - (ξ j).toNat)
    case atStart=>exact ⟨0,rfl,aP _,HV.o,HB.o,HM.o⟩
    case round =>
     clear HV HB HM
     obtain ⟨k,rfl,hk,HV,HB,HM⟩:=hrel
     rename η=>wk
     by_cases hki:k < i
     .obtain ⟨g3,k3',e⟩:=qV oM HV.o.r3
      cases e
      obtain ⟨g4,k4',e⟩:=qV oM HV.o.r4
      cases e
      obtain ⟨hp1,hp2⟩:=HG.o i hiM
      have vi:=zq (HCr.o i k hki hiM)
      have p0:=(HV.o.r4.cellAt (i * 2+0) oM).trans (HPc.o i 0 hiM dD)
      have p1:=(HV.o.r4.cellAt (i * 2+1) oM).trans (HPc.o i 1 hiM dD)
      have q0:=(HV.o.r4.cellAt (k * 2+0) oM).trans (HPc.o k 0 oM dD)
      have q1:=(HV.o.r4.cellAt (k * 2+1) oM).trans (HPc.o k 1 oM dD)
      have HRi:=zq (fun (V:η) (h:V.ownsRow w.heap.size 221 4 (Θ (ζ ⟨g3,0,δ⟩) M k3) M bx)=>(World.rangeAt_of4 (fun j hj=>(h.cellAt (i * 4+j) oM).trans (Do.o i j hiM hj)):V.rangeAt g3 (i * 4) (bxC (aF rs) (L.getD i Γ))))
      have HRk:=zq (fun (V:η) (h:V.ownsRow w.heap.size 221 4 (Θ (ζ ⟨g3,0,δ⟩) M k3) M bx)=>(World.rangeAt_of4 (fun j hj=>(h.cellAt (k * 4+j) oM).trans (Do.o k j oM hj)):V.rangeAt g3 (k * 4) (bxC (aF rs) (L.getD k Γ))))
      obtain ⟨b,o,rfl,f0,-⟩:=(HR.o.below HB.o).at (i:=(L.getD i Γ).1) (by rw [HL.o]; exact hp1) rfl
      rw [show (rs.getD (L.getD i Γ).1 Γ).ss.length=(aF rs (L.getD i Γ).1).length from rfl] at f0
      have LB:=HN.o (L.getD i Γ).1
      have hn2:=HN.o (L.getD k Γ).1
      have O8:=(HG.o k oM).2
      have hq1:=(HG.o k oM).1
      have c3:=HV.o.b3.ce 0
      have c4:=HV.o.b4.ce 0
      rw [show i * 2+0=i * 2 from rfl,show (plC (L.getD i Γ))[0]?=ζ (Υ Ξ ((L.getD i Γ).1:Nat)) from rfl] at p0
      rw [show (plC (L.getD i Γ))[1]?=ζ (Υ Ξ ((L.getD i Γ).2:Nat)) from rfl] at p1
      rw [show k * 2+0=k * 2 from rfl,show (plC (L.getD k Γ))[0]?=ζ (Υ Ξ ((L.getD k Γ).1:Nat)) from rfl] at q0
      rw [show (plC (L.getD k Γ))[1]?=ζ (Υ Ξ ((L.getD k Γ).2:Nat)) from rfl] at q1
      have Hmt:=zq (fun V=>an0 (DB ((aF rs (L.getD i Γ).1).getD (L.getD i Γ).2 Γ).x (fR (aF rs (L.getD i Γ).1) (L.getD i Γ).2).x) (DB ((aF rs (L.getD i Γ).1).getD (L.getD i Γ).2 Γ).y (fR (aF rs (L.getD i Γ).1) (L.getD i Γ).2).y) (DC ((aF rs (L.getD i Γ).1).getD (L.getD i Γ).2 Γ).x (fR (aF rs (L.getD i Γ).1) (L.getD i Γ).2).x) (DC ((aF rs (L.getD i Γ).1).getD (L.getD i Γ).2 Γ).y (fR (aF rs (L.getD i Γ).1) (L.getD i Γ).2).y) (DB ((aF rs (L.getD k Γ).1).getD (L.getD k Γ).2 Γ).x (fR (aF rs (L.getD k Γ).1) (L.getD k Γ).2).x) (DB ((aF rs (L.getD k Γ).1).getD (L.getD k Γ).2 Γ).y (fR (aF rs (L.getD k Γ).1) (L.getD k Γ).2).y) (DC ((aF rs (L.getD k Γ).1).getD (L.getD k Γ).2 Γ).x (fR (aF rs (L.getD k Γ).1) (L.getD k Γ).2).x) (DC ((aF rs (L.getD k Γ).1).getD (L.getD k Γ).2 Γ).y (fR (aF rs (L.getD k Γ).1) (L.getD k Γ).2).y) V)
      unfold mtB at vi
      unfold bxV at Hmt
      unfold bxC at HRi HRk
      generalize DB ((aF rs (L.getD i Γ).1).getD (L.getD i Γ).2 Γ).x _=a0 at *
      generalize DB ((aF rs (L.getD i Γ).1).getD (L.getD i Γ).2 Γ).y _=a1 at *
      generalize DC ((aF rs (L.getD i Γ).1).getD (L.getD i Γ).2 Γ).x _=a2 at *
      generalize DC ((aF rs (L.getD i Γ).1).getD (L.getD i Γ).2 Γ).y _=a3 at *
      generalize DB ((aF rs (L.getD k Γ).1).getD (L.getD k Γ).2 Γ).x _=b0 at *
      generalize DB ((aF rs (L.getD k Γ).1).getD (L.getD k Γ).2 Γ).y _=b1 at *
      generalize DC ((aF rs (L.getD k Γ).1).getD (L.getD k Γ).2 Γ).x _=b2 at *
      generalize DC ((aF rs (L.getD k Γ).1).getD (L.getD k Γ).2 Γ).y _=b3 at *
      generalize (rs.getD (L.getD i Γ).1 Γ).a=ar at *
      generalize (rs.getD (L.getD i Γ).1 Γ).cap=cr at *
      generalize (aF rs (L.getD i Γ).1).length=n at *
      generalize (aF rs (L.getD k Γ).1).length=n2 at *
      generalize (L.getD i Γ).1=r at *
      generalize (L.getD k Γ).1=r2 at *
      generalize (L.getD i Γ).2=s at *
      generalize (L.getD k Γ).2=s2 at *
      have hx:aQ ((((r:Int) == (r2:Int))=ν \/ ((r:Int) == (r2:Int))=ι /\ ((s:Int) - s2 == 1)=ν /\ ((s:Int) - s2 == (n:Int) - 1)=ν) /\ nbI r r2 s s2 n=ν \/
       (((r:Int) == (r2:Int))=ι /\ (((s:Int) - s2 == 1)=ι \/ ((s:Int) - s2 == 1)=ν /\ ((s:Int) - s2 == (n:Int) - 1)=ι)) /\ nbI r r2 s s2 n=ι):=by
       show _ \/ _
       unfold nbI
       rw [Db (a:=(r:Int)) (b:=r2) (p:=r=r2) oM,Db (a:=(s:Int) - s2) (b:=1) (p:=(s:Int) - s2=1) Iff.rfl,Db (a:=(s:Int) - s2) (b:=(n:Int) - 1) (p:=(s:Int) - s2=(n:Int) - 1) Iff.rfl]
       cases decide (r=r2) <;> cases decide ((s:Int) - s2=1) <;> cases decide ((s:Int) - s2=(n:Int) - 1) <;> simp
      have w1:IntKind.i64.wrap ((s:Int) - s2)=(s:Int) - s2:=aM _ oM
      have w2:IntKind.i64.wrap ((n:Int) - 1)=(n:Int) - 1:=aM _ oM
      have v1:(i:Int) < M:=oM
      have v2:(k:Int) < M:=oM
      have v3:(r:Int) < N:=oM
      have v4:(k:Int) < i:=oM
      have HCx:aQ (nbI r r2 s s2 n=ν -> _):=vi
      clear vi HG HCr Do HPc LB hn2 O8 hq1 hp1 hp2
      rcases hx.o with ⟨hq,hz⟩ | ⟨hq,hz⟩
      .rcases hq with h1 | ⟨h1,h2,h3⟩
       all_goals
        clear hx
        go_wp2
        go_quiet (fail)
        go_wp2
        go_quiet (fail)
        go_wp2
        refine tJ 13 (fun _=>.quiet) (fun V=>V.cell? ⟨P3,0,δ⟩=ζ (Θ (ζ ⟨g3,0,δ⟩) M k3) /\ V.rangeAt g3 (i * 4) [Υ Ξ a0,Υ Ξ a1,Υ Ξ a2,Υ Ξ a3] /\ V.rangeAt g3 (k * 4) [Υ Ξ b0,Υ Ξ b1,Υ Ξ b2,Υ Ξ b3]) ⟨c3,HRi.o _ HV.o.r3,HRk.o _ HV.o.r3⟩ ?_
         (st:=fun w1 w2 h hb=>⟨bw5 hb HV.o.b3.lt h.1,fun j v hv=>bw5 hb (HV.o.r3.lt _ rfl).2 (h.2.1 j v hv),fun j v hv=>bw5 hb (HV.o.r3.lt _ rfl).2 (h.2.2 j v hv)⟩)
        refine qS 0 rfl (pu ?_)
        refine qS 1 rfl (pu ?_)
        refine qS 2 rfl (pu ?_)
        refine qS 3 rfl (pu ?_)
        refine qS 4 rfl (pu ?_)
        refine qS 5 rfl (pu ?_)
        refine qR 6 g3 (i * 4) #[Υ Ξ a0,Υ Ξ a1,Υ Ξ a2,Υ Ξ a3] (fun V h=>h.1.2.1) rfl (pu ?_)
        refine qS 7 rfl (pu ?_)
        refine qS 8 rfl (pu ?_)
        refine qS 9 rfl (pu ?_)
        refine qR 10 g3 (k * 4) #[Υ Ξ b0,Υ Ξ b1,Υ Ξ b2,Υ Ξ b3] (fun V h=>h.1.2.2) rfl (pu ?_)
        refine qC 11 (fun V _=>Hmt.o V) rfl (pu ?_)
        rw [HCx.o hz]
        refine qS 12 rfl (pu ?_)
        refine qE fun V hV _=>?_
        have uB:Bw wk V:=(dO (dO (μ _ wk) _) _).trans hV.b
        have XV:=zq (HV.o.below uB)
        have XB:=HB.bS uB
        have XM:=zq ((HM.o.below uB).top)
        clear hV uB
        go_wp2
        go_roundw
        case rel=>exact ⟨k+1,by go_num,oM,XV.o,XB.o,XM.o⟩
        case measure=>simp only [ξ]; omega
      .rcases hq with ⟨h1,(h2 | ⟨h2,h3⟩)⟩
       all_goals
        clear hx
        go_wp2
        go_quiet (fail)
        go_wp2
        go_quiet (fail)
        go_wp2
        refine tJ 13 (fun _=>.quiet) (fun V=>True) trivial ?_ (st:=fun w1 w2 h hb=>trivial)
        refine qS 0 rfl (pu ?_)
        refine qS 1 rfl (pu ?_)
        refine qS 2 rfl (pu ?_)
        refine jk 3 rfl (pu ?_)
        refine jk 4 rfl (pu ?_)
        refine jk 5 rfl (pu ?_)
        refine jk 6 rfl (pu ?_)
        refine jk 7 rfl (pu ?_)
        refine jk 8 rfl (pu ?_)
        refine jk 9 rfl (pu ?_)
        refine jk 10 rfl (pu ?_)
        refine jk 11 rfl (pu ?_)
        refine qS 12 rfl (pu ?_)
        refine qE fun V hV _=>?_
        have uB:Bw wk V:=(dO (dO (μ _ wk) _) _).trans hV.b
        have XV:=zq (HV.o.below uB)
        have XB:=HB.bS uB
        have XM:=zq ((HM.o.below uB).top)
        clear hV uB
        go_wp2
        go_roundw
        case rel=>exact ⟨k+1,by go_num,oM,XV.o,XB.o,XM.o⟩
        case measure=>simp only [ξ]; omega
     .obtain rfl:i=k:=oM
      go_wp2
      go_roundw
      case rel=>exact ⟨i+1,by go_num,oM,HV.o,HB.o,HM.o⟩
      case measure=>simp only [ξ]; omega
   .obtain rfl:M=i:=oM
    go_wp2
    exact af (Ds:=Ds) rfl HM.o (fun V=>Bw w V) HB.o (fun V X hX hV hx=>hV.trans (tK hX hx))
     (fun V hV=>⟨iH rfl _ _ _,rfl,hV⟩)
end
end
section
open Go.Shelf
def Tryz.grS_ren:iG:=⟨fun |4=>139|n=>n,fun |22=>81|25=>84|3=>3|4=>4|9=>9|20=>20|0=>0|n=>n,fun |n=>n⟩
theorem Tryz.grS:Bq γ Tryz.grS_ren:={
 mixed:=kF
 f4:=⟨Tryz.f139.name,dD,zf func139⟩
 t0:=underlying0
 a0:=isAgg0
 z0:=sizeOf0
 v0:=zeroValue0
 t3:=underlying3
 a3:=isAgg3
 z3:=sizeOf3
 v3:=zeroValue3
 t4:=underlying4
 a4:=isAgg4
 z4:=sizeOf4
 v4:=zeroValue4
 t9:=underlying9
 a9:=isAgg9
 z9:=sizeOf9
 v9:=zeroValue9
 t20:=underlying20
 a20:=isAgg20
 z20:=sizeOf20
 v20:=zeroValue20
 t22:=Mt
 a22:=isAgg81
 z22:=sizeOf81
 v22:=zeroValue81}
open Go Go.RowKit Go.Lib Go.Shelf
def Sl.ok7(l:Sl):Prop:=l.cs.length=l.len*7/\∀u∈l.cs,u.oneCell'=ι
theorem RM:(Tryz.prog.info? 84).map (fun i=>(i.zero,i.size,i.bytes))=ζ (ζ (bQ #[Υ Ξ 0,Υ Ξ 0,Υ Ξ 0,Υ Ξ 0,ω ν,Υ Ξ 0,Υ Ξ 0]),7,56):=kF
theorem bg9(n:Nat)(w:η)(h0:0<n)(hn:n<=100000000):
 aE γ 139 #[Θ δ 0 0,Υ Ξ n] w fun e w'=>(∃g cap,e=σ (Θ (ζ ⟨g,0,δ⟩) 0 cap)/\w'.ownsRow w.heap.size 84 7 (Θ (ζ ⟨g,0,δ⟩) 0 cap) 0 [])/\Bw w w':=by
 obtain⟨i0,hi,Ak,yP,uT⟩:=jJ RM;have H:=Any8.slices_Grow_grow Tryz.grS i0 (bQ #[Υ Ξ 0,Υ Ξ 0,Υ Ξ 0,Υ Ξ 0,ω ν,Υ Ξ 0,Υ Ξ 0]) hi Ak (by rw[yP];decide) δ 0 0 n [] w (θ _) oM (by rw[uT];omega) oM sP (fun _=>rfl) (fun a e=>(by cases e));refine Calls.mono H ?_;rintro e w'⟨rfl,rfl⟩;refine⟨⟨w.heap.size,_,rfl,rfl,.inr ⟨w.heap.size,_,_,rfl,θ _,World.alloc_heap_new w.drew _,aP _,?_,?_,rfl⟩⟩,((μ _ w).drew.alloc sP _)⟩
 .exact grownCap_le_maxLen w _ _ _ (by unfold yE;omega)
 .have:=grownCap_ge w (0+n) 0 (Tryz.grS_ren.t 25);rw[lM,lM,Bj,Bj];simp only[Value.cells,bI,aC,bB];generalize grownCap w (0+n) 0 (Tryz.grS_ren.t 25)=c at *;omega
theorem bq8{w:η}{cF:Array eZ}{rest:List eZ}{o:eZ}{a:iS}{Q:Exit->iS->η->Prop}(Io:o.guard=δ)(s x:mC)
 (ho:o.op=.call {callee:=.builtin .append,args:=#[s,x],argTypes:=#[81,81]})(cH:Nat)
 (gv cv n:Nat)(xs:List χ)(hs:a.eval s=Θ (ζ ⟨gv,0,δ⟩) n cv)(cT:w.ownsRow cH 84 7 (Θ (ζ ⟨gv,0,δ⟩) n cv) n xs)
 (l:Sl)(hx:a.eval x=l.v)(hl:l.ok7)(hr:l.Rd w)(OZ:n+l.len<=100000000)(kH:cH<=w.heap.size)
 (h:∀g cap w',w'.ownsRow cH 84 7 (Θ (ζ ⟨g,0,δ⟩) (n+l.len) cap) (n+l.len) (xs++l.cs)->cH<=g->w.grownBy w' (ζ gv)->
  Dk γ cF Q rest (a.put o.dst (Θ (ζ ⟨g,0,δ⟩) (n+l.len) cap)) w'):
 Dk γ cF Q (o::rest) a w:=by
 obtain⟨i0,hi,Ak,yP,uT⟩:=jJ RM;refine wpList_append_own _ Io s x 81 ho cH 84 i0 (bQ #[Υ Ξ 0,Υ Ξ 0,Υ Ξ 0,Υ Ξ 0,ω ν,Υ Ξ 0,Υ Ξ 0]) 7 56 Mt hi Ak yP uT rfl dD _ n xs hs cT ⟨l.b,l.off,δ⟩ l.len l.cap l.cs hx hl.1 (fun j u hj=>by rw[qP];exact hr j u hj) hl.2
  (by unfold yE;omega) oM kH ?_
 intro v' w' lH hg JJ;rcases lH.2 with⟨h1,h2⟩|⟨g',Ip,pZ,hv,h3,-⟩
 .have:=(JJ.1 h1).1;cases this
 .subst hv;exact h g' Ip w' lH h3 hg
theorem aE5(a n ca ls w)(hl:ls.length=n)(hn:n<=1000)(lI:∀l∈ls,l.len<=10000/\l.ok7)(hpos:0<iK ls n)(rl:RdS w a ls):
 aE γ 92 #[Θ a n ca] w fun e w'=>(∃g cap,e=σ (Θ (ζ ⟨g,0,δ⟩) (iK ls n) cap)/\w'.ownsRow w.heap.size 84 7 (Θ (ζ ⟨g,0,δ⟩) (iK ls n) cap) (iK ls n) (vL ls))/\Bw w w':=by
 have yX:∀i,i<n->(ls.getD i Γ).len<=10000/\(ls.getD i Γ).ok7:=fun i hi=>lI _ (aN oM Γ);have Ki:∀k,k<=n->iK ls k<=k*10000:=fun k hk=>Mz (fun i hi=>(yX i oM).1) k hk;have C3:∀k,k<=n->iK ls k<=10000000:=fun k hk=>by have:=Ki k hk;have:k*10000<=1000*10000:=Nat.mul_le_mul_right _ oM;omega
 have HA:aQ (∀k,k<n->vL (ls.take (k+1))=vL (ls.take k)++(ls.getD k Γ).cs):=fun k hk=>Kh oM;have HAn:aQ (vL (ls.take n)=vL ls):=by show _=_;rw[eA oM]
 have Hm:aQ (∀k,k<n->iK ls (k+1)=iK ls k+(ls.getD k Γ).len):=fun k _=>rfl;have Hb:=zq C3;have Hok:=zq yX;have Hl:=zq hl;have Rl:=zq rl;have HG:=zq (fun W=>bg9 (iK ls n) W hpos (by have:=C3 n (θ _);omega));have hbn:=C3 n (θ _);clear hl lI rl Ki C3 yX;go_enter func92,ntmps92;go_wp2;go_loop [3,11] (fun s i=>∃k:Nat,i=Υ Ξ k/\k<=n/\s=Υ Ξ (iK ls k:Nat)) (fun _ i=>n-(ξ i).toNat);case atStart=>exact⟨0,rfl,aP _,rfl⟩
 case round=>
  obtain⟨k,rfl,hk,rfl⟩:=hrel;by_cases hlt:k<n
  .obtain⟨lb,lo,rfl,c0,-⟩:=Rl.o k (by rw[Hl.o];exact hlt);have b1:=Hb.o k hk;have b2:=Hb.o (k+1) hlt;have e2:=Hm.o k hlt;have HE:=zq e2;rw[e2]at b2;clear e2;generalize ls.getD k Γ=l at *;unfold Sl.v at c0;generalize l.cap=lc,l.off=lof,l.b=la,l.len=m at *;obtain⟨s1,xZ⟩:=nm (iK ls (k+1));rw[xZ]at HE;have O9:=zq xZ;clear xZ;generalize iK ls k=s0 at *;go_wp2;go_round;case rel=>exact⟨k+1,by go_num,oM,by rw[O9.o,HE.o];go_num⟩
   case measure=>simp only[ξ];omega
  .obtain rfl:n=k:=oM;obtain⟨N,hN⟩:=nm (iK ls n);rw[hN]at HG hbn|-;have HN:=zq hN;clear hN hpos;go_wp2_with fail
   refine(HG.o _).mono ?_;rintro e W1⟨⟨g0,Zu,rfl,Em⟩,hb1⟩;have eG:=zq hb1;have Lj:=zq Em;clear hb1 Em HG;go_wp2;go_loopw[6,27] (fun o i wr=>∃(k g cap:Nat),i=Υ Ξ k/\k<=n/\o=Θ (ζ ⟨g,0,δ⟩) (iK ls k) cap/\aQ (wr.ownsRow w.heap.size 84 7 (Θ (ζ ⟨g,0,δ⟩) (iK ls k) cap) (iK ls k) (vL (ls.take k)))/\aQ (Bw w wr)) (fun _ i _=>n-(ξ i).toNat);case atStart=>exact⟨0,g0,Zu,rfl,aP _,rfl,Lj.o,eG.o⟩
   case round=>
    clear eG Lj;obtain⟨k,g,cap,rfl,hk,rfl,sS,HB⟩:=hrel;by_cases hlt2:k<n
    .obtain⟨lb,lo,rfl,c0,rp⟩:=(Rl.o.below HB.o) k (by rw[Hl.o];exact hlt2);have HE:=zq (Hm.o k hlt2);have b2:=Hb.o (k+1) hlt2;rw[HE.o]at b2;have im:=zq (HA.o k hlt2);have Rp:=zq rp;have Ok:=zq (Hok.o k hlt2).2;clear rp;generalize ls.getD k Γ=l at *;obtain⟨lbb,lof,m,lc,cs⟩:=l;unfold Sl.v at c0;simp only[]at *;obtain⟨s1,xZ⟩:=nm (iK ls (k+1));rw[xZ]at HE;have O9:=zq xZ;clear xZ;generalize iK ls k=s0 at *;have cT:=sS.o;have O6:=HB.o.size;have hb3:s0+m<=100000000:=oM;go_wp2_with (at_builtin;refine bq8 rfl _ _ rfl w.heap.size g cap s0 _ rfl cT ⟨lbb,lof,m,lc,cs⟩ rfl Ok.o Rp.o hb3 O6 ?_;intro g5 Tj w5 lJ sj sT;simp only[]at lJ)
     have wG:=zq (dT (v:=Θ (ζ ⟨g,0,δ⟩) s0 cap) HB.o sT cT (θ _) O6);rw[<-im.o,<-HE.o]at lJ;have io:=zq lJ;clear cT lJ sT;go_wp2;go_roundw;case rel=>exact⟨k+1,g5,Tj,by go_num,oM,by rw[O9.o,HE.o],by rw[O9.o];exact io.o,wG.o⟩
     case measure=>simp only[ξ];omega
    .obtain rfl:n=k:=oM;rw[HAn.o,HN.o]at sS;rw[HN.o];go_wp2;go_ret;exact⟨⟨g,cap,by first |rfl|(rw[HN.o];rfl),by rw[HN.o];exact sS.o⟩,HB.o⟩
end
section
open Go Go.RowKit Go.Lib
def mN(l:List Sd):List χ:=l.flatMap fun s=>s.cells.toList
theorem E6(l):(mN l).length=l.length*7:=by
 induction l with
 |nil=>rfl
 |cons q qs ih=>simp[mN]at *;omega
theorem Hv:∀(l:List Sd)(i j:Nat),i<l.length->j<7->(mN l)[i*7+j]? =ζ ((l.getD i Γ).cells.getD j ψ)
 |[],i,_,h,_=>by simp at h
 |q::qs,0,j,_,hj=>by
  have e:mN (q::qs)=q.cells.toList++mN qs:=rfl
  rw[e,vO,bD,nQ (by simpa using hj)]
  match j,hj with
  |0,_=>rfl
  |1,_=>rfl
  |2,_=>rfl
  |3,_=>rfl
  |4,_=>rfl
  |5,_=>rfl
  |6,_=>rfl
 |q::qs,i+1,j,h,hj=>by
  have e:mN (q::qs)=q.cells.toList++mN qs:=rfl
  rw[e,fA (by simp;omega),show(i+1)*7+j-q.cells.toList.length=i*7+j by simp;omega]
  exact Hv qs i j (by simpa using h) hj
theorem mJ.own{n:Nat}{l:List Sd}(h:w.ownsRow cH e 7 (Θ a n cap) n (mN l)):mJ w a l:=by
 intro i hi;have hl:=h.1;rw[E6]at hl;rcases h.2 with⟨_,h2⟩|⟨g,c,pZ,hv,_⟩
 .omega
 .injection hv with e1 e2 e3;subst e1 e3;refine⟨g,0,rfl,fun j hj=>?_⟩;rw[bD,dN h (i*7+j) oM];exact Hv l i j hi hj
def UE(r:Rg):Sl:=match r.a with
 |some p=>⟨p.block,p.off,r.ss.length,r.cap,mN r.ss⟩
 |none=>⟨0,0,0,0,[]⟩
def cK(rs:List Rg):List Sd:=rs.flatMap Rg.ss
theorem an5{r:Rg}(h:mJ w r.a r.ss)(h0:0<r.ss.length):∃b off,r.a=ζ ⟨b,off,δ⟩/\UE r=⟨b,off,r.ss.length,r.cap,mN r.ss⟩/\(UE r).v=r.v/\(UE r).Rd w:=by
 obtain⟨b,off,e,-⟩:=h 0 h0;obtain⟨ra,rc,rss⟩:=r;simp only at *;subst e;refine⟨b,off,rfl,rfl,rfl,fun j u hj=>?_⟩;have hj7:j<rss.length*7:=by rw[<-E6];exact(List.getElem?_eq_some_iff.1 hj).1
 obtain⟨b',o',e,c⟩:=h (j/7) oM;injection e with e;injection e with e1 e2;subst e1 e2;have e3:(UE ⟨ζ ⟨b,off,δ⟩,rc,rss⟩).cs[j]? =ζ ((rss.getD (j/7) Γ).cells.getD (j%7) ψ):=by
  have:=Hv rss (j/7) (j%7) oM oM;rwa[show j/7*7+j%7=j by omega]at this
 rw[hj]at e3;injection e3 with e3;have:=c (j%7) oM;rw[show off+j/7*7+j%7=off+j by omega]at this;rw[e3];exact this
theorem WQ(l m):mN (l++m)=mN l++mN m:=by simp[mN]
theorem wn{rs:List Rg}:(∀r∈rs,(UE r).cs=mN r.ss)->vL (rs.map UE)=mN (cK rs):=by
 induction rs with
 |nil=>intro _;rfl
 |cons r t ih=>
  intro h;have e1:vL ((r::t).map UE)=(UE r).cs++vL (t.map UE):=rfl;have e2:cK (r::t)=r.ss++cK t:=rfl;rw[e1,e2,WQ,ih (fun q hq=>h q (cC _ hq)),h r bO]
theorem an6(l):∀u∈mN l,u.oneCell'=ι:=by
 intro u hu;obtain⟨s,-,h⟩:=List.mem_flatMap.1 hu;simp at h;rcases h with rfl|rfl|rfl|rfl|rfl|rfl|rfl<;>rfl
theorem wq{rs:List Rg}(h:∀r∈rs,(UE r).len=r.ss.length):iK (rs.map UE) rs.length=(cK rs).length:=by
 have key:∀k,k<=rs.length->iK (rs.map UE) k=(cK (rs.take k)).length:=by
  intro k;induction k with
  |zero=>intro _;simp[iK,cK]
  |succ k ih=>
   intro hk;have Yj:k<rs.length:=hk;rw[iK,ih (fM Yj),bM Yj];unfold cK;rw[kA,aJ];congr 1;simp[Ω,Yj,h _ (fJ Yj)]
 rw[key _ (θ _),DM]
theorem WR(a N ca rs w)(hl:rs.length=N)(hN:N<=1000)(LH:0<N)(hn:∀r∈rs,r.ss.length<=1000/\0<r.ss.length)(rr:GB w a rs):
 aE γ 92 #[Θ a N ca] w fun e w'=>(∃g cap,e=σ (Θ (ζ ⟨g,0,δ⟩) (cK rs).length cap)/\mJ w' (ζ ⟨g,0,δ⟩) (cK rs))/\Bw w w':=by
 have hX:∀r∈rs,∃b off,r.a=ζ ⟨b,off,δ⟩/\UE r=⟨b,off,r.ss.length,r.cap,mN r.ss⟩/\(UE r).v=r.v/\(UE r).Rd w:=fun r hr=>by
  obtain⟨i,hi,rfl⟩:=fC hr;obtain⟨b,o,-,-,h⟩:=rr i hi;have e:rs.getD i Γ=rs[i]:=by simp[Ω,hi]
  rw[e]at h;exact an5 h (hn _ hr).2
 have hs:=wq (rs:=rs) (fun r hr=>by obtain⟨b,o,-,e,-⟩:=hX r hr;rw[e]);have ha:=wn (rs:=rs) (fun r hr=>by obtain⟨b,o,-,e,-⟩:=hX r hr;rw[e]);rw[hl]at hs;have hpos:0<(cK rs).length:=by
  obtain⟨r,t,rfl⟩:∃r t,rs=r::t:=by
   cases rs with
   |nil=>simp at hl;omega
   |cons r t=>exact⟨r,t,rfl⟩
  have:=(hn r bO).2;have e2:cK (r::t)=r.ss++cK t:=rfl;rw[e2,aJ];omega
 have H:=aE5 a N ca (rs.map UE) w (by simpa using hl) hN (fun l UO=>by
  obtain⟨r,hr,rfl⟩:=List.mem_map.1 UO;obtain⟨b,o,-,e,-⟩:=hX r hr;rw[e];exact⟨by have:=(hn r hr).1;show r.ss.length<=10000;omega,E6 _,an6 _⟩) (by rw[hs];exact hpos) (fun i hi=>by
   have U7:i<rs.length:=by simpa using hi
   obtain⟨b,o,e,c,-⟩:=rr i U7;have e1:(rs.map UE).getD i Γ=UE rs[i]:=by simp[Ω,U7]
   have e2:rs.getD i Γ=rs[i]:=by simp[Ω,U7]
   obtain⟨b2,o2,-,e3,e4,e5⟩:=hX rs[i] (fJ U7);refine⟨b,o,e,?_,?_⟩
   .rw[e1,e4,<-e2];exact c
   .rw[e1];exact e5)
 rw[hs,ha]at H;refine H.mono ?_;rintro e w'⟨⟨g,cap,rfl,h⟩,hb⟩;exact⟨⟨g,cap,rfl,mJ.own h⟩,hb⟩
theorem an7(g lb)(eg:∀ args w,(nU g args).run γ w= .ok (.enter g args) w)(a n cap xs)(p:Nat->Bool)(w)(hn:xs.length=n)(tY:n<=9223372036854775807)(hc:mJ w a xs)(hp:∀ i,i < n->∀ W,Bw w W->aE γ g (#[(xs.getD i Γ).v] ++ lb) W (Rt (ω (p i)) W)):
 aE γ 138 #[Θ a n cap,.func (.func g) #[] lb] w (Rt (Υ Ξ (kR p n)) w):=by
 have Hc:=zq hc;have Hn:=zq hn;have Hp:=zq hp;clear hc hn hp;go_enter func138,ntmps138;go_wp2;go_loopw [5,8] (fun _ i wr=>∃ k:Nat,i=Υ Ξ k/\k<=n/\Bw w wr/\aQ (kR p k= -1)) (fun _ i _=>n - (ξ i).toNat);case atStart=>exact⟨0,rfl,aP _,μ _ w,rfl⟩
 case round=>
  obtain⟨k,rfl,hk,hB,hz⟩:=hrel;by_cases hlt:k < n
  .obtain⟨b,off,rfl,c0,c1,c2,c3,c4,c5,c6⟩:=(Hc.o.below hB).at (i:=k) (by rw [Hn.o];exact hlt) rfl;have Gs:=zq (Hp.o k hlt);unfold Sd.v Sd.cells at Gs;generalize xs.getD k Γ=x at *;cases hq:p k with
   | true=>
    rw [hq] at Gs;have R:aQ (kR p n=k):=zV hz.o hq hlt;clear hq;go_wp2_with fail
    refine ka (Gs.o _ hB) fun W1 hb1=>?_;go_wp2;go_ret;exact⟨by rw [R.o] <;> rfl,cD hB hb1 hB.size⟩
   | false=>
    rw [hq] at Gs;have uT:aQ (kR p (k+1)= -1):=yZ hz.o hq;clear hq;go_wp2_with fail
    refine ka (Gs.o _ hB) fun W1 hb1=>?_;go_wp2;go_roundw;case rel=>exact⟨k+1,by go_num,oM,cD hB hb1 hB.size,uT⟩
    case measure=>simp only [ξ];omega
  .obtain rfl:n=k:=oM;go_wp2;go_ret;exact⟨by rw [hz.o] <;> rfl,hB⟩
theorem an8(g lb)(eg:∀args w,(nU g args).run γ w=.ok (.enter g args) w)(a n cap xs)(p:Nat->Bool)(w)(hn:xs.length=n)(tY:n<=9223372036854775807)(hc:mJ w a xs)(hp:∀i,i<n->∀W,Bw w W->aE γ g (#[(xs.getD i Γ).v]++lb) W (Rt (ω (p i)) W)):
 aE γ 91 #[Θ a n cap,.func (.func g) #[] lb] w (Rt (ω (anyN p n)) w):=by
 have HI:=zq (an7 g lb eg a n cap xs p w hn tY hc hp);have R:aQ (∀c,kR p n=c->anyN p n=decide (0<=c)):=fun c h=>by rw[<-h];exact BA p n
 clear hp hc hn;generalize kR p n=c at *;have R:=zq (R.o c rfl);go_enter func91,ntmps91;go_wp2_with fail
 refine ka HI.o fun W1 hb1=>?_;go_wp2;go_ret;exact⟨by rw[R.o]<;>rfl,hb1⟩
theorem an9(g lb)(eg:∀ args w,(nU g args).run γ w= .ok (.enter g args) w)(a n cap xs)(p:Nat->Bool)(w)(hn:xs.length=n)(tY:n<=9223372036854775807)(hc:GB w a xs)(hp:∀ i,i < n->∀ W,Bw w W->aE γ g (#[Θ (xs.getD i Γ).a (xs.getD i Γ).ss.length (xs.getD i Γ).cap] ++ lb) W (Rt (ω (p i)) W)):
 aE γ 141 #[Θ a n cap,.func (.func g) #[] lb] w (Rt (Υ Ξ (kR p n)) w):=by
 have Hc:=zq hc;have Hn:=zq hn;have Hp:=zq hp;clear hc hn hp;go_enter func141,ntmps141;go_wp2;go_loopw [5,8] (fun _ i wr=>∃ k:Nat,i=Υ Ξ k/\k<=n/\Bw w wr/\aQ (kR p k= -1)) (fun _ i _=>n - (ξ i).toNat);case atStart=>exact⟨0,rfl,aP _,μ _ w,rfl⟩
 case round=>
  obtain⟨k,rfl,hk,hB,hz⟩:=hrel;by_cases hlt:k < n
  .obtain⟨b,off,rfl,c0,_⟩:=(Hc.o.below hB).at (i:=k) (by rw [Hn.o];exact hlt) rfl;have Gs:=zq (Hp.o k hlt);generalize xs.getD k Γ=x at *;cases hq:p k with
   | true=>
    rw [hq] at Gs;have R:aQ (kR p n=k):=zV hz.o hq hlt;clear hq;go_wp2_with fail
    refine ka (Gs.o _ hB) fun W1 hb1=>?_;go_wp2;go_ret;exact⟨by rw [R.o] <;> rfl,cD hB hb1 hB.size⟩
   | false=>
    rw [hq] at Gs;have uT:aQ (kR p (k+1)= -1):=yZ hz.o hq;clear hq;go_wp2_with fail
    refine ka (Gs.o _ hB) fun W1 hb1=>?_;go_wp2;go_roundw;case rel=>exact⟨k+1,by go_num,oM,cD hB hb1 hB.size,uT⟩
    case measure=>simp only [ξ];omega
  .obtain rfl:n=k:=oM;go_wp2;go_ret;exact⟨by rw [hz.o] <;> rfl,hB⟩
theorem ao0(g lb)(eg:∀args w,(nU g args).run γ w=.ok (.enter g args) w)(a n cap xs)(p:Nat->Bool)(w)(hn:xs.length=n)(tY:n<=9223372036854775807)(hc:GB w a xs)(hp:∀i,i<n->∀W,Bw w W->aE γ g (#[Θ (xs.getD i Γ).a (xs.getD i Γ).ss.length (xs.getD i Γ).cap]++lb) W (Rt (ω (p i)) W)):
 aE γ 95 #[Θ a n cap,.func (.func g) #[] lb] w (Rt (ω (anyN p n)) w):=by
 have HI:=zq (an9 g lb eg a n cap xs p w hn tY hc hp);have R:aQ (∀c,kR p n=c->anyN p n=decide (0<=c)):=fun c h=>by rw[<-h];exact BA p n
 clear hp hc hn;generalize kR p n=c at *;have R:=zq (R.o c rfl);go_enter func95,ntmps95;go_wp2_with fail
 refine ka HI.o fun W1 hb1=>?_;go_wp2;go_ret;exact⟨by rw[R.o]<;>rfl,hb1⟩
theorem wt(a n cap l w)(hl:l.length=n)(hn:n<=1000)(hC:C8 l)(r:mJ w a l):
 aE γ 96 #[Θ a n cap] w (Rt (ω (!pE l)) w):=by
 have HS:=zq (vp a n cap l w hl hn hC r);clear r hl hC;generalize pE l=B at *;refine eE func96 rfl ?_;simp only[ntmps96,bI,aC,bB,cL,dF,bG,bH,cE,bN,cM,bV];go_wp2_with fail
 refine ka HS.o fun W hb=>?_;go_wp2;exact sC (iH Tryz.results96 _ _ _) rfl ⟨rfl,hb⟩
theorem aE6{n:Int}:0<sgI n↔0<n:=by
 unfold sgI;split
 .omega
 .split <;>omega
theorem aE7{n:Int}:sgI n<0↔n<0:=by
 unfold sgI;split
 .omega
 .split <;>omega
theorem FC(n):sgI n= -1/\n<0\/sgI n=0/\n=0\/sgI n=1/\0<n:=by
 have h1:=@aE6 n;have h2:=@aE7 n;have h3:=rY n;omega
theorem ao1(a b):(0<sgI a*sgI b->0<a*b)/\(sgI a*sgI b<0->a*b<0):=by
 rcases FC a with⟨e,h⟩|⟨e,h⟩|⟨e,h⟩<;>rcases FC b with⟨e2,h2⟩|⟨e2,h2⟩|⟨e2,h2⟩<;>rw[e,e2]<;>(constructor <;>intro k<;>first |(exfalso;revert k;decide)|skip)
 .exact Int.mul_pos_of_neg_of_neg h h2
 .exact Int.mul_neg_of_neg_of_pos h h2
 .exact Int.mul_neg_of_pos_of_neg h h2
 .exact Int.mul_pos h h2
theorem aV5{l:List Sd}(hk:k<l.length)(hs:pE l=ι)(h:0<UB l k):WI (l.getD (pre l.length k) Γ) (l.getD k Γ) (fR l k)=ι:=by
 unfold pE at hs;simp only[aI,bX]at hs;have b:=bJ.1 hs.1 _ (KA hk);unfold xP at b;simp only[jA,vS,decide_eq_true_eq]at b;have b1:=b.1;unfold UB at h;unfold Dq dY at b1 h;rw[I9 hk]at b1 h;unfold WI;rw[decide_eq_true_iff];generalize(l.getD k Γ).x-(l.getD (pre l.length k) Γ).x=p at *;generalize(l.getD k Γ).y-(l.getD (pre l.length k) Γ).y=q at *;generalize(fR l k).x-(l.getD k Γ).x=c at *;generalize(fR l k).y-(l.getD k Γ).y=d at *;have m1:=ao1 p d;have m2:=ao1 q c;rcases FC p with⟨e,h1⟩|⟨e,h1⟩|⟨e,h1⟩<;>rcases FC q with⟨e2,h2⟩|⟨e2,h2⟩|⟨e2,h2⟩<;>rw[e,e2]at b1<;>first |(exfalso;revert b1;decide)|skip
 all_goals first
  |(subst h1;rw[show sgI 0*sgI d=0 by rw[e,Ge]]at h;have:=m2.2 oM;rw[Ge];omega)
  |(subst h2;rw[show sgI 0*sgI c=0 by rw[e2,Ge]]at h;have:=m1.1 oM;rw[Ge];omega)
theorem aV6{f:Nat->List Sd}(hs:∀r,r<N->pE (f r)=ι)(h:G8 f N=ι):WP f N=ι:=by
 unfold G8 at h;unfold WP;simp only[aI,bX]at *;refine⟨bJ.2 fun r hr=>bJ.2 fun k hk=>?_,h.2⟩;have h1:=bJ.1 (bJ.1 h.1 r hr) k hk;have h2:=hs r hr;unfold GC at h1;unfold jnX;rcases Int.lt_trichotomy (UB (f r) k) 0 with c|c|c
 .rw[decide_eq_true c,iO]at h1;rw[h1,Bk]
 .unfold pE at h2;simp only[aI,bX]at h2;have b:=bJ.1 h2.1 k hk;unfold xP at b;rw[decide_eq_true c,Bool.or_true]at b;cases b
 .rw[aV5 hk h2 c];rfl
theorem wP{f:Nat->List Sd}(h:oX f N=0):N≠0/\anyN (Mg f) N=ν/\bY f N<=24/\anyN (Hu f) N=ν/\anyN (FZ f) N=ν/\EO f N=ν/\Ba f N=ι/\G8 f N=ι:=by
 by_cases h0:N=0
 .rw[jp h0]at h;cases h
 cases h1:anyN (Mg f) N;case true=>rw[jq h1]at h;cases h
 rw[jr h0 h1]at h;by_cases h2:24<bY f N
 .rw[ip h2]at h;cases h
 rw[iN h2]at h;cases h3:anyN (Hu f) N;case true=>rw[ip h3]at h;cases h
 rw[iN (by rw[h3];decide)]at h;cases h4:anyN (FZ f) N;case true=>rw[ip h4]at h;cases h
 rw[iN (by rw[h4];decide)]at h;cases h5:EO f N;case true=>rw[ip h5]at h;cases h
 rw[iN (by rw[h5];decide)]at h;cases h6:Ba f N<;>cases h7:G8 f N<;>rw[h6,h7]at h<;>first |(cases h;done)|exact⟨h0,rfl,oM,rfl,rfl,rfl,rfl,rfl⟩|(revert h;decide)
theorem aE8{rs:List Rg}(hl:rs.length=N)(h:anyN (Hu (aF rs)) N=ν):∀s∈cK rs,yT s=ι:=fun s hs=>by
 obtain⟨r,hr,hs⟩:=List.mem_flatMap.1 hs
 obtain⟨i,hi,rfl⟩:=fC hr
 obtain⟨j,hj,rfl⟩:=fC hs
 have e:aF rs i=rs[i].ss:=by unfold aF;simp[Ω,hi]
 have h1:=bJ.1 h i oM
 unfold Hu at h1
 rw[e]at h1
 have h2:=bJ.1 h1 j hj
 unfold KD at h2
 rw[show(rs[i].ss).getD j Γ=rs[i].ss[j] by simp[Ω,hj]]at h2
 simpa using h2
theorem zH{rs:List Rg}:bY (aF rs) rs.length=(cK rs).length:=by
 have key:∀k,k<=rs.length->bY (aF rs) k=(cK (rs.take k)).length:=by
  intro k;induction k with
  |zero=>intro _;simp[bY,cK]
  |succ k ih=>
   intro hk;have Yj:k<rs.length:=hk;rw[bY,ih (fM Yj),bM Yj];unfold cK;rw[kA,aJ];congr 1;unfold aF;simp[Ω,Yj]
 rw[key _ (θ _),DM]
theorem aj(a N cap rs w)(hl:rs.length=N)(hN:N<=1000)(hn:∀ r,(aF rs r).length<=1000)(rr:GB w a rs)(h0:oX (aF rs) N=0)(hX:∀ W,Bw w W->aE γ 98 #[Θ a N cap] W (Rt (ω ν) W)):
 aE γ 46 #[bQ #[Θ a N cap]] w (Rt (Υ Ξ 0) w):=by
 obtain⟨c0,c1,c2,c3,c4,c5,c6,c7⟩:=wP h0;have hp:∀ r,r < N->0 < (aF rs r).length:=fun r hr=>by
  have:=bJ.1 c1 r hr;unfold Mg at this;have:=of_decide_eq_false this;omega
 have hC:∀ r,C8 (aF rs r):=Ja (fun r hr=>Fz oM) c3;have xC:∀ r,r < N->pE (aF rs r)=ι:=fun r hr=>by
  have:=bJ.1 c4 r hr;unfold FZ at this;simpa using this
 have CD:(cK rs).length<=24:=by rw [<- zH,hl];exact c2
 have LK:∀ k,k<=N->bY (aF rs) k<=24:=fun k hk=>aA (sW hk) c2;have mG:∀ r∈rs,r.ss.length<=1000/\0 < r.ss.length:=fun r hr=>by
  obtain⟨i,hi,rfl⟩:=fC hr;have e:aF rs i=rs[i].ss:=by unfold aF;simp [Ω,hi]
  rw [<- e];exact⟨hn i,hp i oM⟩
 have HCc:=zq (fun W (hW:Bw w W)=>WR a N cap rs W hl hN oM mG (rr.below hW));have bh0:=aE8 hl c3;have HC1:=zq (fun g c W (r:mJ W (ζ ⟨g,0,δ⟩) (cK rs))=>an8 93 #[] (iC func93 kF rfl) (ζ ⟨g,0,δ⟩) (cK rs).length c (cK rs) (fun i=>!yT ((cK rs).getD i Γ)) W rfl oM r (fun i _ W2 _=>by
  rw [AA];exact vv _ W2))
 have E1:aQ (anyN (fun i=>!yT ((cK rs).getD i Γ)) (cK rs).length=ν):=bJ.2 fun i hi=>by rw [bh0 _ (aN hi Γ)];rfl
 have Ny:=zq (fun W (hW:Bw w W)=>ao0 96 #[] (iC func96 kF rfl) a N cap rs (fun r=>!pE (aF rs r)) W hl oM (rr.below hW) (fun i hi W2 h2=>by
  rw [AA];exact wt _ _ _ (aF rs i) W2 rfl (hn i) (hC i) (((rr.below hW).below h2).at (i:=i) oM rfl).choose_spec.choose_spec.2.2))
 have E2:aQ (anyN (fun r=>!pE (aF rs r)) N=ν):=bJ.2 fun r hr=>by rw [xC r hr];rfl
 have ir:=zq (fun W (hW:Bw w W)=>wa a N cap rs W hl hN hn hp hC (rr.below hW));rw [aV2 c6] at ir;have HJn:=zq (fun W (hW:Bw w W)=>wg a N cap rs W hl hN hn hC (rr.below hW));rw [aV6 xC c7] at HJn;rw [E1.o] at HC1;rw [E2.o] at Ny;have HX:=zq hX;have HR:=zq rr;have HL:=zq hl;have HP:=zq hp;have HN0:=zq c0;have IU:=zq LK;have Z3:aQ (bY (aF rs) N=(cK rs).length):=by show _=_;rw [<- zH,hl]
 clear hX rr hl hp c0 c1 c2 c3 c4 c5 c6 c7 hC xC LK mG bh0 E1 E2 h0 hn;have fL:=nA w (π #[Θ a N cap] 24);have vH:=bE.new w #[Θ a N cap] 24;obtain⟨W0,fI⟩:=nm (w.alloc (π #[Θ a N cap] 24));rw [fI] at fL vH;have gH:=zq fL;have rD:=zq vH;have b0:=vH.ce 0;have HW:=zq fI;clear fL vH fI;refine eE func46 rfl ?_;simp only [ntmps46,bI,aC,bB,cL,dF,bG,bH,cE,bN,cM,bV];go_upto_region 1 with (fail)
 rw [HW.o];clear HW;go_wp2;go_loopw [3,9] (fun t i wr=>∃ r:Nat,i=Υ Ξ r/\t=Υ Ξ (bY (aF rs) r:Nat)/\r<=N/\aQ (Bw W0 wr)) (fun _ i _=>N - (ξ i).toNat);case atStart=>exact⟨0,rfl,rfl,aP _,μ _ _⟩
 case round=>
  clear b0;obtain⟨r,rfl,rfl,hr,HB⟩:=hrel;rename η=>wr;have b0:=(rD.o.below HB.o rD.o.lt).cell 0;simp only [bC,aU] at b0;by_cases hrN:r < N
  .obtain⟨b,o,rfl,c0,-⟩:=(HR.o.below (aW gH.o HB.o)).at (i:=r) (by rw [HL.o];exact hrN) rfl;rw [show(rs.getD r Γ).ss.length=(aF rs r).length from rfl] at c0;have LK:=IU.o r hr;have bq9:=IU.o (r+1) hrN;have gz:=HP.o r hrN;have E1:aQ (bY (aF rs) (r+1)=bY (aF rs) r+(aF rs r).length):=rfl;rw [E1.o] at bq9;generalize (aF rs r).length=n,bY (aF rs) r=C at *;have hrI:(r:Int) < N:=oM;have hz':((n:Int)==0)=ν:=by rw [beq_eq_false_iff_ne];omega
   go_wp2;go_roundw;case rel=>exact⟨r+1,by go_num,by rw [E1.o] <;> go_num,oM,HB.o⟩
   case measure=>simp only [ξ];omega
  .obtain rfl:N=r:=oM;have hc:=IU.o N hr;have hpos:0 < bY (aF rs) N:=by
    have h1:=HP.o 0 (by have:=HN0.o;omega);have h2:=ae (f:=aF rs) (N:=N) (r:=0) (by have:=HN0.o;omega);omega
   generalize bY (aF rs) N=C at *;have hz':((C:Int)==0)=ν:=by rw [beq_eq_false_iff_ne];omega
   have wF:=zq (aW gH.o HB.o);have HC:=zq (HCc.o _ wF.o);go_wp2_with fail
   refine HC.o.mono ?_;rintro e W1 ⟨⟨g,c,rfl,hs⟩,hb⟩;have br0:=wF.bS hb;have eG:=HB.bS hb;have H1:=zq (HC1.o g c W1 hs);have b0:=aY hb b0;clear hs hb HC;go_wp2_with fail
   refine ka H1.o fun W2 hb=>?_;have al1:=br0.bS hb;have b0:=aY hb b0;have H2:=zq (Ny.o _ al1.o);clear hb H1;go_wp2_with fail
   refine ka H2.o fun W3 hb=>?_;have bh1:=al1.bS hb;have b0:=aY hb b0;have H3:=zq (HX.o _ bh1.o);clear hb H2;go_wp2_with fail
   refine ka H3.o fun W4 hb=>?_;have bh2:=bh1.bS hb;have b0:=aY hb b0;have H4:=zq (ir.o _ bh2.o);clear hb H3;go_wp2_with fail
   refine ka H4.o fun W5 hb=>?_;have bh3:=bh2.bS hb;have b0:=aY hb b0;have H5:=zq (HJn.o _ bh3.o);clear hb H4;go_wp2_with fail
   refine kb H5.o bh3.o fun W6 br1=>?_;clear H5;go_wp2;exact sC (iH Tryz.results46 _ _ _) rfl ⟨rfl,br1.o⟩
theorem FD(a N cap rs w)(hl:rs.length=N)(hN:N<=1000)(hn:∀r,(aF rs r).length<=1000)(rr:GB w a rs)(h0:oX (aF rs) N=0):
 aE γ 46 #[bQ #[Θ a N cap]] w (Rt (Υ Ξ 0) w):=by
 obtain⟨c0,c1,c2,c3,c4,c5,c6,c7⟩:=wP h0;exact aj a N cap rs w hl hN hn rr h0 fun W hW=>ai a N cap rs W hl hN hn (rr.below hW) c2 c5
def hdI(s t:Sd):Int:=if s.x<t.x then 0 else if s.y<t.y then 1 else if t.x<s.x then 2 else 3
theorem ak(s t w):aE γ 101 #[s.v,t.v] w (Rt (Υ Ξ (hdI s t)) w):=by
 obtain⟨W0,fI⟩:=nm ((w.alloc (π s.cells 84)).alloc (π t.cells 84));obtain⟨h1,h2,h3⟩:=MJ fI;have HB:=zq h3;obtain⟨s0,s1,-⟩:=Dt h1;obtain⟨r0,r1,-⟩:=Dt h2;have HW:=zq fI;obtain⟨T,hT⟩:=nm (hdI s t);rw[hT];have hx:aQ (s.x<t.x/\T=0\/(s.x<t.x)=False/\s.y<t.y/\T=1\/(s.x<t.x)=False/\(s.y<t.y)=False/\t.x<s.x/\T=2\/(s.x<t.x)=False/\(s.y<t.y)=False/\(t.x<s.x)=False/\T=3):=by
  rw[<-hT];show _\/_;unfold hdI;by_cases h1:s.x<t.x<;>by_cases h2:s.y<t.y<;>by_cases h3:t.x<s.x<;>simp[h1,h2,h3]
 clear hT h1 h2 h3 fI;obtain⟨x,y,rise,run,gable,plate,over⟩:=s;obtain⟨x2,y2,jt,aE9,TP,TQ,ju⟩:=t;unfold Sd.v Sd.cells at *;simp only[]at *;refine eE func101 rfl ?_;simp only[ntmps101,bI,aC,bB,cL,dF,bG,bH,cE,bN,cM,bV];go_upto_region 1 with(fail)
 rw[HW.o];clear HW;rcases hx.o with⟨h1,rfl⟩|⟨h1,h2,rfl⟩|⟨h1,h2,h3,rfl⟩|⟨h1,h2,h3,rfl⟩;all_goals
  clear hx;go_wp2;exact sC (iH Tryz.results101 _ _ _) rfl ⟨rfl,HB.o⟩
theorem mkRat_one(n):mkRat n 1=(n:Rat):=by
 rw[Rat.mkRat_one]
def GF(h:Nat):Bool:=decide (h=1)||decide (h=3)
def Yy(h:Nat):Int:=if h=0\/h=3 then 1 else -1
def KH(w:η):Prop:=∀h,h<4->w.cell? ⟨0,h*2,δ⟩=ζ (ω (GF h))/\w.cell? ⟨0,h*2+1,δ⟩=ζ (Υ Ξ (Yy h))
theorem KH.below(h:KH w)(hb:Bw w w'):KH w':=fun k hk=>⟨aY hb (h k hk).1,aY hb (h k hk).2⟩
def xV(s t:Sd):Nat:=if s.x<t.x then 0 else if s.y<t.y then 1 else if t.x<s.x then 2 else 3
theorem aV7(s t):hdI s t=(xV s t:Nat)/\xV s t<4:=by
 unfold hdI xV;split
 .exact⟨rfl,dD⟩
 .split
  .exact⟨rfl,dD⟩
  .split <;>exact⟨rfl,dD⟩
def Pf(s t:Sd):Fr:=⟨GF (xV s t),if GF (xV s t)=ι then s.x else s.y,Yy (xV s t),if s.gable=ι then[48]else aO (mkRat s.run s.rise.toNat),aO (mkRat s.plate 1)⟩
theorem ao2{x y rise run plate over:Int}{gable:Bool}(h:yT ⟨x,y,rise,run,gable,plate,over⟩=ι):0<=plate/\plate<=65536/\(gable=ν->1<=rise/\rise<=48/\1<=run/\run<=48):=by
 unfold yT outI at h;simp only[aI,bX,jA,decide_eq_false_iff_not]at h;obtain⟨⟨h1,h2,h3,h4⟩,h5⟩:=h;refine⟨oM,oM,fun e=>?_⟩;subst e;rw[iN dD]at h5;simp only[aI,bX,jA,decide_eq_false_iff_not]at h5;omega
theorem five{b:Nat}(h:bE W b #[u0,u1,u2,u3,u4] T):W.cell? ⟨b,0,δ⟩=ζ u0/\W.cell? ⟨b,1,δ⟩=ζ u1/\W.cell? ⟨b,2,δ⟩=ζ u2/\W.cell? ⟨b,3,δ⟩=ζ u3/\W.cell? ⟨b,4,δ⟩=ζ u4/\W.frozen? ⟨b,0,δ⟩=ν/\W.frozen? ⟨b,1,δ⟩=ν/\W.frozen? ⟨b,2,δ⟩=ν/\W.frozen? ⟨b,3,δ⟩=ν/\W.frozen? ⟨b,4,δ⟩=ν/\b<W.heap.size:=
 ⟨h.cell 0,h.cell 1,h.cell 2,h.cell 3,h.cell 4,h.fz 0,h.fz 1,h.fz 2,h.fz 3,h.fz 4,h.lt⟩
theorem RP(W):(isAgg 46).run γ W=.ok ι W:=by first |rfl|kernel_rfl
theorem Ol(W):(sizeOf 46).run γ W=.ok 5 W:=by first |rfl|kernel_rfl
theorem Ck{p:Tmp}(h:fn.results= #[.cell p ty])(tmps w g x y z u o)(hp:tmps.getD p ψ=aB (ζ ⟨g,0,δ⟩))(hb:bE w g #[x,y,z,u,o] T)(ha:∀w,(isAgg ty).run P w=.ok ι w)(hs:∀w,(sizeOf ty).run P w=.ok 5 w):
 (gP fn tmps).run P w=.ok (bQ #[x,y,z,u,o]) w:=by
 have S7:tmps[p]?.getD ψ=aB (ζ ⟨g,0,δ⟩):=by simpa using hp
 obtain⟨c0,c1,c2,c3,c4,-⟩:=five hb;simp[gP,h,go_sem,S7,c0,c1,c2,c3,c4,ha,hs]
theorem bE.set5{b:Nat}{x y o e:χ}(h:bE W b #[x,y,z,o,e] T)(u v r q j):bE (((((W.setCell ⟨b,0,δ⟩ u).setCell ⟨b,1,δ⟩ v).setCell ⟨b,2,δ⟩ r).setCell ⟨b,3,δ⟩ q).setCell ⟨b,4,δ⟩ j) b #[u,v,r,q,j] T:=((((h.set 0 u).set 1 v).set 2 r).set 3 q).set 4 j
theorem Om(h:Below B w W)(hc:B<=c)(u v r q j):Below B w (((((W.setCell ⟨c,0,δ⟩ u).setCell ⟨c,1,δ⟩ v).setCell ⟨c,2,δ⟩ r).setCell ⟨c,3,δ⟩ q).setCell ⟨c,4,δ⟩ j):=
 ((((h.setCell (p:=⟨c,0,δ⟩) hc u).setCell (p:=⟨c,1,δ⟩) hc v).setCell (p:=⟨c,2,δ⟩) hc r).setCell (p:=⟨c,3,δ⟩) hc q).setCell (p:=⟨c,4,δ⟩) hc j
theorem bh4(s t w)(hE:mV w)(hD:KH w)(hs:yT s=ι):aE γ 47 #[s.v,t.v] w (Rt ((Pf s t).v) w):=by
 obtain⟨W1,tZ⟩:=nm ((w.alloc (π s.cells 84)).alloc (π t.cells 84));obtain⟨W0,fI⟩:=nm (W1.alloc (π #[ω ν,Υ Ξ 0,Υ Ξ 0,Δ ⟨#[]⟩,Δ ⟨#[]⟩] 46));obtain⟨h1,h2,h3⟩:=MJ tZ;have Dv:W1.heap.size=w.heap.size+1+1:=by rw[<-tZ];simp
 have Jt:Bw W1 W0:=by rw[<-fI];exact nA _ _
 have h4:bE W0 W1.heap.size #[ω ν,Υ Ξ 0,Υ Ξ 0,Δ ⟨#[]⟩,Δ ⟨#[]⟩] 46:=by rw[<-fI];exact bE.new _ _ _
 rw[Dv]at h4;have HB:=zq (aW h3 Jt);have H1:=zq (h1.below Jt h1.lt);have H2:=zq (h2.below Jt h2.lt);have H4:=zq h4;have HW:aQ (((w.alloc (π s.cells 84)).alloc (π t.cells 84)).alloc (π #[ω ν,Υ Ξ 0,Υ Ξ 0,Δ ⟨#[]⟩,Δ ⟨#[]⟩] 46)=W0):=by show _=_;rw[tZ,fI]
 obtain⟨eh,hh⟩:=aV7 s t;have HH:=zq (fun W=>ak s t W);rw[eh]at HH;have HD:=zq hD;have HE:=zq hE;have ER:aQ (Pf s t=⟨GF (xV s t),if GF (xV s t)=ι then s.x else s.y,Yy (xV s t),if s.gable=ι then[48]else aO (mkRat s.run s.rise.toNat),aO (mkRat s.plate 1)⟩):=rfl;generalize xV s t=h,Pf s t=F at *;clear h1 h2 h3 h4 Jt fI tZ Dv hE hD eh;have HS:=zq hs;obtain⟨x,y,rise,run,gable,plate,over⟩:=s;obtain⟨x2,y2,jt,aE9,TP,TQ,ju⟩:=t;unfold Sd.v Sd.cells at *;simp only[]at *;clear hs;refine eE func47 rfl ?_;simp only[ntmps47,bI,aC,bB,cL,dF,bG,bH,cE,bN,cM,bV];go_upto_region 1 with(fail)
 rw[HW.o];clear HW;obtain⟨s0,s1,s2,s3,s4,s5,s6⟩:=Dt H1.o;obtain⟨r0,r1,r2,r3,r4,r5,r6⟩:=Dt H2.o;go_wp2_with fail
 refine ka (HH.o _) fun W2 hb=>?_;have eU:=HB.bS hb;have H1':=H1.bb hb;have H4':=H4.bb hb;obtain⟨d0,d1⟩:=HD.o.below eU.o h hh;clear hb s0 s1 s2 s3 s4 s5 s6 r0 r1 r2 r3 r4 r5 r6 H1 H2 H4 HB HH;generalize Yy h=D,GF h=U at *;have hI:(h:Int)<4:=oM;go_upto_region 2 with(fail)
 obtain⟨V,hV⟩:=nm (W2.alloc (π #[ω U,Υ Ξ D] 160));have hb:=nA W2 (π #[ω U,Υ Ξ D] 160);have hd:=bE.new W2 #[ω U,Υ Ξ D] 160;rw[hV]at hb hd|-;have HV:=eU.bS hb;have Yk:=zq hd;have H1v:=H1'.bb hb;have H4v:=H4'.bb hb;obtain⟨e0,e1,-,-,-⟩:=tQ hd;obtain⟨s0,s1,s2,s3,s4,s5,s6⟩:=Dt H1v.o;clear hb hd hV H1' H4' d0 d1 eU;go_upto_region 3 with(fail)
 obtain⟨V3,hV3⟩:=nm (V.alloc (π #[ω U,Υ Ξ y,Υ Ξ D,Δ ⟨#[48]⟩,Δ ⟨#[]⟩] 46));have hb:=nA V (π #[ω U,Υ Ξ y,Υ Ξ D,Δ ⟨#[48]⟩,Δ ⟨#[]⟩] 46);have hf:=bE.new V #[ω U,Υ Ξ y,Υ Ξ D,Δ ⟨#[48]⟩,Δ ⟨#[]⟩] 46;rw[hV3]at hb hf|-;have HV3:=HV.bS hb;have HF:=zq hf;have H1w:=H1v.bb hb;have H4w:=H4v.bb hb;have HDw:=Yk.bb hb;obtain⟨e0,e1,-,-,-⟩:=tQ HDw.o;obtain⟨s0,s1,s2,s3,s4,s5,s6⟩:=Dt H1w.o;obtain⟨f0,f1,f2,f3,f4,z0,z1,z2,z3,z4,lf⟩:=five hf;have HFB:aQ (w.heap.size+1+1<V.heap.size):=H4v.o.lt;clear hb hf hV3 H1v H4v HV Yk;obtain⟨FB,hFB⟩:=nm V.heap.size;rw[hFB]at HF f0 f1 f2 f3 f4 z0 z1 z2 z3 z4 lf HFB|-;clear hFB;obtain⟨p1,p2,p3⟩:=ao2 HS.o;have HO:=zq (fun W(hW:Bw w W)=>IF plate W (HE.o.below hW) oM);rw[mkRat_one plate]at ER;have HQ:aQ (gable=ν->∀W,Bw w W->aE γ 49 #[Υ Ξ run,Υ Ξ rise] W (Rt (bT #[Δ (bs (aO (mkRat run rise.toNat))),Υ Ξ 0]) W)):=fun hg W hW=>by
  obtain⟨q1,q2,q3,q4⟩:=p3 hg;have:=ay3 run rise.toNat W (HE.o.below hW) oM oM oM;rwa[Int.toNat_of_nonneg oM]at this
 generalize aO (plate:Rat)=PS,aO (mkRat run rise.toNat)=QS at *;clear p1 p2 p3 HS HE HD;obtain⟨C,hC⟩:=nm (if U=ι then x else y);have HC:=zq hC;rw[hC]at ER;clear hC;have Mh:aQ (w.heap.size≠FB/\w.heap.size+1+1≠FB/\w.heap.size<=FB):=⟨by have:=HFB.o;omega,by have:=HFB.o;omega,by have:=HFB.o;omega⟩;have Pb:=zq (HF.o.set 1 (Υ Ξ x));have HV4:=zq (HV3.o.setCell (p:=⟨FB,1,δ⟩) Mh.o.2.2 (Υ Ξ x));have H1x:=zq (H1w.o.other (a:=⟨FB,1,δ⟩) (Υ Ξ x) Mh.o.1);have H4x:=zq (H4w.o.other (a:=⟨FB,1,δ⟩) (Υ Ξ x) Mh.o.2.1);simp only[aX,bU,cR]at Pb;cases U;case' false=>
  go_upto_region 5 with(fail)
  have hc:y=C:=HC.o;subst hc;have HF5:=HF;have HV5:=HV3;have H15:=H1w;have H45:=H4w;clear Pb HV4 H1x H4x
 case' true=>
  go_upto_region 5 with(fail)
  have hc:x=C:=HC.o;subst hc;have HF5:=Pb;have HV5:=HV4;have H15:=H1x;have H45:=H4x;clear Pb HV4 H1x H4x;generalize V3.setCell ⟨FB,1,δ⟩ (Υ Ξ x)=V3 at *
 all_goals
  clear HC HF HV3 H1w H4w HDw e0 e1 s0 s1 s2 s3 s4 s5 s6 f0 f1 f2 f3 f4 z0 z1 z2 z3 z4 lf;obtain⟨s0,s1,s2,s3,s4,s5,s6⟩:=Dt H15.o;obtain⟨f0,f1,f2,f3,f4,z0,z1,z2,z3,z4,lf⟩:=five HF5.o;have hO:=zq (HO.o _ HV5.o)
 all_goals
  cases gable
  .have hQ:=zq (HQ.o rfl _ HV5.o);go_wp2_with fail
   refine ka hQ.o fun V6 hb=>?_;have HV6:=HV5.bS hb;have HF6:=HF5.bb hb;have H16:=H15.bb hb;have H46:=H45.bb hb;clear hb hQ hO s0 s1 s2 s3 s4 s5 s6 f0 f1 f2 f3 f4 z0 z1 z2 z3 z4 lf HF5 H15 H45 HV5;obtain⟨s0,s1,s2,s3,s4,s5,s6⟩:=Dt H16.o;obtain⟨f0,f1,f2,f3,f4,z0,z1,z2,z3,z4,lf⟩:=five HF6.o;go_upto_region 7 with(fail)
   have HF7:=zq (HF6.o.set 3 (Δ (bs QS)));have HV7:=zq (HV6.o.setCell (p:=⟨FB,3,δ⟩) Mh.o.2.2 (Δ (bs QS)));have H17:=zq (H16.o.other (a:=⟨FB,3,δ⟩) (Δ (bs QS)) Mh.o.1);have H47:=zq (H46.o.other (a:=⟨FB,3,δ⟩) (Δ (bs QS)) Mh.o.2.1);simp only[aX,bU,cR]at HF7;clear s0 s1 s2 s3 s4 s5 s6 f0 f1 f2 f3 f4 z0 z1 z2 z3 z4 lf HF6 H16 H46 HV6;generalize V6.setCell ⟨FB,3,δ⟩ (Δ (bs QS))=V7 at *;obtain⟨s0,s1,s2,s3,s4,s5,s6⟩:=Dt H17.o;have hO:=zq (HO.o _ HV7.o);go_wp2_with fail
   refine ka hO.o fun V8 hb=>?_;have HV8:=HV7.bS hb;have HF8:=HF7.bb hb;have H48:=H47.bb hb;obtain⟨g0,g1,g2,g3,g4,y0,y1,y2,y3,y4,lg⟩:=five HF8.o;obtain⟨k0,k1,k2,k3,k4,v0,v1,v2,v3,v4,lk⟩:=five H48.o;have aV8:=Mh.o.2.1;have aj5:=Ne.symm Mh.o.2.1;clear hb;go_wp2;refine sC (v:=F.v) (by rw[ER.o];exact Ck rfl _ _ (w.heap.size+1+1) _ _ _ _ _ rfl (bE.set5 (H48.o.other (a:=⟨FB,4,δ⟩) (Δ (bs PS)) aV8) _ _ _ _ _) RP Ol) rfl ⟨rfl,Om (HV8.o.setCell (p:=⟨FB,4,δ⟩) Mh.o.2.2 (Δ (bs PS))) oM _ _ _ _ _⟩
  .go_wp2_with fail
   refine ka hO.o fun V8 hb=>?_;have HV8:=HV5.bS hb;have HF8:=HF5.bb hb;have H48:=H45.bb hb;obtain⟨g0,g1,g2,g3,g4,y0,y1,y2,y3,y4,lg⟩:=five HF8.o;obtain⟨k0,k1,k2,k3,k4,v0,v1,v2,v3,v4,lk⟩:=five H48.o;have aV8:=Mh.o.2.1;have aj5:=Ne.symm Mh.o.2.1;clear hb;go_wp2;refine sC (v:=F.v) (by rw[ER.o];exact Ck rfl _ _ (w.heap.size+1+1) _ _ _ _ _ rfl (bE.set5 (H48.o.other (a:=⟨FB,4,δ⟩) (Δ (bs PS)) aV8) _ _ _ _ _) RP Ol) rfl ⟨rfl,Om (HV8.o.setCell (p:=⟨FB,4,δ⟩) Mh.o.2.2 (Δ (bs PS))) oM _ _ _ _ _⟩
def jM(l:List Fr):List χ:=l.flatMap fun s=>s.cells.toList
theorem WS(l):(jM l).length=l.length*5:=by
 induction l with
 |nil=>rfl
 |cons q qs ih=>simp[jM]at *;omega
theorem WU(l m):jM (l++m)=jM l++jM m:=by simp[jM]
def jv(l:List Sd)(n:Nat):List Fr:=(cI n).map fun i=>Pf (l.getD i Γ) (fR l i)
def fP(f:Nat->List Sd):Nat->List Fr
 |0=>[]
 |n+1=>fP f n++jv (f n) (f n).length
theorem ao3(l n):jv l (n+1)=jv l n++[Pf (l.getD n Γ) (fR l n)]:=by unfold jv;rw[sB,dV];rfl
theorem aF0(l n):(jv l n).length=n:=by simp[jv]
theorem nG(f:Nat->List Sd):∀n,(fP f n).length=bY f n
 |0=>rfl
 |n+1=>by rw[fP,aJ,nG f n,aF0];rfl
theorem aF1:(Tryz.prog.info? 46).map (fun i=>(i.zero,i.size,i.bytes))=ζ (ζ (bQ #[ω ν,Υ Ξ 0,Υ Ξ 0,Δ ⟨#[]⟩,Δ ⟨#[]⟩]),5,56):=kF
theorem an(a N cap rs w)(hl:rs.length=N)(hN:N<=1000)(hn:∀ r,(aF rs r).length<=1000)(rr:GB w a rs)(h0:oX (aF rs) N=0)(hE:mV w)(hD:KH w)(wu:∀ W,Bw w W->aE γ 46 #[bQ #[Θ a N cap]] W (Rt (Υ Ξ 0) W)):
 aE γ 20 #[bQ #[Θ a N cap]] w fun e w'=>(∃ v,e=σ (bT #[v,Υ Ξ 0])/\w'.ownsRow w.heap.size 46 5 v (bY (aF rs) N) (jM (fP (aF rs) N)))/\Bw w w':=by
 obtain⟨c0,c1,c2,c3,-⟩:=wP h0;have LK:∀ k,k<=N->bY (aF rs) k<=24:=fun k hk=>aA (sW hk) c2;have HS:aQ (∀ r i,r < N->i < (aF rs r).length->yT ((aF rs r).getD i Γ)=ι):=fun r i hr hi=>by
  have h1:=bJ.1 (bJ.1 c3 r hr) i hi;unfold KD at h1;simpa using h1
 have HF:=zq (fun s t (h:yT s=ι) W (hW:Bw w W)=>bh4 s t W (hE.below hW) (hD.below hW) h);have IU:=zq LK;have HR:=zq rr;have HL:=zq hl;have QD:=zq wu;have Hn:=zq hn;clear hl rr h0 hE hD wu LK c0 c1 c2 c3 hn;have fL:=nA w (π #[Θ a N cap] 24);have vH:=bE.new w #[Θ a N cap] 24;obtain⟨W0,fI⟩:=nm (w.alloc (π #[Θ a N cap] 24));rw [fI] at fL vH;have gH:=zq fL;have rD:=zq vH;have b0:=vH.ce 0;have HW:=zq fI;clear fL vH fI;refine eE func20 rfl ?_;simp only [ntmps20,bI,aC,bB,cL,dF,bG,bH,cE,bN,cM,bV];go_upto_region 1 with (fail)
 rw [HW.o];clear HW;have HC0:=zq (QD.o _ gH.o);go_wp2_with fail
 refine ka HC0.o fun W1 hb=>?_;have eG:=gH.bS hb;have Fv:=rD.bb hb;have b0:=aY hb b0;clear hb HC0 QD rD;go_wp2;go_loopw [4,15] (fun v i wr=>∃ r:Nat,i=Υ Ξ r/\r<=N/\aQ (wr.ownsRow w.heap.size 46 5 v (bY (aF rs) r) (jM (fP (aF rs) r)))/\aQ (Bw w wr)) (fun _ i _=>N - (ξ i).toNat);case atStart=>exact⟨0,rfl,aP _,⟨rfl,.inl ⟨rfl,rfl⟩⟩,eG.o⟩
 case round=>
  clear b0;obtain⟨r,rfl,hr,HO,HB⟩:=hrel;rename η=>wr;by_cases hrN:r < N
  .obtain⟨b,o,rfl,k0,RD⟩:=(HR.o.below HB.o).at (i:=r) (by rw [HL.o];exact hrN) rfl;rw [show(rs.getD r Γ).ss.length=(aF rs r).length from rfl] at k0;have E1:aQ (fP (aF rs) (r+1)=fP (aF rs) r ++ jv (aF rs r) (aF rs r).length):=rfl;have E2:aQ (bY (aF rs) (r+1)=bY (aF rs) r+(aF rs r).length):=rfl;have LK:=IU.o (r+1) hrN;rw [E2.o] at LK;have HSr:=zq (fun i=>HS.o r i hrN);have GD:aQ (∀ W,Bw w W->mJ W (rs.getD r Γ).a (aF rs r)):=fun W hW=>((HR.o.below hW).at (i:=r) (by rw [HL.o];exact hrN) rfl).choose_spec.choose_spec.2.2;clear RD;obtain⟨A1,Yw⟩:=nm (fP (aF rs) (r+1));obtain⟨C1,hC1⟩:=nm (bY (aF rs) (r+1));rw [Yw] at E1;rw [hC1] at E2;have Uw:=zq Yw;have HC1:=zq hC1;clear Yw hC1;generalize aF rs r=l,(rs.getD r Γ).cap=cr,(rs.getD r Γ).a=ar,bY (aF rs) r=C0,fP (aF rs) r=A0 at *;obtain⟨n,LD⟩:=nm l.length;rw [LD] at k0 E1 E2 LK HSr;have Uz:=zq LD;clear LD;have hrI:(r:Int) < N:=oM;have hNr:jM (A0 ++ jv l 0)=jM A0:=by simp [jv]
   go_wp2;go_loopw [4,21] (fun v i wi=>∃ k:Nat,i=Υ Ξ k/\k<=n/\aQ (wi.ownsRow w.heap.size 46 5 v (C0+k) (jM (A0 ++ jv l k)))/\aQ (Bw w wi)) (fun _ i _=>n - (ξ i).toNat);case atStart=>exact⟨0,rfl,aP _,by rw [hNr];exact HO.o,HB.o⟩
   case round=>
    clear k0;obtain⟨k,rfl,hk,Ps,eU⟩:=hrel;rename η=>wi;by_cases hkn:k < n
    .obtain⟨pb,po,rfl,f0,f1,f2,f3,f4,f5,f6⟩:=(GD.o wi eU.o).at (i:=k) (by rw [Uz.o];exact hkn) rfl;have Hs:=zq (HSr.o k hkn);have ES:=zq (ao3 l k);have FU:=MD k n;have hmn:(k+1) % n < n:=aV _ oM;have R3:=zq (fun (V:η) (h:mJ V (ζ ⟨pb,po,δ⟩) l)=>h.at (i:=(k+1) % n) (s:=fR l k) (by rw [Uz.o];exact hmn) (by unfold fR;rw [Uz.o]));have HFk:=zq (fun W hW=>HF.o (l.getD k Γ) (fR l k) Hs.o W hW);have HX2:aQ (l.getD ((k+1) % n) Γ=fR l k):=by show _=_;unfold fR;rw [Uz.o]
     generalize (k+1) % n=m2,fR l k=t,l.getD k Γ=s,Pf (l.getD k Γ) (fR l k)=FR at *;obtain⟨x,y,rise,run,gable,plate,over⟩:=s;obtain⟨x2,y2,jt,aE9,TP,TQ,ju⟩:=t;simp only [] at f0 f1 f2 f3 f4 f5 f6;unfold Sd.v Sd.cells at HFk;simp only [] at HFk;obtain⟨fu,fc,fd,fp,ft⟩:=FR;have hki:(k:Int) < n:=oM;unfold Fr.v Fr.cells at HFk;simp only [] at HFk;go_upto_region 10 with (fail)
     obtain⟨wb,Zs⟩:=nm (wi.alloc (π #[Υ Ξ x,Υ Ξ y,Υ Ξ rise,Υ Ξ run,ω gable,Υ Ξ plate,Υ Ξ over] 84));have hbb:=nA wi (π #[Υ Ξ x,Υ Ξ y,Υ Ξ rise,Υ Ξ run,ω gable,Υ Ξ plate,Υ Ξ over] 84);have hqb:=bE.new wi #[Υ Ξ x,Υ Ξ y,Υ Ξ rise,Υ Ξ run,ω gable,Υ Ξ plate,Υ Ξ over] 84;rw [Zs] at hbb hqb |-;clear Zs f0 f1 f2 f3 f4 f5 f6;obtain⟨s0,s1,s2,s3,s4,s5,s6⟩:=Dt hqb;have HBb:=eU.bS hbb;obtain⟨pb',po',e1,d0,d1,d2,d3,d4,d5,d6⟩:=R3.o wb (GD.o wb HBb.o);injection e1 with e1;injection e1 with e1 e2;subst e1 e2;simp only [] at d0 d1 d2 d3 d4 d5 d6;have HOb:=zq (aR Ps.o hbb);have HN4:=zq (fun (V:η) (h:Bw w V)=>(GD.o V h).range (i:=m2) (s:=⟨x2,y2,jt,aE9,TP,TQ,ju⟩) (by rw [Uz.o];exact hmn) HX2.o);clear hbb Ps eU;have w3:IntKind.i64.wrap ((k:Int)+1)=(k:Int)+1:=aM _ oM;have v3:(m2:Int) < n:=oM;have v4:(0:Int)<=(m2:Int):=oM;have v5:¬ n=0:=oM;refine tJ 12 (fun | 11=>.made | _=>.quiet) (fun V=>bE V wi.heap.size #[Υ Ξ x,Υ Ξ y,Υ Ξ rise,Υ Ξ run,ω gable,Υ Ξ plate,Υ Ξ over] 84/\Bw w V) ⟨hqb,HBb.o.drew⟩ ?_ (st:=fun w1 w2 h hb=>⟨h.1.below hb hqb.lt,h.2.trans (hb.mono HBb.o.size)⟩);refine qS 0 rfl (pu ?_);refine qL 1 wi.heap.size 0 #[Υ Ξ x,Υ Ξ y,Υ Ξ rise,Υ Ξ run,ω gable,Υ Ξ plate,Υ Ξ over] (fun V h=>h.1.1) rfl (pu ?_);refine qS 2 rfl (pu ?_);refine qS 3 rfl (pu ?_);refine qS 4 rfl (pu ?_);refine qS 5 rfl (pu ?_);refine qS 6 rfl (pu ?_);refine qS 7 rfl (pu ?_);refine qS 8 rfl (pu ?_);refine qR 9 pb (po+m2 * 7) #[Υ Ξ x2,Υ Ξ y2,Υ Ξ jt,Υ Ξ aE9,ω TP,Υ Ξ TQ,Υ Ξ ju] (fun V h=>HN4.o V h.1.2) rfl (pu ?_);refine qC 10 (fun W h=>HFk.o W h.1.2) rfl (pu ?_);refine qM 11 #[ω fu,Υ Ξ fc,Υ Ξ fd,Δ (bs fp),Δ (bs ft)] 46 (fun g=>Θ (ζ ⟨g,0,δ⟩) 1 1) rfl (fun g hg hn=>pu ?_) ⟨fun _=>rfl,fun w=>by go_simp⟩;refine qT fun V hV hG=>?_;have hG5:bE V g #[ω fu,Υ Ξ fc,Υ Ξ fd,Δ (bs fp),Δ (bs ft)] 46:=hG g _ _ (by unfold DQ;rw [ip rfl]);have uB:=hV.b;have hVb:Bw w V:=hV.1.2;have hOV:=aR HOb.o uB;clear hV hG;refine eI 12 [] rfl (fun K hK=>?_) dW;rw [ip kF];obtain⟨i0,hi,Ak,yP,uT⟩:=jJ aF1;refine Kz _ _ 27 rfl w.heap.size 46 i0 (bQ #[ω ν,Υ Ξ 0,Υ Ξ 0,Δ ⟨#[]⟩,Δ ⟨#[]⟩]) 5 56 underlying27 hi Ak yP uT rfl dD _ (C0+k) _ rfl hOV ⟨g,0,δ⟩ 1 1 [ω fu,Υ Ξ fc,Υ Ξ fd,Δ (bs fp),Δ (bs ft)] rfl rfl (fun j u hj=>by rw [qP,bD,hG5.cell];simpa using hj) (by simp [iP]) (by unfold yE;omega) oM hVb.size ?_;intro v' w' lH hg';refine hK _ _ (pu ?_);refine tI 13 rfl (pu ?_);refine mL kF ?_ _;refine jH.normal ?_;have xU:=zq (dT (hVb) hg' hOV (θ _) hVb.size);have aN9:jM (A0 ++ jv l k) ++ [ω fu,Υ Ξ fc,Υ Ξ fd,Δ (bs fp),Δ (bs ft)]=jM (A0 ++ jv l (k+1)):=by
      rw [ES.o,<- sI,WU (A0 ++ jv l k)];rfl
     rw [aN9] at lH;have HO6:=zq lH;clear hK hg' lH hOV uB hG5 hVb aN9;go_wp2;go_roundw;case rel=>exact⟨k+1,by go_num,oM,HO6.o,xU.o⟩
     case measure=>simp only [ξ];omega
    .obtain rfl:n=k:=oM;have PU:=Ps.o;rw [<- E1.o,<- E2.o,<- Uw.o,<- HC1.o] at PU;have PU:=zq PU;go_wp2;go_roundw;case rel=>exact⟨r+1,by go_num,oM,PU.o,eU.o⟩
     case measure=>simp only [ξ];omega
  .obtain rfl:N=r:=oM;go_wp2;exact sC (nD rfl _ _) rfl ⟨⟨_,rfl,HO.o⟩,HB.o⟩
theorem On:∀(l:List Fr)(i j:Nat),i<l.length->j<5->(jM l)[i*5+j]? =ζ ((l.getD i Γ).cells.getD j ψ)
 |[],i,_,h,_=>by simp at h
 |q::qs,0,j,_,hj=>by
  have e:jM (q::qs)=q.cells.toList++jM qs:=rfl
  rw[e,vO,bD,nQ (by simpa using hj)]
  match j,hj with
  |0,_=>rfl
  |1,_=>rfl
  |2,_=>rfl
  |3,_=>rfl
  |4,_=>rfl
 |q::qs,i+1,j,h,hj=>by
  have e:jM (q::qs)=q.cells.toList++jM qs:=rfl
  rw[e,fA (by simp;omega),show(i+1)*5+j-q.cells.toList.length=i*5+j by simp;omega]
  exact On qs i j (by simpa using h) hj
theorem yA.own{n:Nat}{l:List Fr}(h:w.ownsRow cH e 5 (Θ a n cap) n (jM l)):yA w a l:=by
 intro i hi;have hl:=h.1;rw[WS]at hl;rcases h.2 with⟨_,h2⟩|⟨g,c,pZ,hv,_⟩
 .omega
 .injection hv with e1 e2 e3;subst e1 e3;refine⟨g,0,rfl,fun j hj=>?_⟩;rw[bD,dN h (i*5+j) oM];exact On l i j hi hj
theorem WV(a N cap rs w)(hl:rs.length=N)(hN:N<=1000)(LH:0<N)(hn:∀r∈rs,r.ss.length<=1000/\0<r.ss.length)(rr:GB w a rs)(wu:∀W,Bw w W->aE γ 46 #[bQ #[Θ a N cap]] W (Rt (Υ Ξ 0) W)):
 aE γ 48 #[bQ #[Θ a N cap]] w fun e w'=>(∃g c,e=σ (bT #[Θ (ζ ⟨g,0,δ⟩) (cK rs).length c,Υ Ξ 0])/\mJ w' (ζ ⟨g,0,δ⟩) (cK rs))/\Bw w w':=by
 have HCc:=zq (fun W(hW:Bw w W)=>WR a N cap rs W hl hN LH hn (rr.below hW));have QD:=zq wu;clear hl hn rr wu;have fL:=nA w (π #[Θ a N cap] 24);have vH:=bE.new w #[Θ a N cap] 24;obtain⟨W0,fI⟩:=nm (w.alloc (π #[Θ a N cap] 24));rw[fI]at fL vH;have gH:=zq fL;have b0:=vH.ce 0;have HW:=zq fI;clear fL vH fI;refine eE func48 rfl ?_;simp only[ntmps48,bI,aC,bB,cL,dF,bG,bH,cE,bN,cM,bV];go_upto_region 1 with(fail)
 rw[HW.o];clear HW;have HC0:=zq (QD.o _ gH.o);go_wp2_with fail
 refine ka HC0.o fun W1 hb=>?_;have eG:=gH.bS hb;have b0:=aY hb b0;have H1:=zq (HCc.o _ eG.o);clear hb HC0 QD;go_wp2_with fail
 refine H1.o.mono ?_;rintro e W2⟨⟨g,c,rfl,hs⟩,hb⟩;have eU:=eG.bS hb;have HS:=zq hs;clear hb hs H1;go_wp2;exact sC (nD rfl _ _) rfl ⟨⟨g,c,rfl,HS.o⟩,eU.o⟩
def Cm(ss:List Sd)(fs:List Fr)(i j:Nat):Int:=if(fs.getD i Γ).up=ι then(ss.getD j Γ).y else(ss.getD j Γ).x
theorem wv(SB FB sa fa n m ca cb i j ss fs w)(hE:mV w)(hs:ss.length=n)(hf:fs.length=m)(hi:i<m)(hj:j<n)(hn:n<=1000)(hm:m<=1000)(cs:w.cell? ⟨SB,0,δ⟩=ζ (Θ sa n ca))(cf:w.cell? ⟨FB,0,δ⟩=ζ (Θ fa m cb))(rs:mJ w sa ss)(rf:yA w fa fs)(hC:C8 ss):
 aE γ 50 #[Υ Ξ i,Υ Ξ j,aB (ζ ⟨SB,0,δ⟩),aB (ζ ⟨FB,0,δ⟩)] w (Rt (Δ (bs (aO ((Cm ss fs i j:Int):Rat)))) w):=by
 obtain⟨b,o,rfl,s0,s1,-⟩:=rs.at (i:=j) oM rfl;obtain⟨b2,o2,rfl,f0,f1,-⟩:=rf.at (i:=i) oM rfl;obtain⟨x1,x2,y1,y2⟩:=hC j;have hL:(Cm ss fs i j).natAbs<10^18:=by unfold Cm;split <;>omega
 have HO:=zq (fun W(hW:Bw w W)=>IF (Cm ss fs i j) W (hE.below hW) hL);have EL:aQ (Cm ss fs i j=if(fs.getD i Γ).up=ι then(ss.getD j Γ).y else(ss.getD j Γ).x):=rfl;obtain⟨C,hCe⟩:=nm (Cm ss fs i j);rw[hCe]at HO EL|-;generalize(ss.getD j Γ).x=x at *;generalize(ss.getD j Γ).y=y at *;generalize(fs.getD i Γ).up=u at *;have hiI:(i:Int)<m:=oM;have hjI:(j:Int)<n:=oM;clear rs rf hE hs hf hC hL hCe x1 x2 y1 y2 f1;have E:aQ (C=if u=ι then y else x):=EL;cases u
 .obtain rfl:C=x:=E.o;refine eE func50 rfl ?_;simp only[ntmps50,bI,aC,bB,cL,dF,bG,bH,cE,bN,cM,bV];go_wp2_with fail
  refine ka (HO.o _ (μ _ _)) fun W hb=>?_;go_wp2;exact sC (iH Tryz.results50 _ _ _) rfl ⟨rfl,hb⟩
 .obtain rfl:C=y:=E.o;refine eE func50 rfl ?_;simp only[ntmps50,bI,aC,bB,cL,dF,bG,bH,cE,bN,cM,bV];go_wp2_with fail
  refine ka (HO.o _ (μ _ _)) fun W hb=>?_;go_wp2;exact sC (iH Tryz.results50 _ _ _) rfl ⟨rfl,hb⟩
theorem Hw(f:Nat->List Sd):∀(N i:Nat),i<bY f N->∃r k,r<N/\k<(f r).length/\i=bY f r+k
 |0,i,h=>by simp[bY]at h
 |N+1,i,h=>by
  rw[bY]at h
  by_cases h1:i<bY f N
  .obtain⟨r,k,h2,h3,h4⟩:=Hw f N i h1
   exact⟨r,k,oM,h3,h4⟩
  .exact⟨N,i-bY f N,oM,oM,oM⟩
theorem KI{f:Nat->List Sd}:∀{N:Nat},r<N->k<(f r).length->bY f r+k<bY f N:=fun{N}hr hk=>by
 have:bY f (r+1)<=bY f N:=sW hr
 rw[bY]at this
 omega
theorem Oo{l m:List α}(h:i<l.length)(d:α):(l++m).getD i d=l.getD i d:=by
 simp[Ω,nQ h]
theorem Oq{l m:List α}{n:Nat}(h:l.length=n)(d:α):(l++m).getD (n+i) d=m.getD i d:=by
 subst h;simp[Ω,fA]
theorem vC(f:Nat->List Sd):∀(N:Nat) {r k:Nat},r<N->k<(f r).length->(fP f N).getD (bY f r+k) Γ=Pf ((f r).getD k Γ) (fR (f r) k)
 |N+1,r,k,hr,hk=>by
  rw[fP]
  by_cases h:r<N
  .rw[Oo (by rw[nG];exact KI h hk)]
   exact vC f N h hk
  .obtain rfl:r=N:=oM
   rw[Oq (nG f r)]
   unfold jv
   simp[Ω,hk]
theorem zI{rs:List Rg}(hr:r<rs.length)(hk:k<(aF rs r).length):(cK rs).getD (bY (aF rs) r+k) Γ=(aF rs r).getD k Γ:=by
 have h1:rs=rs.take r++rs[r]::rs.drop (r+1):=by rw[List.getElem_cons_drop,List.take_append_drop]
 have h2:bY (aF rs) r=(cK (rs.take r)).length:=by
  have:∀k,k<=r->bY (aF rs) k=bY (aF (rs.take r)) k:=by
   intro k;induction k with
   |zero=>intro _;rfl
   |succ k ih=>
    intro hk;rw[bY,bY,ih oM];congr 2;unfold aF;simp[Ω,List.getElem?_take,show k<r by omega]
  rw[this r (θ _)];have h3:(rs.take r).length=r:=by rw[List.length_take];omega
  have:=zH (rs:=rs.take r);rw[h3]at this;exact this
 have e:aF rs r=rs[r].ss:=by unfold aF;simp[Ω,hr]
 have h4:cK rs=cK (rs.take r)++(rs[r].ss++cK (rs.drop (r+1))):=by
  conv=>lhs;rw[h1]
  unfold cK;rw[kA,gS]
 rw[h4,Oq h2.symm,e,Oo (by rw[<-e];exact hk)]
def ao4(ss:List Sd)(fs:List Fr)(C n k:Nat):Pt:=⟨(C+k:Nat),aO ((Cm ss fs (C+k) (C+k):Int):Rat),aO ((Cm ss fs (C+k) (C+(k+1)%n):Int):Rat)⟩
def tL(ss:List Sd)(fs:List Fr)(C n m:Nat):List Pt:=(cI m).map (ao4 ss fs C n)
def AS(f:Nat->List Sd)(ss:List Sd)(fs:List Fr):Nat->List (List Pt)
 |0=>[]
 |r+1=>AS f ss fs r++[tL ss fs (bY f r) (f r).length (f r).length]
def bv9(fs:List Fr):List (List UInt8):=fs.map fun g=>aO ((g.co:Int):Rat)
theorem ww(ss fs C n m):tL ss fs C n (m+1)=tL ss fs C n m++[ao4 ss fs C n m]:=by unfold tL;rw[sB,dV];rfl
theorem sX(ss fs C n m):(tL ss fs C n m).length=m:=by simp[tL]
theorem FE{f:Nat->List Sd}{ss:List Sd}{l:List Pt}:∀{N:Nat},l∈AS f ss fs N->∃r,r<N/\l=tL ss fs (bY f r) (f r).length (f r).length
 |N+1,h=>by
  rcases List.mem_append.1 h with h|h
  .obtain⟨r,hr,e⟩:=FE h;exact⟨r,oM,e⟩
  .exact⟨N,Fk _,List.mem_singleton.1 h⟩
theorem Ia{z:Int}(h:z.natAbs<10^11):Nm (aO (z:Rat)):=Sm.of ((HB.int h).mono dD dD)
theorem ap{ss:List Sd}(hC:C8 ss)(i j):0<=Cm ss fs i j/\Cm ss fs i j<=65536:=by
 have:=hC j;unfold Cm;split <;>omega
theorem ao5{s t:Sd}(h:0<=s.x/\s.x<=65536/\0<=s.y/\s.y<=65536):0<=(Pf s t).co/\(Pf s t).co<=65536:=by
 unfold Pf;simp only;split <;>omega
theorem ao6{f:Nat->List Sd}{ss:List Sd}(hC:C8 ss)(hf:∀r,C8 (f r))(hr:r<N)(hk:k<(f r).length):rX (fP f N) (bv9 (fP f N)) (ao4 ss (fP f N) (bY f r) (f r).length k):=by
 have hlt:=KI hr hk;have hn:∀i,Nm (aO ((Cm ss (fP f N) (bY f r+k) i:Int):Rat)):=fun i=>Ia (by have:=ap (fs:=fP f N) hC (bY f r+k) i;omega);have ha:Nm ((bv9 (fP f N)).getD (bY f r+k) []):=by
  have e:(bv9 (fP f N)).getD (bY f r+k) []=aO ((((fP f N).getD (bY f r+k) Γ).co:Int):Rat):=by
   unfold bv9;simp[Ω,aS (show bY f r+k<(fP f N).length by rw[nG];exact hlt)]
  rw[e,vC f N hr hk];exact Ia (by have:=ao5 (t:=fR (f r) k) (hf r k);omega)
 have ht:(ao4 ss (fP f N) (bY f r) (f r).length k).side.toNat=bY f r+k:=rfl;refine⟨⟨bY f r+k,rfl,by rw[nG];exact hlt⟩,?_,?_,hn _⟩
 .unfold bA;rw[ht];split
  .exact ha
  .exact hn _
 .unfold bA;rw[ht];split
  .exact hn _
  .exact ha
def wQ:List Fr:=[⟨ν,0,1,[49],[48]⟩,⟨ι,10,-1,[49],[48]⟩,⟨ν,10,-1,[49],[48]⟩,⟨ι,0,1,[49],[48]⟩]
def CH(u v:List UInt8):List Pt:=[⟨0,u,v⟩,⟨1,u,v⟩,⟨2,v,u⟩,⟨3,v,u⟩]
theorem jw(a c):oI wQ (dL wQ [48]) [⟨a,c,CH [48] [49,48]⟩] ι=ι:=kF
theorem ao7(a c):bv8 wQ (dL wQ [51]) [⟨a,c,CH [48] [49,48]⟩]=[CH [51] [55]]:=kF
theorem ao8(a c):bv8 wQ (dL wQ [53]) [⟨a,c,CH [48] [49,48]⟩]=[CH [53] [53]]:=kF
theorem ao9:[CH [51] [55]].flatten.any (BX wQ)=ν:=kF
theorem ap0:[CH [53] [53]].flatten.any (BX wQ)=ν:=kF
theorem aF2:(fQ [51] [48]).1=1:=kF
theorem aF3:(fQ [53] [48]).1=1:=kF
theorem aO0:bZ [48]=0:=kF
theorem bh5:bZ [51]=3:=kF
theorem bh6:bZ [53]=5:=kF
theorem aO1:(wQ.getD 0 Γ).q=⟨ν,0,1,1,0⟩:=kF
theorem aO2:(wQ.getD 1 Γ).q=⟨ι,10,-1,1,0⟩:=kF
theorem aO3:(wQ.getD 2 Γ).q=⟨ν,10,-1,1,0⟩:=kF
theorem aO4:(wQ.getD 3 Γ).q=⟨ι,0,1,1,0⟩:=kF
theorem jz(u){z:Rat}(hz:0<z):((⟨u,0,1,1,0⟩:FQ).pos z=(⟨u,10,-1,1,0⟩:FQ).pos z\/(⟨u,10,-1,1,0⟩:FQ).pos z=(⟨u,0,1,1,0⟩:FQ).pos z)->z=5:=by
 rw[JX (q:=⟨u,0,1,1,0⟩) hz,JX (q:=⟨u,10,-1,1,0⟩) hz];unfold FQ.vel;simp only[];intro h;have e:((1:Int):Rat)=1:=rfl;have e2:((-1:Int):Rat)= -1:=rfl;have e3:((0:Int):Rat)=0:=rfl;have e4:((10:Int):Rat)=10:=rfl;rw[e,e2,e3,e4]at h;grind
theorem aO5{z:Rat}(h:evZ wQ z)(hz:0<z):z=5:=by
 obtain⟨i,hi,h⟩:=h;have hi:i<4:=hi;have ht:∀j,j<4->(wQ.getD j Γ).q.t=0:=fun j hj=>by
  match j,hj with
  |0,_=>rw[aO1]
  |1,_=>rw[aO2]
  |2,_=>rw[aO3]
  |3,_=>rw[aO4]
 rcases h with⟨-,h⟩|⟨k,hk,hu,hm,-⟩
 .rw[ht i hi]at h;grind
 .match i,k,hi,hk with
  |1,0,_,_=>exact absurd hu dD
  |2,0,_,_=>rw[aO1,aO3]at hm;exact jz ν hz (.inl hm)
  |2,1,_,_=>exact absurd hu dD
  |3,0,_,_=>exact absurd hu dD
  |3,1,_,_=>rw[aO2,aO4]at hm;exact jz ι hz (.inr hm)
  |3,2,_,_=>exact absurd hu dD
theorem aV9:¬Zq wQ [48] [51]:=fun⟨z,h,h1,h2⟩=>by
 rw[aO0]at h1;rw[bh5]at h2
 have:=aO5 h h1
 grind
theorem aW0:¬Zq wQ [48] [53]:=fun⟨z,h,h1,h2⟩=>by
 rw[aO0]at h1;rw[bh6]at h2
 have:=aO5 h h1
 grind
theorem kg(a c):nN wQ [⟨a,c,CH [48] [49,48]⟩] [48] [51]=0:=by
 unfold nN;rw[iN (fun h=>h.elim (by rw[aF2];decide) aV9),ao7,iN (by rw[ao9];decide)]
theorem kh(a c):nN wQ [⟨a,c,CH [48] [49,48]⟩] [48] [53]=0:=by
 unfold nN;rw[iN (fun h=>h.elim (by rw[aF3];decide) aW0),ao8,iN (by rw[ap0];decide)]
theorem aF4(a c):oJ wQ [⟨a,c,CH [48] [49,48]⟩] [48] [51]=[CH [51] [55]]:=by unfold oJ;rw[ip (kg a c),ao7]
theorem aF5(a c):oJ wQ [⟨a,c,CH [48] [49,48]⟩] [48] [53]=[CH [53] [53]]:=by unfold oJ;rw[ip (kh a c),ao8]
theorem aF6(a c):oI wQ (dL wQ [53]) [⟨a,c,CH [53] [53]⟩] ν=ι:=kF
theorem aF7(a c):oI wQ (dL wQ [51]) [⟨a,c,CH [51] [55]⟩] ν=ι:=kF
theorem aW1(a c):rV wQ (dL wQ [51]) [⟨a,c,CH [51] [55]⟩]=[[⟨[51],[51]⟩,⟨[55],[51]⟩,⟨[55],[55]⟩,⟨[51],[55]⟩]]:=kF
theorem ap1(s:List UInt8)(n:Int)(h:aO (n:Rat)=s)(hn:n.natAbs<10^11):Sm s:=by rw[<-h];exact Ia hn
theorem aO6:Sm [48]:=ap1 _ 0 kF dD
theorem bh7:Sm [51]:=ap1 _ 3 kF dD
theorem ap2:Sm [53]:=ap1 _ 5 kF dD
theorem bh8:Sm [55]:=ap1 _ 7 kF dD
theorem ap3:Sm [49,48]:=ap1 _ 10 kF dD
theorem aW2(n:Int)(s:List UInt8)(h:aO (n:Rat)=s)(hn:n.natAbs<=452984832):Lz s:=by rw[<-h];exact Lz.of ⟨by rw[Rat.num_intCast];exact hn,by rw[Rat.den_intCast];decide⟩
theorem aO7:Lz [48]:=aW2 0 _ kF dD
theorem aO8:Lz [51]:=aW2 3 _ kF dD
theorem aO9:Lz [53]:=aW2 5 _ kF dD
theorem MM(a c){u v:List UInt8}(hu:Sm u)(hv:Sm v):Dw [⟨a,c,CH u v⟩]:=by
 intro l hl;obtain rfl:=List.mem_singleton.1 hl;refine⟨by show 4<=96;omega,fun p hp=>?_⟩;simp only[CH,jT,pL,or_false]at hp;rcases hp with rfl|rfl|rfl|rfl
 .exact⟨hu,hv⟩
 .exact⟨hu,hv⟩
 .exact⟨hv,hu⟩
 .exact⟨hv,hu⟩
theorem MN(u co d)(h0:0<=co)(h1:co<=65536)(hd:d=1\/d= -1)(f)(he:(⟨u,co,d,1,0⟩:FQ).fr=f):f.Ok:=by
 rw[<-he];refine FQ.Good.ok ⟨h0,h1,hd,⟨1,1,dD,dD,dD,by exact Rat.one_mul _⟩,⟨0,dD,rfl⟩⟩
theorem kj:∀f∈wQ,f.Ok:=by
 intro f hf;simp only[wQ,jT,pL,or_false]at hf;rcases hf with rfl|rfl|rfl|rfl
 .exact MN ν 0 1 dD dD (.inl rfl) _ kF
 .exact MN ι 10 (-1) dD dD (.inr rfl) _ kF
 .exact MN ν 10 (-1) dD dD (.inr rfl) _ kF
 .exact MN ι 0 1 dD dD (.inl rfl) _ kF
theorem ap4:aH [[53],[53],[53],[53]]=[[53]]:=by
 have h:=gR (ds:=[[53],[53],[53],[53]]) (by
  intro s hs;simp only[jT,pL,or_false,or_self]at hs;subst hs;exact ap2)
 refine al8 h.1 (by unfold nX;simp) (fun z=>?_);rw[h.2];simp
theorem aW3(a c):(([⟨a,c,CH [53] [53]⟩]:List Lp).flatMap Lp.ps).map (fun p=>(bA wQ (dL wQ [53]) p).x)=[[53],[53],[53],[53]]:=kF
theorem aW4(a c):(([⟨a,c,CH [53] [53]⟩]:List Lp).flatMap Lp.ps).map (fun p=>(bA wQ (dL wQ [53]) p).y)=[[53],[53],[53],[53]]:=kF
theorem km(a c):nY wQ (dL wQ [53]) [⟨a,c,CH [53] [53]⟩]=[]:=by
 have e1:Cg wQ (dL wQ [53]) [⟨a,c,CH [53] [53]⟩]=[[53]]:=by unfold Cg;rw[aW3,ap4]
 have e2:Ch wQ (dL wQ [53]) [⟨a,c,CH [53] [53]⟩]=[[53]]:=by unfold Ch;rw[aW4,ap4]
 unfold nY DA;rw[e1,e2];have hc:=Ae wQ (dL wQ [53]) [[53]] [[53]] [⟨a,c,CH [53] [53]⟩];generalize kV wQ (dL wQ [53]) [[53]] [[53]] [⟨a,c,CH [53] [53]⟩]=C at *;have hf:∀i j,C i j=ν:=fun i j=>by
  by_cases h:C i j=ι
  .have:=hc i j h;simp at this;omega
  .simpa using h
 have hb:∀w,eX C w=ν:=fun w=>by
  have e:pv C w.x w.y w.d=ν:=by unfold pv;split <;>exact hf _ _
  unfold eX bor;rw[e,wT,Bk]
 have hl:∀ws:List Wy,jK C ws=([],[]):=fun ws=>by
  unfold jK;induction ws with
  |nil=>rfl
  |cons w ws ih=>
   rw[List.foldl_cons];have e:eT C ([],[]) w=([],[]):=by
    unfold eT;rw[ip (.inr (hb w))]
   rw[e];exact ih
 rw[hl];rfl
theorem WW(a c):lY wQ [⟨a,c,CH [53] [53]⟩] [53]=0:=by
 unfold lY;rw[km];rfl
theorem ap5(a c):nP wQ [⟨a,c,CH [53] [53]⟩] [53]=[]:=by
 unfold nP;rw[ip (WW a c),km];unfold sV;simp[nT]
theorem ap6 (Bf:Nat) (a:Option bW) (nf ca:Nat) (fs:List Fr) (p:Pt) (s:Nat) (w:η) (hE:mV w) (hf:fs.length=nf) (hs:p.side=s) (Jv:s < nf) (Vj:nf<=1000000) (hdir:∀ f∈fs,f.dir=1\/f.dir= -1)
 (h1:Sm p.fr) (h2:Sm p.en) (rf:yA w a fs) (hb:bE w Bf #[Θ a nf ca] 27) :
 aE γ 41 #[p.v,aB (ζ ⟨Bf,0,δ⟩)] w (Rt (ω (BX fs p)) w):=by
 have Hc:aQ (∀ W,Bw w W->aE γ 37 #[Δ (bs p.en),Δ (bs p.fr)] W (Rt (Υ Ξ (fQ p.en p.fr).1) W)):=fun W hW=>nK p.en p.fr W (hE.below hW) h2 h1;have HFs:aQ (∀ W,aE γ 31 #[(fs.getD s Γ).v] W (Rt (Υ Ξ (qJ (fs.getD s Γ))) W)):=fun W=>uU _ W;have hd:=hdir _ (aN (i:=s) oM (Γ:Fr));have HTs:aQ (∀ W,aE γ 42 #[Υ Ξ (qJ (fs.getD s Γ))] W (Rt (Υ Ξ (GP (fs.getD s Γ))) W)):=fun W=>by
  refine(QG (qJ (fs.getD s Γ)) W).mono ?_;rintro e w' ⟨rfl,rfl⟩;exact⟨by rw [gk hd],μ _ _⟩
 have hAb:=gp hdir hs oM;have HAd:aQ (uA fs p=(fQ p.en p.fr).1 * GP (fs.getD s Γ)):=by show _=_;unfold uA;rw [hs];rfl
 have HR:aQ (BX fs p=decide (uA fs p < 0)):=rfl;have fL:=nA w (π #[Υ Ξ p.side,Δ (bs p.fr),Δ (bs p.en)] 35);have Qb:=zq (bE.new w #[Υ Ξ p.side,Δ (bs p.fr),Δ (bs p.en)] 35);have PI:=hb.below fL hb.lt;obtain⟨fb,fo,rfl,f0,f1,f2,f3,f4⟩:=(rf.below fL).at (i:=s) (by rw [hf];exact Jv) rfl;have gH:=zq fL;have Hbk:=zq PI;clear hE hf hdir h1 h2 rf hb hd fL PI;unfold Fr.v Fr.cells at HFs;unfold Pt.v Pt.cells;generalize fs.getD s Γ=f,(fQ p.en p.fr).1=CC,uA fs p=AD,BX fs p=BP at *;generalize qJ f=DF,GP f=FW at *;obtain⟨fup,fco,fdir,Ll,fst⟩:=f;obtain⟨side,fr,en⟩:=p;simp only [] at *;subst hs;generalize bs en=EN,bs fr=FR,bs fst=FST,bs Ll=FSP at *;have hw:IntKind.i64.wrap (CC * FW)=AD:=by rw [<- HAd.o];exact aM _ oM
 obtain⟨WA,Uu⟩:=nm (w.alloc (π #[Υ Ξ s,Δ FR,Δ EN] 35));rw [Uu] at f0 f1 f2 f3 f4 gH Hbk Qb;obtain⟨e0,e1,e2⟩:=Qb.o.three;have k0:WA.cell? ⟨Bf,0,δ⟩=ζ (Θ (ζ ⟨fb,fo,δ⟩) nf ca):=Hbk.o.cell 0;clear hAb Hbk;go_enter func41,ntmps41;go_wp2;try rw [Uu]
 have Dv:WA.heap.size=w.heap.size+1:=by rw [<- Uu];simp
 have HWs:aQ (Bw WA WA.drew):=(μ _ WA).drew;clear Uu Dv;go_cut [3] (fun v W=>v=ω BP/\aQ (Bw w W));case first=>
  go_region_held3 (fun w'=>(w'.cell? ⟨w.heap.size,0,δ⟩=ζ (Υ Ξ s)/\w'.cell? ⟨w.heap.size,1,δ⟩=ζ (Δ FR)/\w'.cell? ⟨w.heap.size,2,δ⟩=ζ (Δ EN))/\w'.cell? ⟨Bf,0,δ⟩=ζ (Θ (ζ ⟨fb,fo,δ⟩) nf ca)/\w'.cell? ⟨fb,fo+s * 5,δ⟩=ζ (ω fup)/\w'.cell? ⟨fb,fo+s * 5+1,δ⟩=ζ (Υ Ξ fco)/\w'.cell? ⟨fb,fo+s * 5+2,δ⟩=ζ (Υ Ξ fdir)/\w'.cell? ⟨fb,fo+s * 5+3,δ⟩=ζ (Δ FSP)/\w'.cell? ⟨fb,fo+s * 5+4,δ⟩=ζ (Δ FST)) (go_keep)
   (first
    | (go_at_call 37;(with_reducible refine(Hc.o _ (aW gH.o HWs.o)).mono ?_);rintro e w1 ⟨rfl,hb1⟩;have hBo:=HWs.bS hb1;have:=ck hb1 w.heap.size 0 (Υ Ξ s);have:=ck hb1 w.heap.size 1 (Δ FR);have:=ck hb1 w.heap.size 2 (Δ EN);have:=ck hb1 Bf 0 (Θ (ζ ⟨fb,fo,δ⟩) nf ca);have m0:=aY hb1 (p:=⟨fb,fo+s * 5,δ⟩) (v:=ω fup) (by simp [*]);have m1:=aY hb1 (p:=⟨fb,fo+s * 5+1,δ⟩) (v:=Υ Ξ fco) (by simp [*]);have m2:=aY hb1 (p:=⟨fb,fo+s * 5+2,δ⟩) (v:=Υ Ξ fdir) (by simp [*]);have m3:=aY hb1 (p:=⟨fb,fo+s * 5+3,δ⟩) (v:=Δ FSP) (by simp [*]);have m4:=aY hb1 (p:=⟨fb,fo+s * 5+4,δ⟩) (v:=Δ FST) (by simp [*]))
    | (go_at_call 31;(with_reducible refine(HFs.o _).mono ?_);rintro e w2 ⟨rfl,hb2⟩;have hBf:=hBo.bS hb2;have:=ck hb2 w.heap.size 0 (Υ Ξ s);have:=ck hb2 w.heap.size 1 (Δ FR);have:=ck hb2 w.heap.size 2 (Δ EN);have:=ck hb2 Bf 0 (Θ (ζ ⟨fb,fo,δ⟩) nf ca);have m0:=aY hb2 (p:=⟨fb,fo+s * 5,δ⟩) (v:=ω fup) (by simp [*]);have m1:=aY hb2 (p:=⟨fb,fo+s * 5+1,δ⟩) (v:=Υ Ξ fco) (by simp [*]);have m2:=aY hb2 (p:=⟨fb,fo+s * 5+2,δ⟩) (v:=Υ Ξ fdir) (by simp [*]);have m3:=aY hb2 (p:=⟨fb,fo+s * 5+3,δ⟩) (v:=Δ FSP) (by simp [*]);have m4:=aY hb2 (p:=⟨fb,fo+s * 5+4,δ⟩) (v:=Δ FST) (by simp [*]))
    | (go_at_call 42;(with_reducible refine(HTs.o _).mono ?_);rintro e w3 ⟨rfl,hb3⟩;have hBt:=hBf.bS hb3;have:=ck hb3 w.heap.size 0 (Υ Ξ s);have:=ck hb3 w.heap.size 1 (Δ FR);have:=ck hb3 w.heap.size 2 (Δ EN);have:=ck hb3 Bf 0 (Θ (ζ ⟨fb,fo,δ⟩) nf ca);have m0:=aY hb3 (p:=⟨fb,fo+s * 5,δ⟩) (v:=ω fup) (by simp [*]);have m1:=aY hb3 (p:=⟨fb,fo+s * 5+1,δ⟩) (v:=Υ Ξ fco) (by simp [*]);have m2:=aY hb3 (p:=⟨fb,fo+s * 5+2,δ⟩) (v:=Υ Ξ fdir) (by simp [*]);have m3:=aY hb3 (p:=⟨fb,fo+s * 5+3,δ⟩) (v:=Δ FSP) (by simp [*]);have m4:=aY hb3 (p:=⟨fb,fo+s * 5+4,δ⟩) (v:=Δ FST) (by simp [*])))
  all_goals
   go_wp2;go_meet;case rel=>exact⟨by first | (rw [HR.o];done) | (rw [HR.o];rfl) | (rw [HR.o,hw];done) | (rw [HR.o,hw];rfl),aW gH.o hBt.o⟩
 case rest=>
 obtain⟨rfl,HB⟩:=hcut;go_wp2;go_ret;exact⟨rfl,HB.o⟩
theorem ap7(p:Pt)(w:η)(hE:mV w)(h1:Sm p.fr)(h2:Sm p.en):
 aE γ 43 #[p.v] w (Rt (ω ν) w):=by
 have H1:aQ (∀W,Bw w W->aE γ 44 #[Δ (bs p.fr)] W (Rt (Υ Ξ 0) W)):=fun W hW=>by
  have:=IJ p.fr W (hE.below hW) h1;rwa[show ay8 p.fr=0 from h1.1]at this
 have H2:aQ (∀W,Bw w W->aE γ 44 #[Δ (bs p.en)] W (Rt (Υ Ξ 0) W)):=fun W hW=>by
  have:=IJ p.en W (hE.below hW) h2;rwa[show ay8 p.en=0 from h2.1]at this
 have gH:=zq (nA w (π #[Υ Ξ p.side,Δ (bs p.fr),Δ (bs p.en)] 35));have Qb:=zq (bE.new w #[Υ Ξ p.side,Δ (bs p.fr),Δ (bs p.en)] 35);clear hE h1 h2;unfold Pt.v Pt.cells;obtain⟨side,fr,en⟩:=p;simp only[]at *;generalize bs en=EN,bs fr=FR at *;go_enter func43,ntmps43;go_wp2_with fail
 refine ka (H1.o _ gH.o) fun W1 hb1=>?_;have eG:=gH.bS hb1;have Q1:=Qb.bb hb1;obtain⟨e0,e1,e2⟩:=Q1.o.three;clear hb1;go_wp2_with fail
 refine kb (H2.o _ eG.o) eG.o fun W2 eU=>?_;go_wp2;go_ret;exact⟨rfl,eU.o⟩
end
section
open Go Go.RowKit Go.Shelf Go.Lib
section
attribute[local go_sem] eQ
theorem ap8(a b):(0<mT a b)↔(mT b a<0):=by
 unfold mT;by_cases h:a<b
 .have k:¬b<a:=by grind
  simp[h,k]
 .by_cases k:b<a<;>simp[h,k]
theorem WX{x y:List UInt8}(hx:Sm x)(hy:Sm y):(0<(fQ x y).1)↔((fQ y x).1<0):=by
 rw[hx.cmp hy,hy.cmp hx];exact ap8 _ _
def Cn(hs:Nat)(a:Option bW)(nf ca:Nat)(X Y:ByteArray)(W:η):Prop:=
 bE W hs #[Θ a nf ca] 27/\bE W (hs+1) #[Δ X] 29/\bE W (hs+1+1) #[Δ Y] 29/\bE W (hs+1+1+1) #[Θ δ 0 0] 28/\bE W (hs+1+1+1+1) #[Υ Ξ 0] 37
theorem Cn.below(h:Cn hs a nf ca X Y W)(hb:Bw W W'):Cn hs a nf ca X Y W':=
 ⟨h.1.below hb h.1.lt,h.2.1.below hb h.2.1.lt,h.2.2.1.below hb h.2.2.1.lt,h.2.2.2.1.below hb h.2.2.2.1.lt,h.2.2.2.2.below hb h.2.2.2.2.lt⟩
theorem Cn.alloc(h:Cn hs a nf ca X Y W)(o):Cn hs a nf ca X Y (W.alloc o):=h.below (nA W o)
theorem Cn.new(a nf ca X Y w):∃W,((((w.alloc (π #[Θ a nf ca] 27)).alloc (π #[Δ X] 29)).alloc (π #[Δ Y] 29)).alloc (π #[Θ δ 0 0] 28)).alloc (π #[Υ Ξ 0] 37)=W/\
 Cn w.heap.size a nf ca X Y W/\Bw w W:=by
 refine⟨_,rfl,⟨((((bE.new w _ _).alloc _).alloc _).alloc _).alloc _,?_,?_,?_,?_⟩,((((nA w _).alloc sP _).alloc (by simp;omega) _).alloc (by simp;omega) _).alloc (by simp;omega) _⟩
 .have:=(((bE.new (w.alloc (π #[Θ a nf ca] 27)) #[Δ X] 29).alloc (π #[Δ Y] 29)).alloc (π #[Θ δ 0 0] 28)).alloc (π #[Υ Ξ 0] 37);simpa[aL]using this
 .have:=((bE.new ((w.alloc (π #[Θ a nf ca] 27)).alloc (π #[Δ X] 29)) #[Δ Y] 29).alloc (π #[Θ δ 0 0] 28)).alloc (π #[Υ Ξ 0] 37);simpa[aL]using this
 .have:=(bE.new (((w.alloc (π #[Θ a nf ca] 27)).alloc (π #[Δ X] 29)).alloc (π #[Δ Y] 29)) #[Θ δ 0 0] 28).alloc (π #[Υ Ξ 0] 37);simpa[aL]using this
 .have:=bE.new ((((w.alloc (π #[Θ a nf ca] 27)).alloc (π #[Δ X] 29)).alloc (π #[Δ Y] 29)).alloc (π #[Θ δ 0 0] 28)) #[Υ Ξ 0] 37;simpa[aL]using this
theorem xd(a nf ca w):
 aE γ 38 #[Θ a nf ca] w fun e w'=>e=σ (.func (.func 86) #[] #[aB (ζ ⟨w.heap.size,0,δ⟩)])/\w'=w.alloc (π #[Θ a nf ca] 27):=by
 go_enter func38,ntmps38;go_wp2;go_ret;exact⟨rfl,rfl⟩
end
structure aP0(a b:Option bW)(nf n ca cb:Nat)(fs:List Fr)(ls:List Lp)(x y:List UInt8)(w:η):Prop where
 tracer2:∀W g,Bw w W->bE W g #[Δ (bs x),Δ (bs y)] 29->aE γ 25 #[Θ a nf ca,Θ b n cb,Θ (ζ ⟨g,0,δ⟩) 2 2] W (qw a nf ca fs [x,y] W)
 all:∀a2 c2 W,Bw w W->Al W a2 (dL fs x)->aE γ 26 #[bQ #[Θ a nf ca,Θ a2 nf c2],Θ b n cb,ω ι] W (Rt (ω ι) W)
 cmp:∀W,Bw w W->aE γ 37 #[Δ (bs x),Δ (bs y)] W (Rt (Υ Ξ (fQ x y).1) W)
theorem bh9(a b nf n ca cb fs ls x y w)(hE:mV w)(hT:J2 w a b nf n fs ls)(hx:Lz x)(hy:Lz y)(hA:oI fs (dL fs x) ls ι=ι):aP0 a b nf n ca cb fs ls x y w:={
 tracer2 W g hW q:=by
  have rz:Al W (ζ ⟨g,0,δ⟩) [x,y]:=by
   intro i hi
   have hi:i<2:=hi
   match i,hi with
   |0,_=>exact⟨_,_,rfl,q.cell 0⟩
   |1,_=>exact⟨_,_,rfl,q.cell 1⟩
  exact uV a b (ζ ⟨g,0,δ⟩) nf n 2 ca cb 2 fs ls [x,y] W (hE.below hW) (hT.below hW) rfl dD (fun z hz=>by simp only[jT,pL,or_false]at hz;rcases hz with rfl|rfl<;>assumption) rz
 all a2 c2 W hW ra:=Td a a2 b nf n ca c2 cb fs (dL fs x) ls ι W (hE.below hW) hT.hf (by rw[uS];exact hT.hf) hT.hl hT.hm (fun f hm=>(hT.hF f hm).dir) hT.hL (hT.rf.below hW) ra (hT.rl.below hW) hA
 cmp W hW:=nK x y W (hE.below hW) hx.sm hy.sm}
theorem Cn.err(h:Cn hs a nf ca X Y W)(v c):
 ∃V,(W.setCell ⟨hs+1+1+1,0,δ⟩ v).setCell ⟨hs+1+1+1+1,0,δ⟩ (Υ Ξ c)=V/\
  bE V (hs+1+1+1) #[v] 28/\bE V (hs+1+1+1+1) #[Υ Ξ c] 37/\∀u,Below hs u W->Below hs u V:=
 ⟨_,rfl,(h.2.2.2.1.set 0 _).other _ (by show hs+1+1+1≠hs+1+1+1+1;omega),(h.2.2.2.2.other _ (by show hs+1+1+1+1≠hs+1+1+1;omega)).set 0 _,
  fun u hu=>(hu.setCell (by show hs<=hs+1+1+1;omega) _).setCell (by show hs<=hs+1+1+1+1;omega) _⟩
theorem gM.set{v:χ}(h:gM B W v aZ)(hp:p.block<B)(u):gM B (W.setCell p u) v aZ:=
 ⟨oF h.1 hp u,fun l hl=>oF (h.2 l hl) hp u⟩
theorem gM.putObj{v:χ}(h:gM B W v aZ){o:Obj}(o')(hl:W.heap[l]? =ζ o)(ho:o.isCells=ν):gM B (W.putObj l o') v aZ:=
 ⟨mE h.1 (pX W l o') (fun r e=>by cases e;exact⟨o,hl,ho⟩),fun x hx=>mE (h.2 x hx) (pX W l o') (fun r e=>by cases e;exact⟨o,hl,ho⟩)⟩
theorem xe(w):aE γ 24 #[Θ δ 0 0,Υ Ξ 0] w (Rt (Θ δ 0 0) w):=by
 go_enter func24,ntmps24;go_wp2;go_ret;exact⟨rfl,μ _ _⟩
theorem WY(w):aE γ 8 #[Θ δ 0 0] w (Rt (Θ δ 0 0) w):=by
 have HG:=zq (fun W=>xe W);go_enter func8,ntmps8;go_wp2;go_loop [3,11] (fun s i=>i=Υ Ξ 0/\s=Υ Ξ 0) (fun _ i=>0-(ξ i).toNat);case atStart=>exact⟨rfl,rfl⟩
 case round=>
  obtain⟨rfl,rfl⟩:=hrel;go_wp2_with fail
  refine ka (HG.o _) fun W1 hb1=>?_;have eG:=zq hb1;clear hb1;go_wp2;go_loopw[6,27] (fun o i wr=>i=Υ Ξ 0/\o=Θ δ 0 0/\aQ (Bw w wr)) (fun _ i _=>0-(ξ i).toNat);case atStart=>exact⟨rfl,rfl,eG.o⟩
  case round=>
   obtain⟨rfl,rfl,HB⟩:=hrel;go_wp2;go_ret;exact⟨rfl,HB.o⟩
structure aP1(a:Option bW)(nf n ca:Nat)(fs:List Fr)(MA:List (List Pt))(w:η):Prop where
 cat:∀W va vc Kg,Bw w W->Kg.map Lp.ps=MA->(n=0->va=δ/\vc=0)->CE W va Kg->aE γ 8 #[Θ va n vc] W fun e w'=>(∃pa pc,e=σ (Θ pa MA.flatten.length pc)/\Ih w' pa MA.flatten)/\Bw W w'
 back:∀W Bf pa pc,Bw w W->bE W Bf #[Θ a nf ca] 27->Ih W pa MA.flatten->aE γ 40 #[Θ pa MA.flatten.length pc,.func (.func 41) #[] #[aB (ζ ⟨Bf,0,δ⟩)]] W (Rt (ω (MA.flatten.any (BX fs))) W)
 lim:∀W pa pc,Bw w W->Ih W pa MA.flatten->aE γ 40 #[Θ pa MA.flatten.length pc,.func (.func 43) #[] #[]] W (Rt (ω ν) W)
theorem bi0(a:Option bW)(nf n ca:Nat)(fs:List Fr)(MA:List (List Pt))(w:η)(hE:mV w)(hf:fs.length=nf)(hl:MA.length=n)(hn:n<=24)(Vj:nf<=1000000)
 (hdir:∀f∈fs,f.dir=1\/f.dir= -1)(hlen:∀i,i<n->1<=(MA.getD i []).length/\(MA.getD i []).length<=96)
 (hpt:∀i,i<n->∀j,j<(MA.getD i []).length->(∃s:Nat,((MA.getD i []).getD j Γ).side=s/\s<nf)/\Sm ((MA.getD i []).getD j Γ).fr/\Sm ((MA.getD i []).getD j Γ).en)
 (rf:yA w a fs):aP1 a nf n ca fs MA w:=by
 have CF:∀p∈MA.flatten,(∃s:Nat,p.side=s/\s<nf)/\Sm p.fr/\Sm p.en:=by
  intro p hp;obtain⟨l,UO,hp⟩:=List.mem_flatten.1 hp;obtain⟨i,hi,rfl⟩:=fC UO;obtain⟨j,hj,rfl⟩:=fC hp;have e1:MA.getD i []=MA[i]:=by simp[Ω,hi]
  have e2:MA[i].getD j Γ=MA[i][j]:=by simp[Ω,hj]
  have:=hpt i oM j (by rw[e1];exact hj);rwa[e1,e2]at this
 have tY:MA.flatten.length<=1000000:=by
  have:∀(L:List (List Pt)),(∀l∈L,l.length<=96)->L.flatten.length<=L.length*96:=by
   intro L;induction L with
   |nil=>intro _;exact θ _
   |cons l L ih=>
    intro h;have h1:=h l sP;have h2:=ih (fun x hx=>h x (by simp[hx]));rw[List.flatten_cons,aJ,aC];omega
  have:=this MA (fun l UO=>by
   obtain⟨i,hi,rfl⟩:=fC UO;have e1:MA.getD i []=MA[i]:=by simp[Ω,hi]
   rw[<-e1];exact(hlen i oM).2)
  omega
 refine⟨fun W va vc Kg hW hm h0 rl=>?_,fun W Bf pa pc hW hb rp=>?_,fun W pa pc hW rp=>?_⟩
 .have hll:Kg.length=n:=by rw[<-hl,<-hm,List.length_map]
  have uE:∀i,i<n->(Kg.getD i Γ).ps=MA.getD i []:=fun i hi=>by
   rw[<-hm];have:i<Kg.length:=oM;simp[Ω,this]
  have hall:pI Kg=MA.flatten:=by rw[<-hm];exact List.flatMap_def ..
  have BQ:lX Kg n=MA.flatten.length:=by
   rw[<-C6 n oM,eA oM,hall]
  by_cases hz:n=0
  .obtain⟨rfl,rfl⟩:=h0 hz;subst hz;have e0:MA=[]:=List.length_eq_zero_iff.1 hl;subst e0;refine(WY W).mono ?_;rintro e w'⟨rfl,hb⟩;exact⟨⟨δ,0,rfl,fun i hi=>absurd hi sP⟩,hb⟩
  .have hpos:0<lX Kg n:=by
    obtain⟨m,rfl⟩:∃m,n=m+1:=⟨n-1,oM⟩;have:=(hlen m oM).1;rw[<-uE m oM]at this;show 0<lX Kg m+_;omega
   refine(TF va n vc Kg W hll oM (fun i hi=>by rw[uE i hi];have:=(hlen i hi).2;omega) (fun i hi=>by rw[uE i hi];exact(hlen i hi).1) hpos rl).mono ?_;rintro e w'⟨⟨g,cap,rfl,hr⟩,hb⟩;rw[BQ];rw[hall]at hr;exact⟨⟨_,_,rfl,hr⟩,hb⟩
 .refine(Va 41 #[aB (ζ ⟨Bf,0,δ⟩)] (iC func41 kF rfl) pa _ pc MA.flatten (fun k=>BX fs (MA.flatten.getD k Γ)) W rfl oM rp (fun i hi W2 h2=>?_)).mono ?_
  .obtain⟨⟨s,hs,Jv⟩,h3,h4⟩:=CF _ (aN hi Γ);have:=ap6 Bf a nf ca fs (MA.flatten.getD i Γ) s W2 (hE.below (aW hW h2)) hf hs Jv Vj hdir h3 h4 (rf.below (aW hW h2)) (hb.below h2 hb.lt);exact this
  .rintro e w'⟨rfl,Ju⟩;exact⟨by rw[al7],Ju⟩
 .refine(Va 43 #[] (iC func43 kF rfl) pa _ pc MA.flatten (fun _=>ν) W rfl oM rp (fun i hi W2 h2=>?_)).mono ?_
  .obtain⟨-,h3,h4⟩:=CF _ (aN hi Γ);rw[AA];exact ap7 (MA.flatten.getD i Γ) W2 (hE.below (aW hW h2)) h3 h4
  .rintro e w'⟨rfl,Ju⟩;exact⟨by rw[IK fun _ _=>rfl],Ju⟩
end
end Go.Proofs.YtncclggcfgnhpaaGreatDoor
