import Derived.Test.YtckgmoobicmbnaaGreatDoorZ0
import Derived.Test.YtckgmoobicmbnaaGreatDoorZ10
import Derived.Test.YtckgmoobicmbnaaGreatDoorZ11
namespace Go.Proofs.YtckgmoobicmbnaaGreatDoor
set_option maxRecDepth 100000
set_option maxHeartbeats 8000000
set_option linter.all false
open Go.Proofs.Tryz
open _root_.Array renaming replicate_succ->bR,replicate_zero->bS
open _root_.Bool renaming false_eq_true->jQ,false_or->oP
open _root_.Go renaming World->aF,undef->aP,Value->aS,below_drewN->cK,Addr->cT,TypeId->eC,ownFrom_below->oA,info_parts->vJ,grownBy_setCell'->ix
open Go.Act renaming put->dK
open Go.Addr renaming add_lit->XN
open Go.IntKind renaming i64->aE
open Go.IntWalk renaming i64_in->aX
open Go.KeepsOthers renaming setCell->cG
open Go.Obj renaming cells->aJ
open Go.Oper renaming semAt_some->dW
open Go.OwnFrom renaming and->cU
open Go.Proofs.Tryz renaming prog->aC
open Go.RowKit renaming intOf->aK,Hid->bH
open Go.RowKit.Below renaming refl->aH
open Go.Value renaming slice->aB,int->aD,bool->aN,pointer->bA,agg->cN,oneCell'->nO
open Go.World renaming block_lt_of_cell?->bG,ownsRow_nil->Ba
open _root_.List renaming getElem?_cons_zero->aI,getElem?_toArray->aL,setIfInBounds_toArray->aM,set_cons_zero->aV,set_cons_succ->bC,length_cons->bF,getElem?_cons_succ->bM,append_toArray->bU,size_toArray->bW,length_nil->bY,cons_append->bZ,push_toArray->cD,nil_append->cL,length_append->cP,append_nil->pP,append_assoc->B7
open _root_.Nat renaming le_refl->aG,le_trans->bE,lt_of_lt_of_le->bL,zero_le->bN,reduceAdd->cW,reduceSub->cX,zero_add->dZ,le_of_lt->fZ,le_of_eq->Aa
open _root_.Option.some renaming inj->dQ
open _root_.Trans renaming trans->cB
section
open Go Go.RowKit Go.Shelf Go.Lib
section
attribute[local go_sem] dW
def jnX(l:List Sd)(k:Nat):Bool:= !DS (l.getD (pre l.length k) default) (l.getD k default) (jG l k)&&wm (l.getD (pre l.length k) default) (l.getD k default)
def jnR(f:Nat→List Sd)(r:Nat):Bool:=anyN (jnX (f r)) (f r).length
def Ue(f:Nat→List Sd)(N:Nat):Bool:= !anyN (jnR f) N&&anyN (BI f) N
theorem ep (a : Option cT) (N cap : Nat) (rs : List Rg) (w : aF) (hl : rs.length = N) (hN : N ≤ 1000) (hn : ∀ r, (bQ rs r).length ≤ 1000) (hC : ∀ r, FE (bQ rs r)) (rr : GL w a rs) :
 Calls aC 124 #[aB a N cap] w (Rt (aN (Ue (bQ rs) N)) w) := by
 obtain ⟨W0, eQ⟩ := nm ((w.alloc (aJ #[aN false] 4)).alloc (aJ #[aN false] 4))
 obtain ⟨jo, rG, fA⟩ := Mm eQ
 have gY := zq fA
 have HR := zq rr
 have HL := zq hl
 have HC := zq hC
 have HN := zq hn
 have HW := zq eQ
 have X1 : bH (∀ r, r < N → jnR (bQ rs) r = true → Ue (bQ rs) N = false) := fun r h2 h => by unfold Ue; rw [eJ.2 ⟨r, h2, h⟩]; rfl
 have X3 : bH (anyN (jnR (bQ rs)) N = false → Ue (bQ rs) N = anyN (BI (bQ rs)) N) := fun h => by unfold Ue; rw [h]; rfl
 have hlt0 := rG.lt
 obtain ⟨RB, hRB⟩ := nm w.heap.size
 rw [hRB] at jo rG hlt0
 obtain ⟨SB, kh⟩ := nm (RB + 1)
 rw [kh] at rG hlt0
 have S6 := zq hRB
 have HSB := zq kh
 have Hp0 := zq jo
 have Hq0 := zq rG
 clear hl rr hn hC fA eQ jo rG hlt0
 generalize Ue (bQ rs) N = R at *
 refine dE func124 rfl ?_
 simp only [ntmps124, bW, bF, bY, cW, cX, bR, bS, cD, bU, cL, bZ]
 go_upto_region 2 with (fail)
 rw [HW.out]
 clear HW kh hRB
 go_wp2
 refine wp_loop (fun a' w' => ∃ (r : Nat) (Ds : List Nat) (u5 u11 u12 u13 u14 u15 u47 : aS), a' = { tmps := #[aB a N cap, aP, bA (some ⟨RB, 0, none⟩), bA (some ⟨SB, 0, none⟩), aP, u5, aP, aP, aB a N cap, aD aE N, aD aE r, u11, u12, u13, u14, u15, aP, aP, aP, aP, aP, aP, aP, aP, aP, aP, aP, aP, aP, aP, aP, aP, aP, aP, aP, aP, aP, aP, aP, aP, aP, aP, aP, aP, aP, aP, aP, u47, aP], defers := Ds.map mkD } ∧
  r ≤ N ∧ bH (anyN (jnR (bQ rs)) r = false) ∧ bH (bT w' RB #[aN false] 4) ∧ bH (bT w' SB #[aN (anyN (BI (bQ rs)) r)] 4) ∧ bH (Below w.heap.size w w') ∧ bH (Mk w.heap.size w'.heap.size Ds w'))
  (fun a' _ => N - (aK (a'.tmps.getD 10 aP)).toNat) ⟨0, [], aP, aP, aP, aP, aP, aP, aP, rfl, bN _, rfl, Hp0.out, Hq0.out, gY.out, Mk.nil _ _ _⟩ ?_
 clear Hp0 Hq0 gY
 rintro _ wr ⟨r, Ds, u5, u11, u12, u13, u14, u15, u47, rfl, hr, HA, HRb, HSb, HB, HM⟩
 by_cases hrN : r < N
 ·obtain ⟨b, o, rfl, c0, Ml⟩ := (HR.out.below HB.out).at (i := r) (by rw [HL.out]; exact hrN) rfl
  rw [show (rs.getD r default).ss.length = (bQ rs r).length from rfl] at c0
  have Ca := zq Ml
  have T9 : bH (∀ p, 0 < (bQ rs r).length → (rs.getD r default).a = some p → p.block < w.heap.size) := fun p h0 e => by
   obtain ⟨b', o', e1, -, rs1⟩ := HR.out.at (i := r) (by rw [HL.out]; exact hrN) rfl
   obtain ⟨b2, o2, e2, c⟩ := rs1 0 h0
   rw [e] at e2; injection e2 with e2; subst e2
   exact bG w _ (c 0 (by decide))
  have X1r := zq (X1.out r hrN)
  have X4 := zq (fun h : jnR (bQ rs) r = false => gO (p := jnR (bQ rs)) HA.out h)
  have E1 : bH (jnR (bQ rs) r = anyN (jnX (bQ rs r)) (bQ rs r).length) := rfl
  have E2 : bH (anyN (BI (bQ rs)) (r + 1) = (anyN (BI (bQ rs)) r || anyN (C5 (bQ rs r)) (bQ rs r).length)) := rfl
  have yB := HN.out r
  have wy := zq (HC.out r)
  rw [show (rs.getD r default).ss = bQ rs r from rfl] at Ca
  clear Ml
  obtain ⟨l, hl⟩ := nm (bQ rs r)
  rw [hl] at E1 E2 yB wy Ca T9 c0
  obtain ⟨n, SK⟩ := nm l.length
  rw [SK] at E1 E2 yB T9 c0
  have HLn := zq SK
  clear hl SK
  generalize (rs.getD r default).a = ar at *
  generalize (rs.getD r default).cap = cr at *
  generalize anyN (BI (bQ rs)) r = S1 at *
  obtain ⟨S2, hS2⟩ := nm (anyN (BI (bQ rs)) (r + 1))
  rw [hS2] at E2
  have HS2 := zq hS2
  clear hS2
  obtain ⟨JR, hJR⟩ := nm (jnR (bQ rs) r)
  rw [hJR] at E1 X1r X4
  clear hJR
  go_wp2_with fail
  refine (AH ar n cr wr).mono ?_
  rintro e W1 ⟨rfl, vQ⟩
  have hb1 : Below wr.heap.size wr W1 := by rw [vQ]; exact (aH _ _).alloc (aG _) _
  have hq1 : bT W1 wr.heap.size #[aB ar n cr] 52 := by rw [vQ]; exact bT.new _ _ _
  have eW := zq (aU HB.out hb1)
  have BC := zq hq1
  have HRb1 := zq (HRb.out.below hb1 HRb.out.lt)
  have HSb1 := zq (HSb.out.below hb1 HSb.out.lt)
  have HM1 := zq ((HM.out.below hb1).grow hb1.size)
  have CP := zq (Ca.out.below hb1)
  have hSl := HSb.out.lt
  have HBs : bH (SB < wr.heap.size) := hSl
  clear hb1 hq1 vQ HB HRb HSb HM Ca hSl c0
  generalize wr.heap.size = Bs at *
  go_wp2_with fail
  have J6 : ∀ j, lN Bs ar n j → j ≠ SB := by
   rintro j (rfl | ⟨h0, p, e, rfl⟩) h
   ·have := HBs.out; omega
   ·have := T9.out p h0 e; have := S6.out; have := HSB.out; omega
  have EJ : bH (∀ k, anyN (jnX l) (k + 1) = (anyN (jnX l) k || (!DS (l.getD (pre l.length k) default) (l.getD k default) (jG l k) && wm (l.getD (pre l.length k) default) (l.getD k default)))) := fun k => rfl
  have ES : bH (∀ k, anyN (C5 l) (k + 1) = (anyN (C5 l) k || !(l.getD k default).gable)) := fun k => rfl
  rw [HLn.out] at EJ
  refine AI Bs ar n cr l rfl HLn.out yB (BC.out.cell 0) CP.out
   (fun k W => bT W RB #[aN false] 4 ∧ bT W SB #[aN (S1 || anyN (C5 l) k)] 4 ∧ Below w.heap.size w W ∧ Mk w.heap.size W1.heap.size Ds W ∧ anyN (jnX l) k = false)
   (fun c _ W => c = .ret ∧ bT W RB #[aN false] 4 ∧ Below w.heap.size w W ∧ Mk w.heap.size W1.heap.size Ds W ∧ anyN (jnX l) n = true)
   (cU (Own.from (fun s A B lM hs hg hr => hs.own hg hr) _) (cU (Own.from (fun s A B lM hs hg hr => hs.own hg hr) _) (cU (oA (aG _) eW.out.size) (cU Mk.from (fun _ _ _ _ h _ _ => h)))))
   (fun c => cU (fun _ _ _ _ h _ _ => h) (cU (Own.from (fun s A B lM hs hg hr => hs.own hg hr) _) (cU (oA (aG _) eW.out.size) (cU Mk.from (fun _ _ _ _ h _ _ => h)))))
   ⟨HRb1.out, by rw [show anyN (C5 l) 0 = false from rfl, Bool.or_false]; exact HSb1.out, eW.out, HM1.out, rfl⟩
   (fun k q ar' => { tmps := #[aB (some ⟨b, o, none⟩) N cap, aP, bA (some ⟨RB, 0, none⟩), bA (some ⟨SB, 0, none⟩), aP, aB ar n cr, aP, bA (some ⟨q, 0, none⟩), aB (some ⟨b, o, none⟩) N cap, aD aE N, aD aE r, aN true, bA (some ⟨b, o + r, none⟩), aB ar n cr, aB ar n cr, .func (.func 203) #[] #[bA (some ⟨Bs, 0, none⟩)], aD aE k, cN ar', aP, aP, aP, aP, aP, aP, aP, aP, aP, aP, aP, aP, aP, aP, aP, aP, aP, aP, aP, aP, aP, aP, aP, aP, aP, aP, aP, aP, aP, u47, aP], defers := [] })
   (fun ly k p s t W K hk hK => ?_) (fun ly k q p s t W hk hp hs ht hq Yy J7 hI => ?_) (fun D W hD hI hK => ?_) (fun D c k W hD hk hI hK => ?_)
  ·refine uN T8 (zX p s t) rfl ?_
   show K _ _
   simpa only [dK, aM, aV, bC] using hK
  ·obtain ⟨h1, h2, h3, h4, h5⟩ := hI
   have H1 := zq h1
   have H3 := zq h3
   have H4 := zq h4
   have Hrw := zq J7
   have HK := zq hk
   have C1p : C1 p := by rw [← hp]; exact wy.out _
   have Ub : C1 s := by rw [← hs]; exact wy.out k
   have Xf : C1 t := by rw [← ht]; exact wy.out _
   have F1 := zq (EJ.out k)
   have F2 := zq (ES.out k)
   rw [hp, hs, ht, h5, oP] at F1
   rw [hs] at F2
   have hlf := zq (fun W => YQ p s t W C1p Ub Xf)
   generalize DS p s t = L at *
   obtain ⟨S4, hS4⟩ := nm (S1 || anyN (C5 l) (k + 1))
   have F3 : bH (S4 = ((S1 || anyN (C5 l) k) || !s.gable)) := by show _ = _; rw [← hS4, F2.out, Bool.or_assoc]
   have HS4 := zq hS4
   generalize (S1 || anyN (C5 l) k) = S3 at *
   have f0 := h2.cell 0
   have z0 := h2.fz 0
   have lS := h2.lt
   have b11 := hq.cell 11
   simp only [aL, aI, bM] at f0 b11
   have H2 := zq h2
   have HQ := zq hq
   have Hqn : bH (q ≠ SB) := fun e => by have := HBs.out; have := eW.out.size; have h6 := BC.out.lt; omega
   obtain ⟨g, hg⟩ := nm s.gable
   rw [hg] at b11 F3
   have Hg := zq hg
   clear h1 h2 h3 h4 h5 hp hs ht hq hS4 hg C1p Ub Xf F2 wy J7 hk EJ ES
   cases S3
   all_goals
    simp only [oP, Bool.true_or] at F3
    gi_upto_region 8 with (fail)
   all_goals
    obtain ⟨X, hX⟩ : ∃ X, S4 = X := ⟨_, rfl⟩
    have hx := F3.out
    rw [hX] at hx HS4
    have hxe := congrArg (fun z => W.setCell ⟨SB, 0, none⟩ (aN z)) hx
    rw [← hxe]
    clear hxe
    clear F3 hX
    have Ic := HQ.out.other (a := ⟨SB, 0, none⟩) (aN X) Hqn.out
    have FA := H2.out.set 0 (aN X)
    have hr2 := H1.out.other (a := ⟨SB, 0, none⟩) (aN X) (by show RB ≠ SB; have := HSB.out; omega)
    have jj := H4.out.setCell H2.out 0 (aN X)
    have hb2 := H3.out.setCell (p := ⟨SB, 0, none⟩) (by show w.heap.size ≤ SB; have := HSB.out; have := S6.out; omega) (aN X)
    have hF := (cG W ⟨SB, 0, none⟩ (aN X)).from W1.heap.size
    have hG := cY.setCell (W := W) (a := ⟨SB, 0, none⟩) J6 (aN X)
    have hw2 : ∀ j, lN Bs ar n j → j < (W.setCell ⟨SB, 0, none⟩ (aN X)).heap.size := fun j hj => by rw [World.size_setCell]; exact Hrw.out j hj
    simp only [aM, aV] at FA
    generalize W.setCell ⟨SB, 0, none⟩ (aN X) = V at *
    have Hs2 := zq FA
    have Hr2 := zq hr2
    have Hm2 := zq jj
    have YN := zq hb2
    have HF := zq hF
    have HG := zq hG
    have Hw2 := zq hw2
    have DO := zq Ic
    have Hne := zq J6
    clear Ic FA hr2 jj hb2 hF hG hw2 H1 H2 H3 H4 HQ Hqn f0 z0 lS b11 hx
    gi_wp2_with (refine ldI 99 q 0 (zX p s t) (DO.out.range 0 21 rfl) ?_)
    refine ⟨trivial, (Calls.round (hlf.out _) _ _).mono ?_⟩
    rintro e V3 ⟨rfl, hb3⟩
    have h1 := Hr2.out.below hb3 Hr2.out.lt
    have wu := DO.out.below hb3 DO.out.lt
    have b4 := wu.cell 4
    have b5 := wu.cell 5
    have b11 := wu.cell 11
    have b12 := wu.cell 12
    have r0 := h1.cell 0
    have rz := h1.fz 0
    have lr := h1.lt
    simp only [aL, aI, bM] at b4 b5 b11 b12 r0
    rw [Hg.out] at b11
    have H1 := zq h1
    have H2 := zq (Hs2.out.below hb3 Hs2.out.lt)
    have Tt := zq (HF.out.trans ((iC hb3).from _))
    have HG3 := zq (HG.out.trans (cY.below (ks := lN Bs ar n) hb3 Hw2.out))
    have H3 := zq (aU YN.out hb3)
    have H4 := zq (Hm2.out.below hb3)
    have WD := zq (Tt.out.trans ((cG V3 ⟨RB, 0, none⟩ (aN false)).from _))
    have q7 := H1.out.set 0 (aN false)
    simp only [aM, aV] at q7
    have HQ7 := zq q7
    have Ku := zq (H3.out.setCell (p := ⟨RB, 0, none⟩) (by show w.heap.size ≤ RB; exact Aa S6.out) (aN false))
    have HM7 := zq (H4.out.setCell H1.out 0 (aN false))
    clear q7 h1 wu hb3 Hr2 Hs2 Hm2 YN HF HG Hw2 DO
    have hx : bH (∀ b, anyN (jnX l) (k + 1) = b → b = false ∧ anyN (jnX l) (k + 1) = false ∨ b = true ∧ anyN (jnX l) n = true) := fun b hb => by
     cases b
     ·exact .inl ⟨rfl, hb⟩
     ·obtain ⟨j, h1, h2⟩ := eJ.1 hb
      exact .inr ⟨rfl, eJ.2 ⟨j, by have := HK.out; omega, h2⟩⟩
    have hy := zq (hx.out _ F1.out)
    clear hx F1
    unfold wm at hy
    rw [Hg.out] at hy
    obtain ⟨c, hc⟩ := nm (p.plate != s.plate)
    obtain ⟨pg, hpg⟩ := nm p.gable
    have hc2 : (s.plate != p.plate) = c := by rw [← hc, bne_comm]
    rw [hc, hpg] at hy
    rw [hpg] at b4
    clear hc hpg
    cases L <;> cases g <;> cases pg <;> cases c
    all_goals
     have hb := hy.out
     simp at hb
     clear hy
     have Hb := zq hb
     clear hb
     gi_wp2
     first
      | exact ⟨Tt.out, HG3.out, H1.out, by rw [HS4.out]; exact H2.out, H3.out, H4.out, Hb.out⟩
      | exact ⟨WD.out, rfl, HQ7.out, Ku.out, HM7.out, Hb.out⟩
      | (trace_state; fail)
  ·obtain ⟨h1, h2, h3, h4, h5⟩ := hI
   have hj : JR = false := by rw [E1.out]; exact h5
   have Qj := zq (X4.out hj)
   have e2 : bT W SB #[aN S2] 4 := by rw [E2.out]; exact h2
   rw [← HS2.out] at e2
   have HS := zq e2
   have H1 := zq h1
   have H3 := zq h3
   have H4 := zq (h4.cons (fZ (bL (by have := HBs.out; have := S6.out; have := HSB.out; omega) (fZ BC.out.lt))) hD hK)
   clear h1 h2 h3 h4 h5 e2 hj X4 X1r E1 E2
   go_wp2
   go_roundw
   ·exact ⟨r + 1, D :: Ds, _, _, _, _, _, _, _, rfl, hrN, Qj.out, H1.out, HS.out, H3.out, H4.out⟩
   ·show N - ((r : Int) + 1).toNat < N - (r : Int).toNat
    omega
  ·obtain ⟨rfl, h1, h3, h4, h5⟩ := hI
   have e := zq (X1r.out (by rw [E1.out]; exact h5))
   have H1 := zq h1
   have H3 := zq h3
   have H4 := zq (h4.cons (fZ (bL (by have := HBs.out; have := S6.out; have := HSB.out; omega) (fZ BC.out.lt))) hD hK)
   clear h1 h3 h4 h5
   go_wp2
   exact Qu (Ds := D :: Ds) rfl H4.out (fun V => bT V RB #[aN false] 4 ∧ Below w.heap.size w V) ⟨H1.out, H3.out⟩ (fun V X hX hV hx => ⟨hV.1.putObj _ hx rfl, hV.2.trans (pC hX hx)⟩)
    (fun V hV => ⟨iD rfl _ _ RB (aN false) rfl (hV.1.cell 0) (C7 _), by rw [e.out], hV.2⟩)
 ·obtain rfl : N = r := by omega
  have e := zq (X3.out HA.out)
  have s0 := HSb.out.cell 0
  have r0 := HRb.out.cell 0
  have rz := HRb.out.fz 0
  have lr := HRb.out.lt
  simp only [aL, aI] at s0 r0
  have q7 := HRb.out.set 0 (aN (anyN (BI (bQ rs)) N))
  simp only [aM, aV] at q7
  have HQ7 := zq q7
  have Ku := zq (HB.out.setCell (p := ⟨RB, 0, none⟩) (by show w.heap.size ≤ RB; exact Aa S6.out) (aN (anyN (BI (bQ rs)) N)))
  have HM7 := zq (HM.out.setCell HRb.out 0 (aN (anyN (BI (bQ rs)) N)))
  clear q7
  go_wp2
  exact Qu (Ds := Ds) rfl HM7.out (fun V => bT V RB #[aN (anyN (BI (bQ rs)) N)] 4 ∧ Below w.heap.size w V) ⟨HQ7.out, Ku.out⟩ (fun V X hX hV hx => ⟨hV.1.putObj _ hx rfl, hV.2.trans (pC hX hx)⟩)
   (fun V hV => ⟨iD rfl _ _ RB (aN (anyN (BI (bQ rs)) N)) rfl (hV.1.cell 0) (C7 _), by rw [e.out], hV.2⟩)
end
end
section
open Go Go.RowKit Go.Lib
section
theorem xe:(Tryz.prog.info? 246).map (fun i=>(i.zero,i.size,i.bytes))=some (some (cN #[aD aE 0,aD aE 0,aD aE 0,aD aE 0]),4,32):=by kernel_rfl
theorem Xl:(Tryz.prog.info? 249).map (fun i=>(i.zero,i.size,i.bytes))=some (some (cN #[aD aE 0,aD aE 0]),2,16):=by kernel_rfl
def DU(w:aF)(lM:Option Nat)(B:Nat)(T:eC):Prop:=∀j,lM=some j→B≤j∧∃c,w.heap[j]? =some (aJ c T (0,0))
theorem DU.owns{w:aF}{B e size n:Nat}{v:aS}{xs:List aS}(h:w.ownsRow B e size v n xs):DU w v.ownBlock B e:=fun j hj=>by
 rcases h.2 with⟨h,_⟩|⟨g,c,yU,h,hB,k,_⟩
 ·rw[h]at hj;cases hj
 ·rw[h]at hj
  have e:g=j:=by simpa[Value.ownBlock]using hj
  subst e
  exact⟨hB,_,k⟩
theorem DU.blk{w:aF}{b B T:Nat}{cs:Array aS}(h:bT w b cs T)(hB:B≤b):DU w (some b) B T:=fun j hj=>by cases hj;exact⟨hB,_,h⟩
theorem Mp{w w':aF}{b:Nat}{cs:Array aS}{S T B:eC}{lM:Option Nat}(h:bT w b cs S)(hg:w.grownBy w' lM)(hr:DU w lM B T)(jC:S≠T):bT w' b cs S:=
 (hg.block b h.lt (fun e=>by
  obtain⟨_,c,hc⟩:=hr b e.symm
  have h':w.heap[b]? =some (aJ cs S (0,0)):=h
  rw[h']at hc
  injection hc with hc
  injection hc with _ hc
  exact jC hc)).trans h
theorem OQ{w w':aF}{B B' e size n T:Nat}{v:aS}{xs:List aS}{lM:Option Nat}(h:w.ownsRow B e size v n xs)(hg:w.grownBy w' lM)(hr:DU w lM B' T)(jC:e≠T):w'.ownsRow B e size v n xs:=by
 refine⟨h.1,?_⟩;rcases h.2 with h1|⟨g,cap,yU,hv,hb,hh,r⟩
 ·exact .inl h1
 ·exact .inr ⟨g,cap,yU,hv,hb,Mp (cs:=yU) hh hg hr jC,r⟩
theorem Mk.growT{B E B' T:Nat}{Ds:List Nat}{w w':aF}{lM:Option Nat}(h:Mk B E Ds w)(hg:w.grownBy w' lM)(hr:DU w lM B' T):Mk B E Ds w':=
 ⟨h.1,fun D hD=>⟨(h.2 D hD).1,(h.2 D hD).2.1,by
  have hd:=(h.2 D hD).2.2
  refine(hg.block D (Array.getElem?_eq_some_iff.1 hd).1 fun e=>?_).trans hd
  obtain⟨_,c,hc⟩:=hr D e.symm
  rw[hc]at hd;cases hd⟩⟩
theorem Qv{E B T:Nat}{w w':aF}{lM:Option Nat}(hg:w.grownBy w' lM)(hr:DU w lM B T):KeepsFrom E w w':=
 (KeepsOthers.of_grownBy hg fun j o e ho=>by
  obtain⟨_,c,hc⟩:=hr j e
  rw[hc]at ho;cases ho;rfl).from _
theorem C9(g:Nat):∀(vs:List aS)(o:Nat)(w:aF),w.grownBy (w.setCells g o vs) (some g)
 |[],_,w=>⟨rfl,rfl,rfl,aG _,fun _ _ _=>rfl⟩
 |v::r,o,w=>World.grownBy.trans (⟨rfl,rfl,rfl,by simp,fun k _ hk=>heap_setCell_other w ⟨g,o,none⟩ k v (fun e=>hk (by rw[e]))⟩:w.grownBy (w.setCell ⟨g,o,none⟩ v) (some g)) (C9 g r (o+1) _)
variable{P3 P4 P5 q E Bs n nr cr:Nat}{ar:Option cT}{Ds:List Nat}{w0 W:aF}{rv kv v1 v2 bxv plv:aS}{qa ba pa:Array aS}{bx pl:List aS}
structure CrK(E Bs:Nat)(ar:Option cT)(nr cr:Nat)(Ds:List Nat)(w0 W:aF)(P5:Nat)(rv:aS)(q:Nat)(qa:Array aS)(w:aF):Prop where
 k1:KeepsFrom E W w
 k2:cY (lN Bs ar nr) W w
 k3:Below w0.heap.size w0 w
 k4:Mk w0.heap.size E Ds w
 k5:bT w Bs #[aB ar nr cr] 52
 k6:bT w P5 #[rv] 3
 k7:bT w q qa 99
theorem CrK.below{w w':aF}(h:CrK E Bs ar nr cr Ds w0 W P5 rv q qa w)(J7:∀j,lN Bs ar nr j→j<W.heap.size)(hb:Below w.heap.size w w'):CrK E Bs ar nr cr Ds w0 W P5 rv q qa w':=
 ⟨h.k1.trans ((iC hb).from _),h.k2.trans (cY.below hb fun j hj=>bL (J7 j hj) h.k1.size),aU h.k3 hb,h.k4.below hb,h.k5.below hb h.k5.lt,h.k6.below hb h.k6.lt,h.k7.below hb h.k7.lt⟩
theorem CrK.grow{w w':aF}{lM:Option Nat}{T:eC}(h:CrK E Bs ar nr cr Ds w0 W P5 rv q qa w)(hp:∀p,0<nr→ar=some p→p.block<w0.heap.size)(hg:w.grownBy w' lM)(hr:DU w lM w0.heap.size T)(h1:52≠T)(h2:3≠T)(h3:99≠T):CrK E Bs ar nr cr Ds w0 W P5 rv q qa w':=by
 have n5:=Mp h.k5 hg hr h1;refine⟨h.k1.trans (Qv hg hr),h.k2.trans fun j hj=>?_,h.k3.grown hg h.k3.size fun k hk=>(hr k hk).1,h.k4.growT hg hr,n5,Mp h.k6 hg hr h2,Mp h.k7 hg hr h3⟩
 ·rcases hj with rfl|⟨h0,p,e,rfl⟩
  ·exact Eq.trans n5 (Eq.symm h.k5)
  ·have hlt:=hp p h0 e;exact hg.block _ (bL hlt h.k3.size) (fun e=>by have:=(hr _ e.symm).1;omega)
def CrU(v1 v2 rv kv bxv plv:aS)(qa:Array aS):Nat→aS→Prop
 |0,v=>v=v1
 |1,v=>v=cN qa
 |2,v=>v=bxv
 |5,v=>v=v2
 |6,v=>v=rv
 |7,v=>v=kv
 |8,v=>v=plv
 |_,_=>True
structure MZ(n:Nat)(bx pl:List aS)(v1 v2 kv:aS)(ba pa:Array aS)(P3 P4:Nat)(E Bs:Nat)(ar:Option cT)(nr cr:Nat)(Ds:List Nat)(w0 W:aF)(P5:Nat)(rv:aS)(q:Nat)(qa:Array aS)
 (d:Nat→Bool)(u:Nat→aS)(w:aF):Prop where
 vals:∀j,d j=true→CrU v1 v2 rv kv (cN ba) (cN pa) qa j (u j)
 m3:d 3=true→d 4=false→∃g,u 3=aB (some ⟨g,0,none⟩) 1 1∧bT w g ba 246
 m9:d 9=true→d 10=false→∃g,u 9=aB (some ⟨g,0,none⟩) 1 1∧bT w g pa 249
 r3:w.ownsRow w0.heap.size 246 4 (if d 4=true then u 4 else v1) (if d 4=true then n+1 else n) (if d 4=true then bx++ba.toList else bx)
 r4:w.ownsRow w0.heap.size 249 2 (if d 10=true then u 10 else v2) (if d 10=true then n+1 else n) (if d 10=true then pl++pa.toList else pl)
 b3:bT w P3 #[if d 11=true then u 4 else v1] 243
 b4:bT w P4 #[if d 12=true then u 10 else v2] 244
 k:CrK E Bs ar nr cr Ds w0 W P5 rv q qa w
variable{d:Nat→Bool}{u:Nat→aS}{w w':aF}
abbrev Kz(u:Nat→aS)(i:Nat)(v:aS):Nat→aS:=fun j=>if j=i then v else u j
abbrev Uf(d:Nat→Bool)(i:Nat):Nat→Bool:=fun j=>if j=i then true else d j
theorem BL{p:Nat→aS→Prop}{i:Nat}{v:aS}(h:∀j,d j=true→p j (u j))(hv:p i v):∀j,Uf d i j=true→p j (Kz u i v j):=fun j hj=>by
 unfold Uf at hj
 unfold Kz
 by_cases e:j=i
 ·subst e;rw[ip rfl];exact hv
 ·rw[iN e]at hj⊢;exact h j hj
theorem MZ.quiet(h:MZ n bx pl v1 v2 kv ba pa P3 P4 E Bs ar nr cr Ds w0 W P5 rv q qa d u w)(J7:∀j,lN Bs ar nr j→j<W.heap.size)(i:Nat)(v:aS)(hi:(i=3∨i=4∨i=9∨i=10∨i=11∨i=12)→False)(hv:CrU v1 v2 rv kv (cN ba) (cN pa) qa i v)(hb:Below w.heap.size w w'):
 MZ n bx pl v1 v2 kv ba pa P3 P4 E Bs ar nr cr Ds w0 W P5 rv q qa (Uf d i) (Kz u i v) w':=by
 have e3:(3:Nat)≠i:=fun e=>hi (.inl e.symm);have e4:(4:Nat)≠i:=fun e=>hi (.inr (.inl e.symm));have e9:(9:Nat)≠i:=fun e=>hi (.inr (.inr (.inl e.symm)));have e10:(10:Nat)≠i:=fun e=>hi (.inr (.inr (.inr (.inl e.symm))));have e11:(11:Nat)≠i:=fun e=>hi (.inr (.inr (.inr (.inr (.inl e.symm)))));have e12:(12:Nat)≠i:=fun e=>hi (.inr (.inr (.inr (.inr (.inr e.symm)))));refine⟨BL h.vals hv,?_,?_,?_,?_,?_,?_,h.k.below J7 hb⟩<;>simp only[Uf,Kz,iN e3,iN e4,iN e9,iN e10,iN e11,iN e12]
 ·intro h1 h2;obtain⟨g,e,hg⟩:=h.m3 h1 h2;exact⟨g,e,hg.below hb hg.lt⟩
 ·intro h1 h2;obtain⟨g,e,hg⟩:=h.m9 h1 h2;exact⟨g,e,hg.below hb hg.lt⟩
 ·exact dI h.r3 hb
 ·exact dI h.r4 hb
 ·exact h.b3.below hb h.b3.lt
 ·exact h.b4.below hb h.b4.lt
theorem MZ.made3(h:MZ n bx pl v1 v2 kv ba pa P3 P4 E Bs ar nr cr Ds w0 W P5 rv q qa d u w)(J7:∀j,lN Bs ar nr j→j<W.heap.size):
 MZ n bx pl v1 v2 kv ba pa P3 P4 E Bs ar nr cr Ds w0 W P5 rv q qa (Uf d 3) (Kz u 3 (aB (some ⟨w.heap.size,0,none⟩) 1 1)) (w.alloc (aJ ba 246)):=by
 have hb:Below w.heap.size w (w.alloc (aJ ba 246)):=(aH _ _).alloc (aG _) _;refine⟨BL h.vals trivial,fun _ _=>⟨_,rfl,bT.new _ _ _⟩,?_,dI h.r3 hb,dI h.r4 hb,h.b3.below hb h.b3.lt,h.b4.below hb h.b4.lt,h.k.below J7 hb⟩;intro h1 h2;obtain⟨g,e,hg⟩:=h.m9 h1 h2;exact⟨g,e,hg.below hb hg.lt⟩
theorem MZ.made9(h:MZ n bx pl v1 v2 kv ba pa P3 P4 E Bs ar nr cr Ds w0 W P5 rv q qa d u w)(J7:∀j,lN Bs ar nr j→j<W.heap.size):
 MZ n bx pl v1 v2 kv ba pa P3 P4 E Bs ar nr cr Ds w0 W P5 rv q qa (Uf d 9) (Kz u 9 (aB (some ⟨w.heap.size,0,none⟩) 1 1)) (w.alloc (aJ pa 249)):=by
 have hb:Below w.heap.size w (w.alloc (aJ pa 249)):=(aH _ _).alloc (aG _) _;refine⟨BL h.vals trivial,?_,fun _ _=>⟨_,rfl,bT.new _ _ _⟩,dI h.r3 hb,dI h.r4 hb,h.b3.below hb h.b3.lt,h.b4.below hb h.b4.lt,h.k.below J7 hb⟩;intro h1 h2;obtain⟨g,e,hg⟩:=h.m3 h1 h2;exact⟨g,e,hg.below hb hg.lt⟩
theorem MZ.app4(h:MZ n bx pl v1 v2 kv ba pa P3 P4 E Bs ar nr cr Ds w0 W P5 rv q qa d u w)(hp:∀p,0<nr→ar=some p→p.block<w0.heap.size)(h11:d 11=false){v:aS}(ho:w'.ownsRow w0.heap.size 246 4 v (n+1) (bx++ba.toList))
 (h4:d 4=false)(hg:w.grownBy w' v1.ownBlock):MZ n bx pl v1 v2 kv ba pa P3 P4 E Bs ar nr cr Ds w0 W P5 rv q qa (Uf d 4) (Kz u 4 v) w':=by
 have r3:=h.r3;rw[h4]at r3;have hr:=DU.owns r3;refine⟨BL h.vals trivial,fun _ h2=>by simp[Uf]at h2,?_,ho,OQ h.r4 hg hr (by decide),?_,Mp h.b4 hg hr (by decide),h.k.grow hp hg hr (by decide) (by decide) (by decide)⟩
 ·intro h1 h2;obtain⟨g,e,hgb⟩:=h.m9 h1 h2;exact⟨g,e,Mp hgb hg hr (by decide)⟩
 ·have b3:=Mp h.b3 hg hr (by decide);show bT w' P3 #[if d 11=true then _ else v1] _;rw[h11]at b3⊢;exact b3
theorem MZ.app10(h:MZ n bx pl v1 v2 kv ba pa P3 P4 E Bs ar nr cr Ds w0 W P5 rv q qa d u w)(hp:∀p,0<nr→ar=some p→p.block<w0.heap.size)(h12:d 12=false)(h4:d 4=true){v:aS}(ho:w'.ownsRow w0.heap.size 249 2 v (n+1) (pl++pa.toList))
 (er:d 10=false)(hg:w.grownBy w' v2.ownBlock):MZ n bx pl v1 v2 kv ba pa P3 P4 E Bs ar nr cr Ds w0 W P5 rv q qa (Uf d 10) (Kz u 10 v) w':=by
 have r4:=h.r4;rw[er]at r4;have hr:=DU.owns r4;refine⟨BL h.vals trivial,fun _ h2=>?_,fun _ h2=>by simp[Uf]at h2,OQ h.r3 hg hr (by decide),ho,Mp h.b3 hg hr (by decide),?_,h.k.grow hp hg hr (by decide) (by decide) (by decide)⟩
 ·have h2:d 4=false:=h2;rw[h4]at h2;cases h2
 ·have b4:=Mp h.b4 hg hr (by decide);show bT w' P4 #[if d 12=true then _ else v2] _;rw[h12]at b4⊢;exact b4
theorem MZ.sto11(h:MZ n bx pl v1 v2 kv ba pa P3 P4 E Bs ar nr cr Ds w0 W P5 rv q qa d u w)(hp:∀p,0<nr→ar=some p→p.block<w0.heap.size)(h3:w0.heap.size≤P3)(v:aS)(h4:d 4=true)(er:d 10=true):
 MZ n bx pl v1 v2 kv ba pa P3 P4 E Bs ar nr cr Ds w0 W P5 rv q qa (Uf d 11) (Kz u 11 v) (w.setCell ⟨P3,0,none⟩ (u 4)):=by
 have hr:=DU.blk h.b3 h3;have hg:=ix w P3 (u 4);refine⟨BL h.vals trivial,fun _ h2=>?_,fun _ h2=>?_,OQ h.r3 hg hr (by decide),OQ h.r4 hg hr (by decide),?_,Mp h.b4 hg hr (by decide),h.k.grow hp hg hr (by decide) (by decide) (by decide)⟩
 ·have h2:d 4=false:=h2;rw[h4]at h2;cases h2
 ·have h2:d 10=false:=h2;rw[er]at h2;cases h2
 ·exact h.b3.set 0 (u 4)
theorem MZ.sto12(h:MZ n bx pl v1 v2 kv ba pa P3 P4 E Bs ar nr cr Ds w0 W P5 rv q qa d u w)(hp:∀p,0<nr→ar=some p→p.block<w0.heap.size)(h3:w0.heap.size≤P4)(v:aS)(h4:d 4=true)(er:d 10=true):
 MZ n bx pl v1 v2 kv ba pa P3 P4 E Bs ar nr cr Ds w0 W P5 rv q qa (Uf d 12) (Kz u 12 v) (w.setCell ⟨P4,0,none⟩ (u 10)):=by
 have hr:=DU.blk h.b4 h3;have hg:=ix w P4 (u 10);refine⟨BL h.vals trivial,fun _ h2=>?_,fun _ h2=>?_,OQ h.r3 hg hr (by decide),OQ h.r4 hg hr (by decide),Mp h.b3 hg hr (by decide),?_,h.k.grow hp hg hr (by decide) (by decide) (by decide)⟩
 ·have h2:d 4=false:=h2;rw[h4]at h2;cases h2
 ·have h2:d 10=false:=h2;rw[er]at h2;cases h2
 ·exact h.b4.set 0 (u 10)
end
end
section
open Go Go.RowKit Go.Shelf Go.Lib
section
attribute[local go_sem] dW
theorem Fk{W:aF}{base e size n:Nat}{v:aS}{xs:List aS}(h:W.ownsRow base e size v n xs):∃a c,v=aB a n c:=by
 rcases h.2 with⟨h,h0⟩|⟨g,c,yU,h,_⟩
 ·exact⟨none,0,by rw[h,h0]⟩
 ·exact⟨_,_,h⟩
theorem World.rangeAt_of4{V:aF}{g s:Nat}{l:List aS}(h:∀j,j<4→V.cell? ⟨g,s+j,none⟩=l[j]?)(hl:l.length=4:=by rfl):V.rangeAt g s l:=fun j v hv=>by
 have hj:j<4:=by rw[←hl];exact(List.getElem?_eq_some_iff.1 hv).1
 rw[h j hj,hv]
structure CrV(P3 P4 B n:Nat)(bx pl:List aS)(v1 v2:aS)(W:aF):Prop where
 b3:bT W P3 #[v1] 243
 b4:bT W P4 #[v2] 244
 r3:W.ownsRow B 246 4 v1 n bx
 r4:W.ownsRow B 249 2 v2 n pl
theorem CrV.below{P3 P4 B n:Nat}{bx pl:List aS}{v1 v2:aS}{W W':aF}(h:CrV P3 P4 B n bx pl v1 v2 W)(hb:Below W.heap.size W W'):CrV P3 P4 B n bx pl v1 v2 W':=
 ⟨h.b3.below hb h.b3.lt,h.b4.below hb h.b4.lt,dI h.r3 hb,dI h.r4 hb⟩
theorem CrV.own{P3 P4 B n:Nat}{bx pl:List aS}{v1 v2:aS}{W W':aF}{lM:Option Nat}(h:CrV P3 P4 B n bx pl v1 v2 W)(hg:W.grownBy W' lM)(hr:∀r,lM=some r→∃o:Obj,W.heap[r]? =some o∧o.isCells=false):CrV P3 P4 B n bx pl v1 v2 W':=
 ⟨h.b3.own hg hr,h.b4.own hg hr,oT h.r3 hg hr,oT h.r4 hg hr⟩
def CrS(P3 P4 B:Nat)(f:Nat→List Sd)(l:List (Nat×Nat))(W:aF):Prop:=∃v1 v2,CrV P3 P4 B l.length (xc f l) (pls l) v1 v2 W
theorem CrS.below{P3 P4 B:Nat}{f:Nat→List Sd}{l:List (Nat×Nat)}{W W':aF}(h:CrS P3 P4 B f l W)(hb:Below W.heap.size W W'):CrS P3 P4 B f l W':=by
 obtain⟨v1,v2,h⟩:=h;exact⟨v1,v2,h.below hb⟩
theorem CrS.own{β:Type}{P3 P4 B:Nat}{f:Nat→List Sd}{l:β→List (Nat×Nat)}:Own (fun s W=>CrS P3 P4 B f (l s) W):=fun s W W' lM h hg hr=>by
 obtain⟨v1,v2,h⟩:=h;exact⟨v1,v2,h.own hg hr⟩
theorem Xm (a : Option cT) (N cap : Nat) (rs : List Rg) (w : aF) (hl : rs.length = N) (hN : N ≤ 1000) (hn : ∀ r, (bQ rs r).length ≤ 1000) (rr : GL w a rs) (hc : dA (bQ rs) N ≤ 24) (h0 : I4 (bQ rs) N = false) :
 Calls aC 122 #[aB a N cap] w (Rt (aN false) w) := by
 have HR := zq rr
 have HL := zq hl
 have HN := zq hn
 have H0 := zq h0
 have J5 : bH (∀ j, j ≤ N → dA (bQ rs) j ≤ 24) := fun j hj => bE (qU hj) hc
 clear rr hl hn hc h0
 obtain ⟨W0, eQ⟩ := nm ((w.alloc (aJ #[aB none 0 0] 243)).alloc (aJ #[aB none 0 0] 244))
 obtain ⟨n3, n4, nb⟩ := Mm eQ
 have hs : CrS w.heap.size (w.heap.size + 1) w.heap.size (bQ rs) (BK (bQ rs) 0) W0 := ⟨_, _, n3, n4, Ba _ _ _ _, Ba _ _ _ _⟩
 have HW := zq eQ
 have gY := zq nb
 obtain ⟨P3, hP3⟩ := nm w.heap.size
 rw (config := {occs := .pos [1, 2]}) [hP3] at hs
 obtain ⟨P4, hP4⟩ := nm (P3 + 1)
 rw [hP4] at hs
 have HP3 := zq hP3
 have HP4 := zq hP4
 have HS0 := zq hs
 clear eQ nb n3 n4 hs
 refine dE func122 rfl ?_
 simp only [ntmps122, bW, bF, bY, cW, cX, bR, bS, cD, bU, cL, bZ]
 go_upto_region 3 with (fail)
 rw [HW.out]
 clear HW hP3 hP4
 go_wp2
 refine wp_loop (fun a' w' => ∃ (r : Nat) (Ds : List Nat) (u5 u6 u17 u18 u19 u20 u21 u22 u36 : aS), a' = { tmps := #[aB a N cap, aP, aN false, bA (some ⟨P3, 0, none⟩), bA (some ⟨P4, 0, none⟩), u5, u6, aP, aP, aP, aP, aP, aP, aP, aB a N cap, aD aE N, aD aE r, u17, u18, u19, u20, u21, u22, aP, aP, aP, aP, aP, aP, aP, aP, aP, aP, aP, aP, aP, u36, aP, aP, aP, aP, aP, aP, aP, aP, aP, aP, aP, aP, aP, aP, aP, aP, aP, aP, aP, aP, aP, aP, aP, aP, aP, aP, aP, aP, aP, aP, aP, aP, aP, aP, aP, aP, aP, aP, aP, aP, aP, aP, aP, aP, aP, aP, aP, aP, aP, aP, aP, aP, aP, aP, aP, aP, aP, aP, aP, aP, aP, aP, aP, aP, aP], defers := Ds.map mkD } ∧
  r ≤ N ∧ bH (CrS P3 P4 w.heap.size (bQ rs) (BK (bQ rs) r) w') ∧ bH (Below w.heap.size w w') ∧ bH (Mk w.heap.size w'.heap.size Ds w'))
  (fun a' _ => N - (aK (a'.tmps.getD 16 aP)).toNat) ⟨0, [], aP, aP, aP, aP, aP, aP, aP, aP, aP, rfl, bN _, HS0.out, gY.out, Mk.nil _ _ _⟩ ?_
 clear HS0 gY
 rintro _ wr ⟨r, Ds, u5, u6, u17, u18, u19, u20, u21, u22, u36, rfl, hr, HS, HB, HM⟩
 by_cases hrN : r < N
 ·obtain ⟨b, o, rfl, c0, Ml⟩ := (HR.out.below HB.out).at (i := r) (by rw [HL.out]; exact hrN) rfl
  rw [show (rs.getD r default).ss.length = (bQ rs r).length from rfl] at c0
  have Ca := zq Ml
  have T9 : bH (∀ p, 0 < (bQ rs r).length → (rs.getD r default).a = some p → p.block < w.heap.size) := fun p h0 e => by
   obtain ⟨b', o', e1, -, rs1⟩ := HR.out.at (i := r) (by rw [HL.out]; exact hrN) rfl
   obtain ⟨b2, o2, e2, c⟩ := rs1 0 h0
   rw [e] at e2; injection e2 with e2; subst e2
   exact bG w _ (c 0 (by decide))
  have E1 : bH (BK (bQ rs) (r + 1) = BK (bQ rs) r ++ RD r (bQ rs r).length) := rfl
  have Fg := J5.out (r + 1) hrN
  have E2 : bH (dA (bQ rs) (r + 1) = dA (bQ rs) r + (bQ rs r).length) := rfl
  rw [E2.out] at Fg
  have hal := Dy (bQ rs) r
  have yB := HN.out r
  rw [show (rs.getD r default).ss = bQ rs r from rfl] at Ca
  have HF : bH (∀ k, bxC (bQ rs) (r, k) = [aD aE (DQ ((bQ rs r).getD k default).x (jG (bQ rs r) k).x), aD aE (DQ ((bQ rs r).getD k default).y (jG (bQ rs r) k).y), aD aE (DR ((bQ rs r).getD k default).x (jG (bQ rs r) k).x), aD aE (DR ((bQ rs r).getD k default).y (jG (bQ rs r) k).y)]) := fun k => rfl
  clear Ml
  obtain ⟨l, hl⟩ := nm (bQ rs r)
  rw [hl] at E1 E2 Fg yB Ca T9 c0 HF
  obtain ⟨n, SK⟩ := nm l.length
  rw [SK] at E1 E2 Fg yB T9 c0
  have HLn := zq SK
  clear hl SK
  generalize (rs.getD r default).a = ar at *
  generalize (rs.getD r default).cap = cr at *
  obtain ⟨A1, we⟩ := nm (BK (bQ rs) (r + 1))
  rw [we] at E1
  have Vl := zq we
  clear we
  generalize BK (bQ rs) r = A0 at *
  generalize dA (bQ rs) r = C0 at *
  clear E2
  obtain ⟨W1, vQ⟩ := nm (wr.alloc (aJ #[aD aE r] 3))
  have hb1 := (aH _ wr).alloc (aG _) (aJ #[aD aE r] 3)
  have hq1 := bT.new wr #[aD aE r] 3
  rw [vQ] at hb1 hq1
  have qh := zq vQ
  have TJ := zq (HS.out.below hb1)
  have eW := zq (aU HB.out hb1)
  have HM1 := zq ((HM.out.below hb1).grow hb1.size)
  have CP := zq (Ca.out.below hb1)
  have JG := zq hq1
  have HP5B : bH (w.heap.size ≤ wr.heap.size) := HB.out.size
  clear vQ hb1 hq1 HS HB HM Ca
  obtain ⟨P5, hP5⟩ := nm wr.heap.size
  have HP5 : bH (wr.heap.size = P5) := hP5
  go_upto_region 6 with (fail)
  rw [qh.out]
  clear qh
  rw [hP5] at JG
  have HPB : bH (P5 < W1.heap.size) := JG.out.lt
  have wz : bH (w.heap.size ≤ P5) := by rw [← hP5]; exact HP5B.out
  clear hP5
  go_wp2_with fail
  refine (AH ar n cr W1).mono ?_
  rintro e W3 ⟨rfl, Rw⟩
  have hb3 : Below W1.heap.size W1 W3 := by rw [Rw]; exact (aH _ _).alloc (aG _) _
  have wu : bT W3 W1.heap.size #[aB ar n cr] 52 := by rw [Rw]; exact bT.new _ _ _
  have HS3 := zq (TJ.out.below hb3)
  have HB3 := zq (aU eW.out hb3)
  have HM3 := zq ((HM1.out.below hb3).grow hb3.size)
  have B8 := zq (CP.out.below hb3)
  have MY := zq wu
  have HQ53 := zq (JG.out.below hb3 JG.out.lt)
  have HBs : bH (w.heap.size ≤ W1.heap.size) := eW.out.size
  clear hb3 wu Rw TJ eW HM1 CP JG c0
  generalize W1.heap.size = Bs at *
  go_wp2_with fail
  refine AI Bs ar n cr l rfl HLn.out yB (MY.out.cell 0) B8.out
   (fun k W => CrS P3 P4 w.heap.size (bQ rs) (A0 ++ RD r k) W ∧ bT W P5 #[aD aE r] 3 ∧ bT W Bs #[aB ar n cr] 52 ∧ Below w.heap.size w W ∧ Mk w.heap.size W3.heap.size Ds W)
   (fun c _ W => False)
   (cU (Own.from CrS.own _) (cU (Own.from (fun s A B lM hs hg hr => hs.own hg hr) _) (cU (Own.from (fun s A B lM hs hg hr => hs.own hg hr) _) (cU (oA (aG _) HB3.out.size) Mk.from))))
   (fun c _ _ _ _ hs _ _ => hs)
   ⟨by rw [show A0 ++ RD r 0 = A0 from pP _]; exact HS3.out, HQ53.out, MY.out, HB3.out, HM3.out⟩
   (fun k Q ar' => { tmps := #[aB (some ⟨b, o, none⟩) N cap, aP, aN false, bA (some ⟨P3, 0, none⟩), bA (some ⟨P4, 0, none⟩), bA (some ⟨P5, 0, none⟩), aB ar n cr, aD aE k, bA (some ⟨Q, 0, none⟩), aP, aP, aP, aP, aP, aB (some ⟨b, o, none⟩) N cap, aD aE N, aD aE r, aN true, aD aE r, bA (some ⟨b, o + r, none⟩), aB ar n cr, aB ar n cr, .func (.func 203) #[] #[bA (some ⟨Bs, 0, none⟩)], aD aE k, cN ar', aP, aP, aP, aP, aP, aP, aP, aP, aP, aP, aP, u36, aP, aP, aP, aP, aP, aP, aP, aP, aP, aP, aP, aP, aP, aP, aP, aP, aP, aP, aP, aP, aP, aP, aP, aP, aP, aP, aP, aP, aP, aP, aP, aP, aP, aP, aP, aP, aP, aP, aP, aP, aP, aP, aP, aP, aP, aP, aP, aP, aP, aP, aP, aP, aP, aP, aP, aP, aP, aP, aP, aP, aP, aP, aP, aP, aP], defers := [] })
   (fun ly k p s t W K hk hK => ?_) (fun ly k Q p s t W hk hp hs ht hq Yy J7 hI => ?_) (fun D W hD hI hK => ?_) (fun D c k W _ _ h _ => absurd h (fun h => h))
  ·gi_upto_region 8 with (fail)
   refine uN T8 (zX p s t) rfl ?_
   show K _ _
   simpa only [dK, aM, aV, bC] using hK
  ·obtain ⟨h1, h2, h3, h4, h5⟩ := hI
   obtain ⟨v1, v2, h1⟩ := h1
   have hAl : (A0 ++ RD r k).length = C0 + k := by rw [cP, hal, Qs]
   rw [hAl] at h1
   have X1 := zq h1
   have X2 := zq h2
   have X3 := zq h3
   have X4 := zq h4
   have X5 := zq h5
   have XQ := zq hq
   have Xrw := zq J7
   have R7 : bH (bxC (bQ rs) (r, k) = [aD aE (DQ s.x t.x), aD aE (DQ s.y t.y), aD aE (DR s.x t.x), aD aE (DR s.y t.y)]) := by rw [HF.out, hs, ht]; exact zq rfl
   have Hbx := zq (fun W => wx p s t W)
   have EB : bH (xc (bQ rs) (A0 ++ RD r (k + 1)) = xc (bQ rs) (A0 ++ RD r k) ++ [aD aE (DQ s.x t.x), aD aE (DQ s.y t.y), aD aE (DR s.x t.x), aD aE (DR s.y t.y)]) := by
    show _ = _
    rw [Uc, ← B7, bxs_app, show xc (bQ rs) [(r, k)] = bxC (bQ rs) (r, k) from pP _, R7.out]
   have EP : bH (pls (A0 ++ RD r (k + 1)) = pls (A0 ++ RD r k) ++ [aD aE r, aD aE k]) := by
    show _ = _
    rw [Uc, ← B7, pls_app]; rfl
   have EL : bH ((A0 ++ RD r (k + 1)).length = C0 + k + 1) := by show _ = _; rw [cP, hal, Qs]; omega
   generalize xc (bQ rs) (A0 ++ RD r k) = bx at *
   generalize pls (A0 ++ RD r k) = pl at *
   generalize DQ s.x t.x = b0 at *
   generalize DQ s.y t.y = b1 at *
   generalize DR s.x t.x = b2 at *
   generalize DR s.y t.y = b3 at *
   clear h1 h2 h3 h4 h5 hq J7 hp hs ht Yy HF
   have Hp4 : bH (∀ p, 0 < n → ar = some p → p.block < w.heap.size) := T9.out
   have Hp3 : bH (w.heap.size ≤ P3) := Aa HP3.out
   have Hp5 : bH (w.heap.size ≤ P4) := by have := HP3.out; have := HP4.out; show _ ≤ _; omega
   gi_wp2
   refine AG (fun d a' w' => ∃ u : Nat → aS, a' = { tmps := #[aB (some ⟨b, o, none⟩) N cap, aP, aN false, bA (some ⟨P3, 0, none⟩), bA (some ⟨P4, 0, none⟩), bA (some ⟨P5, 0, none⟩), aB ar n cr, aD aE k, bA (some ⟨Q, 0, none⟩), aP, aP, aP, aP, aP, aB (some ⟨b, o, none⟩) N cap, aD aE N, aD aE r, aN true, aD aE r, bA (some ⟨b, o + r, none⟩), aB ar n cr, aB ar n cr, .func (.func 203) #[] #[bA (some ⟨Bs, 0, none⟩)], aD aE k, cN (zX p s t), u 0, u 1, u 2, u 3, u 4, u 5, u 6, u 7, u 8, u 9, u 10, u36, aP, aP, aP, aP, aP, aP, aP, aP, aP, aP, aP, aP, aP, aP, aP, aP, aP, aP, aP, aP, aP, aP, aP, aP, aP, aP, aP, aP, aP, aP, aP, aP, aP, aP, aP, aP, aP, aP, aP, aP, aP, aP, aP, aP, aP, aP, aP, aP, aP, aP, aP, aP, aP, aP, aP, aP, aP, aP, aP, aP, aP, aP, aP, aP, aP], defers := [] } ∧ MZ (C0 + k) bx pl v1 v2 (aD aE k) #[aD aE b0, aD aE b1, aD aE b2, aD aE b3] #[aD aE r, aD aE k] P3 P4 W3.heap.size Bs ar n cr Ds w W P5 (aD aE r) Q (zX p s t) d u w')
    ⟨fun _ => aP, rfl, ⟨fun _ h => by (cases h), fun h => by (cases h), fun h => by (cases h), X1.out.r3, X1.out.r4, X1.out.b3, X1.out.b4, ⟨(KeepsOthers.drew W).from _, fun _ _ => rfl, X4.out.drew, X5.out, X3.out, X2.out, XQ.out⟩⟩⟩ ?_ ?_
   ·rintro d _ w' i oi ho ⟨u, rfl, H⟩ hd hneed hcl K hK
    have hi : i < 13 := (Array.getElem?_eq_some_iff.1 ho).1
    have hm : ∀ k, List.elem k (BX .any _ i) = true → d k = true := fun k h => hneed k (List.elem_iff.1 h)
    have hu : ∀ j, List.elem i (BX .any _ j) = true → d j = false := fun j h => by
     cases e : d j with
     | false => rfl
     | true => have := hcl j e i (List.elem_iff.1 h); rw [hd] at this; cases this
    clear hneed hcl
    obtain rfl | rfl | rfl | rfl | rfl | rfl | rfl | rfl | rfl | rfl | rfl | rfl | rfl : i = 0 ∨ i = 1 ∨ i = 2 ∨ i = 3 ∨ i = 4 ∨ i = 5 ∨ i = 6 ∨ i = 7 ∨ i = 8 ∨ i = 9 ∨ i = 10 ∨ i = 11 ∨ i = 12 := by omega
    ·obtain rfl := dQ ho
     rw [ip (by kernel_rfl)]
     have c3 := H.b3.cell 0
     rw [hu 11 (by kernel_rfl)] at c3
     simp only [aL, aI, jQ, if_false] at c3
     exact C4 (v := v1) (w' := w') (by go_simp) (hK _ _ ⟨Kz u 0 _, rfl, H.quiet Xrw.out 0 _ (by omega) rfl (aH _ _)⟩)
    ·obtain rfl := dQ ho
     rw [ip (by kernel_rfl)]
     exact Qp 99 Q 0 (zX p s t) (H.k.k7.range 0 21 rfl) (hK _ _ ⟨Kz u 1 _, rfl, H.quiet Xrw.out 1 _ (by omega) rfl (aH _ _)⟩)
    ·obtain rfl := dQ ho
     rw [ip (by kernel_rfl)]
     have e1 : u 1 = cN (zX p s t) := H.vals 1 (hm 1 (by kernel_rfl))
     have hd1 : Uf d 1 = d := funext fun j => by
      unfold Uf
      by_cases e : j = 1
      ·rw [ip e, e, hm 1 (by kernel_rfl)]
      ·rw [iN e]
     have H1 := H.quiet Xrw.out 1 (cN (zX p s t)) (by omega) rfl (aH _ _)
     rw [hd1] at H1
     have HK := zq hK
     have HX := zq H1
     clear hK H H1 hd1 hm hu
     go_simp
     refine ⟨trivial, callsIn_wide.2 ((Hbx.out _).mono ?_)⟩
     rintro e w2 ⟨rfl, hb⟩
     exact HK.out _ _ ⟨Kz (Kz u 1 (cN (zX p s t))) 2 _, rfl, HX.out.quiet Xrw.out 2 _ (by omega) rfl hb⟩
    ·obtain rfl := dQ ho
     rw [ip (by kernel_rfl)]
     have e2 : u 2 = cN #[aD aE b0, aD aE b1, aD aE b2, aD aE b3] := H.vals 2 (hm 2 (by kernel_rfl))
     exact C4 (v := aB (some ⟨w'.heap.size, 0, none⟩) 1 1) (w' := w'.alloc (aJ #[aD aE b0, aD aE b1, aD aE b2, aD aE b3] 246)) (by go_simp) (hK _ _ ⟨Kz u 3 _, rfl, H.made3 Xrw.out⟩)
    ·obtain rfl := dQ ho
     rw [ip (by kernel_rfl)]
     have e0 : u 0 = v1 := H.vals 0 (hm 0 (by kernel_rfl))
     obtain ⟨g, e3, hG⟩ := H.m3 (hm 3 (by kernel_rfl)) hd
     have r3 := H.r3
     rw [hd] at r3
     simp only [jQ, if_false] at r3
     obtain ⟨i0, hi0, zL, vX, oL⟩ := vJ xe
     exact I3 _ _ 243 rfl w.heap.size 246 i0 _ 4 32 underlying243 hi0 zL vX oL rfl (by decide) v1 (C0 + k) bx e0 r3 ⟨g, 0, none⟩ 1 1 [aD aE b0, aD aE b1, aD aE b2, aD aE b3] e3 rfl (fun j u hj => by rw [XN, dZ, hG.cell]; simpa using hj) (by simp [nO]) (by unfold maxLen; omega) (by omega) H.k.k3.size
      (fun v' w2 ho hg => hK _ _ ⟨Kz u 4 _, rfl, H.app4 Hp4.out (hu 11 (by kernel_rfl)) ho hd hg⟩)
    ·obtain rfl := dQ ho
     rw [ip (by kernel_rfl)]
     have c3 := H.b4.cell 0
     rw [hu 12 (by kernel_rfl)] at c3
     simp only [aL, aI, jQ, if_false] at c3
     exact C4 (v := v2) (w' := w') (by go_simp) (hK _ _ ⟨Kz u 5 _, rfl, H.quiet Xrw.out 5 _ (by omega) rfl (aH _ _)⟩)
    ·obtain rfl := dQ ho
     rw [ip (by kernel_rfl)]
     have c3 := H.k.k6.cell 0
     simp only [aL, aI] at c3
     exact C4 (v := aD aE r) (w' := w') (by go_simp) (hK _ _ ⟨Kz u 6 _, rfl, H.quiet Xrw.out 6 _ (by omega) rfl (aH _ _)⟩)
    ·obtain rfl := dQ ho
     rw [ip (by kernel_rfl)]
     exact C4 (v := aD aE k) (w' := w') (by go_simp) (hK _ _ ⟨Kz u 7 _, rfl, H.quiet Xrw.out 7 _ (by omega) rfl (aH _ _)⟩)
    ·obtain rfl := dQ ho
     rw [ip (by kernel_rfl)]
     have e6 : u 6 = aD aE r := H.vals 6 (hm 6 (by kernel_rfl))
     have e7 : u 7 = aD aE k := H.vals 7 (hm 7 (by kernel_rfl))
     exact C4 (v := cN #[aD aE r, aD aE k]) (w' := w') (by go_simp) (hK _ _ ⟨Kz u 8 _, rfl, H.quiet Xrw.out 8 _ (by omega) rfl (aH _ _)⟩)
    ·obtain rfl := dQ ho
     rw [ip (by kernel_rfl)]
     have e2 : u 8 = cN #[aD aE r, aD aE k] := H.vals 8 (hm 8 (by kernel_rfl))
     exact C4 (v := aB (some ⟨w'.heap.size, 0, none⟩) 1 1) (w' := w'.alloc (aJ #[aD aE r, aD aE k] 249)) (by go_simp) (hK _ _ ⟨Kz u 9 _, rfl, H.made9 Xrw.out⟩)
    ·obtain rfl := dQ ho
     rw [ip (by kernel_rfl)]
     have e0 : u 5 = v2 := H.vals 5 (hm 5 (by kernel_rfl))
     obtain ⟨g, e3, hG⟩ := H.m9 (hm 9 (by kernel_rfl)) hd
     have r3 := H.r4
     rw [hd] at r3
     simp only [jQ, if_false] at r3
     obtain ⟨i0, hi0, zL, vX, oL⟩ := vJ Xl
     exact I3 _ _ 244 rfl w.heap.size 249 i0 _ 2 16 underlying244 hi0 zL vX oL rfl (by decide) v2 (C0 + k) pl e0 r3 ⟨g, 0, none⟩ 1 1 [aD aE r, aD aE k] e3 rfl (fun j u hj => by rw [XN, dZ, hG.cell]; simpa using hj) (by simp [nO]) (by unfold maxLen; omega) (by omega) H.k.k3.size
      (fun v' w2 ho hg => hK _ _ ⟨Kz u 10 _, rfl, H.app10 Hp4.out (hu 12 (by kernel_rfl)) (hm 4 (by kernel_rfl)) ho hd hg⟩)
    ·obtain rfl := dQ ho
     rw [ip (by kernel_rfl)]
     have h4 := hm 4 (by kernel_rfl)
     have er := hm 10 (by kernel_rfl)
     have r3 := H.r3
     rw [h4] at r3
     simp only [if_true] at r3
     obtain ⟨g, c, e4⟩ := xE (Nat.succ_pos _) r3
     have z3 := H.b3.fz 0
     have c3 := H.b3.cell 0
     simp only [aL, aI] at c3
     exact Kv (w' := w'.setCell ⟨P3, 0, none⟩ (u 4)) (by rw [e4]; go_simp) (hK _ _ ⟨Kz u 11 aP, rfl, H.sto11 Hp4.out Hp3.out _ h4 er⟩)
    ·obtain rfl := dQ ho
     rw [ip (by kernel_rfl)]
     have h4 := hm 4 (by kernel_rfl)
     have er := hm 10 (by kernel_rfl)
     have r3 := H.r4
     rw [er] at r3
     simp only [if_true] at r3
     obtain ⟨g, c, e4⟩ := xE (Nat.succ_pos _) r3
     have z3 := H.b4.fz 0
     have c3 := H.b4.cell 0
     simp only [aL, aI] at c3
     exact Kv (w' := w'.setCell ⟨P4, 0, none⟩ (u 10)) (by rw [e4]; go_simp) (hK _ _ ⟨Kz u 12 aP, rfl, H.sto12 Hp4.out Hp5.out _ h4 er⟩)
   ·rintro d _ w' ⟨u, rfl, H⟩ hall
    have h4 := hall 4 (by decide)
    have er := hall 10 (by decide)
    have h11 := hall 11 (by decide)
    have h12 := hall 12 (by decide)
    have r3 := H.r3
    have r4 := H.r4
    have b3 := H.b3
    have b4 := H.b4
    rw [h4] at r3
    rw [er] at r4
    rw [h11] at b3
    rw [h12] at b4
    simp only [if_true] at r3 r4 b3 b4
    have HK := zq H.k
    have HV := zq (CrV.mk b3 b4 r3 r4)
    clear H hall r3 r4 b3 b4 h4 er h11 h12
    gi_wp2
    refine ⟨HK.out.k1, HK.out.k2, ⟨u 4, u 10, ?_⟩, HK.out.k6, HK.out.k5, HK.out.k3, HK.out.k4⟩
    rw [EB.out, EP.out, EL.out]
    exact HV.out
  ·obtain ⟨h1, h2, h3, h4, h5⟩ := hI
   have X1 : bH (CrS P3 P4 w.heap.size (bQ rs) A1 W) := by rw [E1.out]; exact h1
   rw [← Vl.out] at X1
   have X4 := zq h4
   have X5 := zq (h5.cons (bE HBs.out (fZ MY.out.lt)) hD hK)
   clear h1 h2 h3 h4 h5
   go_wp2
   go_roundw
   ·exact ⟨r + 1, D :: Ds, _, _, _, _, _, _, _, _, _, rfl, hrN, X1.out, X4.out, X5.out⟩
   ·show N - ((r : Int) + 1).toNat < N - (r : Int).toNat
    omega
 ·obtain rfl : N = r := by omega
  obtain ⟨v1, v2, hv⟩ := HS.out
  rw [Dy] at hv
  obtain ⟨a3, k3, rfl⟩ := Fk hv.r3
  obtain ⟨a4, k4, rfl⟩ := Fk hv.r4
  have c3 := hv.b3.cell 0
  have c4 := hv.b4.cell 0
  have HV := zq hv
  have Fg := J5.out N (aG _)
  simp only [aL, aI] at c3 c4
  have oe := Dy (bQ rs) N
  have HG : bH (∀ i, i < dA (bQ rs) N → ((BK (bQ rs) N).getD i default).1 < N ∧ ((BK (bQ rs) N).getD i default).2 < (bQ rs ((BK (bQ rs) N).getD i default).1).length) := fun i hi => GP (eB (by omega) default)
  have wy : bH (∀ i k, k < i → i < dA (bQ rs) N → nbI ((BK (bQ rs) N).getD i default).1 ((BK (bQ rs) N).getD k default).1 ((BK (bQ rs) N).getD i default).2 ((BK (bQ rs) N).getD k default).2 (bQ rs ((BK (bQ rs) N).getD i default).1).length = false → mtB (bQ rs) ((BK (bQ rs) N).getD i default) ((BK (bQ rs) N).getD k default) = false) := fun i k h1 h2 => crs_law H0.out h1 h2
  have IR : bH (∀ i j, i < dA (bQ rs) N → j < 4 → (xc (bQ rs) (BK (bQ rs) N))[i * 4 + j]? = (bxC (bQ rs) ((BK (bQ rs) N).getD i default))[j]?) := fun i j hi hj => Qt (z := 4) (fun _ => rfl) _ i j (by omega) hj
  have HPc : bH (∀ i j, i < dA (bQ rs) N → j < 2 → (pls (BK (bQ rs) N))[i * 2 + j]? = (plC ((BK (bQ rs) N).getD i default))[j]?) := fun i j hi hj => Qt (z := 2) (fun _ => rfl) _ i j (by omega) hj
  have HM0 := zq oe
  clear hv oe HS
  generalize BK (bQ rs) N = L at *
  obtain ⟨M, hM⟩ := nm (dA (bQ rs) N)
  rw [hM] at HV HG wy IR HPc HM0 Fg c3 c4
  clear hM J5 H0
  generalize xc (bQ rs) L = bx at *
  generalize pls L = pl at *
  go_wp2
  go_loopw [39] (fun i wi => ∃ q : Nat, i = aD aE q ∧ q ≤ M ∧ bH (CrV P3 P4 w.heap.size M bx pl (aB a3 M k3) (aB a4 M k4) wi) ∧ bH (Below w.heap.size w wi) ∧ bH (Mk w.heap.size wi.heap.size Ds wi)) (fun i _ => M - (aK i).toNat)
  case atStart => exact ⟨0, rfl, bN _, HV.out, HB.out, HM.out⟩
  case round =>
   clear c3 c4 HV HB HM
   obtain ⟨i, rfl, hi, HV, HB, HM⟩ := hrel
   rename aF => wi
   by_cases hiM : i < M
   ·have hiI : (i : Int) < M := by omega
    go_wp2
    go_loopw [43] (fun j wi => ∃ q : Nat, j = aD aE q ∧ q ≤ i ∧ bH (CrV P3 P4 w.heap.size M bx pl (aB a3 M k3) (aB a4 M k4) wi) ∧ bH (Below w.heap.size w wi) ∧ bH (Mk w.heap.size wi.heap.size Ds wi)) (fun j _ => i - (aK j).toNat)
    case atStart => exact ⟨0, rfl, bN _, HV.out, HB.out, HM.out⟩
    case round =>
     clear HV HB HM
     obtain ⟨k, rfl, hk, HV, HB, HM⟩ := hrel
     rename aF => wk
     by_cases hki : k < i
     ·obtain ⟨g3, k3', e⟩ := xE (by omega) HV.out.r3
      cases e
      obtain ⟨g4, k4', e⟩ := xE (by omega) HV.out.r4
      cases e
      obtain ⟨hp1, jk⟩ := HG.out i hiM
      have HCp := zq (wy.out i k hki hiM)
      have p0 := (HV.out.r4.cellAt (i * 2 + 0) (by omega)).trans (HPc.out i 0 hiM (by decide))
      have p1 := (HV.out.r4.cellAt (i * 2 + 1) (by omega)).trans (HPc.out i 1 hiM (by decide))
      have q0 := (HV.out.r4.cellAt (k * 2 + 0) (by omega)).trans (HPc.out k 0 (by omega) (by decide))
      have q1 := (HV.out.r4.cellAt (k * 2 + 1) (by omega)).trans (HPc.out k 1 (by omega) (by decide))
      have HRi := zq (fun (V : aF) (h : V.ownsRow w.heap.size 246 4 (aB (some ⟨g3, 0, none⟩) M k3) M bx) => (World.rangeAt_of4 (fun j hj => (h.cellAt (i * 4 + j) (by omega)).trans (IR.out i j hiM hj)) : V.rangeAt g3 (i * 4) (bxC (bQ rs) (L.getD i default))))
      have HRk := zq (fun (V : aF) (h : V.ownsRow w.heap.size 246 4 (aB (some ⟨g3, 0, none⟩) M k3) M bx) => (World.rangeAt_of4 (fun j hj => (h.cellAt (k * 4 + j) (by omega)).trans (IR.out k j (by omega) hj)) : V.rangeAt g3 (k * 4) (bxC (bQ rs) (L.getD k default))))
      obtain ⟨b, o, rfl, f0, -⟩ := (HR.out.below HB.out).at (i := (L.getD i default).1) (by rw [HL.out]; exact hp1) rfl
      rw [show (rs.getD (L.getD i default).1 default).ss.length = (bQ rs (L.getD i default).1).length from rfl] at f0
      have yB := HN.out (L.getD i default).1
      have Ab := HN.out (L.getD k default).1
      have Ic := (HG.out k (by omega)).2
      have hq1 := (HG.out k (by omega)).1
      have c3 := HV.out.b3.cell 0
      have c4 := HV.out.b4.cell 0
      simp only [aL, aI] at c3 c4
      rw [show i * 2 + 0 = i * 2 from rfl, show (plC (L.getD i default))[0]? = some (aD aE ((L.getD i default).1 : Nat)) from rfl] at p0
      rw [show (plC (L.getD i default))[1]? = some (aD aE ((L.getD i default).2 : Nat)) from rfl] at p1
      rw [show k * 2 + 0 = k * 2 from rfl, show (plC (L.getD k default))[0]? = some (aD aE ((L.getD k default).1 : Nat)) from rfl] at q0
      rw [show (plC (L.getD k default))[1]? = some (aD aE ((L.getD k default).2 : Nat)) from rfl] at q1
      have Hmt := zq (fun V => wv (DQ ((bQ rs (L.getD i default).1).getD (L.getD i default).2 default).x (jG (bQ rs (L.getD i default).1) (L.getD i default).2).x) (DQ ((bQ rs (L.getD i default).1).getD (L.getD i default).2 default).y (jG (bQ rs (L.getD i default).1) (L.getD i default).2).y) (DR ((bQ rs (L.getD i default).1).getD (L.getD i default).2 default).x (jG (bQ rs (L.getD i default).1) (L.getD i default).2).x) (DR ((bQ rs (L.getD i default).1).getD (L.getD i default).2 default).y (jG (bQ rs (L.getD i default).1) (L.getD i default).2).y) (DQ ((bQ rs (L.getD k default).1).getD (L.getD k default).2 default).x (jG (bQ rs (L.getD k default).1) (L.getD k default).2).x) (DQ ((bQ rs (L.getD k default).1).getD (L.getD k default).2 default).y (jG (bQ rs (L.getD k default).1) (L.getD k default).2).y) (DR ((bQ rs (L.getD k default).1).getD (L.getD k default).2 default).x (jG (bQ rs (L.getD k default).1) (L.getD k default).2).x) (DR ((bQ rs (L.getD k default).1).getD (L.getD k default).2 default).y (jG (bQ rs (L.getD k default).1) (L.getD k default).2).y) V)
      unfold mtB at HCp
      unfold bxV at Hmt
      unfold bxC at HRi HRk
      generalize DQ ((bQ rs (L.getD i default).1).getD (L.getD i default).2 default).x _ = a0 at *
      generalize DQ ((bQ rs (L.getD i default).1).getD (L.getD i default).2 default).y _ = a1 at *
      generalize DR ((bQ rs (L.getD i default).1).getD (L.getD i default).2 default).x _ = a2 at *
      generalize DR ((bQ rs (L.getD i default).1).getD (L.getD i default).2 default).y _ = a3 at *
      generalize DQ ((bQ rs (L.getD k default).1).getD (L.getD k default).2 default).x _ = b0 at *
      generalize DQ ((bQ rs (L.getD k default).1).getD (L.getD k default).2 default).y _ = b1 at *
      generalize DR ((bQ rs (L.getD k default).1).getD (L.getD k default).2 default).x _ = b2 at *
      generalize DR ((bQ rs (L.getD k default).1).getD (L.getD k default).2 default).y _ = b3 at *
      generalize (rs.getD (L.getD i default).1 default).a = ar at *
      generalize (rs.getD (L.getD i default).1 default).cap = cr at *
      generalize (bQ rs (L.getD i default).1).length = n at *
      generalize (bQ rs (L.getD k default).1).length = n2 at *
      generalize (L.getD i default).1 = r at *
      generalize (L.getD k default).1 = r2 at *
      generalize (L.getD i default).2 = s at *
      generalize (L.getD k default).2 = s2 at *
      have hx : bH ((((r : Int) == (r2 : Int)) = false ∨ ((r : Int) == (r2 : Int)) = true ∧ ((s : Int) - s2 == 1) = false ∧ ((s : Int) - s2 == (n : Int) - 1) = false) ∧ nbI r r2 s s2 n = false ∨
       (((r : Int) == (r2 : Int)) = true ∧ (((s : Int) - s2 == 1) = true ∨ ((s : Int) - s2 == 1) = false ∧ ((s : Int) - s2 == (n : Int) - 1) = true)) ∧ nbI r r2 s s2 n = true) := by
       show _ ∨ _
       unfold nbI
       rw [BH (a := (r : Int)) (b := r2) (p := r = r2) (by omega), BH (a := (s : Int) - s2) (b := 1) (p := (s : Int) - s2 = 1) Iff.rfl, BH (a := (s : Int) - s2) (b := (n : Int) - 1) (p := (s : Int) - s2 = (n : Int) - 1) Iff.rfl]
       cases decide (r = r2) <;> cases decide ((s : Int) - s2 = 1) <;> cases decide ((s : Int) - s2 = (n : Int) - 1) <;> simp
      have w1 : IntKind.i64.wrap ((s : Int) - s2) = (s : Int) - s2 := aX _ (by omega)
      have w2 : IntKind.i64.wrap ((n : Int) - 1) = (n : Int) - 1 := aX _ (by omega)
      have v1 : (i : Int) < M := by omega
      have v2 : (k : Int) < M := by omega
      have v3 : (r : Int) < N := by omega
      have v4 : (k : Int) < i := by omega
      have HCx : bH (nbI r r2 s s2 n = false → _) := HCp
      clear HCp HG wy IR HPc yB Ab Ic hq1 hp1 jk
      rcases hx.out with ⟨hq, hz⟩ | ⟨hq, hz⟩
      ·rcases hq with h1 | ⟨h1, h2, h3⟩
       all_goals
        clear hx
        go_wp2
        go_quiet (fail)
        go_wp2
        go_quiet (fail)
        go_wp2
        refine xR 13 (fun _ => .quiet) (fun V => V.cell? ⟨P3, 0, none⟩ = some (aB (some ⟨g3, 0, none⟩) M k3) ∧ V.rangeAt g3 (i * 4) [aD aE a0, aD aE a1, aD aE a2, aD aE a3] ∧ V.rangeAt g3 (k * 4) [aD aE b0, aD aE b1, aD aE b2, aD aE b3]) ⟨c3, HRi.out _ HV.out.r3, HRk.out _ HV.out.r3⟩ ?_
         (st := fun w1 w2 h hb => ⟨ON hb HV.out.b3.lt h.1, fun j v hv => ON hb (HV.out.r3.lt _ rfl).2 (h.2.1 j v hv), fun j v hv => ON hb (HV.out.r3.lt _ rfl).2 (h.2.2 j v hv)⟩)
        refine qS 0 rfl (pu ?_)
        refine qS 1 rfl (pu ?_)
        refine qS 2 rfl (pu ?_)
        refine qS 3 rfl (pu ?_)
        refine qS 4 rfl (pu ?_)
        refine qS 5 rfl (pu ?_)
        refine qR 6 g3 (i * 4) #[aD aE a0, aD aE a1, aD aE a2, aD aE a3] (fun V h => h.1.2.1) rfl (pu ?_)
        refine qS 7 rfl (pu ?_)
        refine qS 8 rfl (pu ?_)
        refine qS 9 rfl (pu ?_)
        refine qR 10 g3 (k * 4) #[aD aE b0, aD aE b1, aD aE b2, aD aE b3] (fun V h => h.1.2.2) rfl (pu ?_)
        refine qC 11 (fun V _ => Hmt.out V) rfl (pu ?_)
        rw [HCx.out hz]
        refine qS 12 rfl (pu ?_)
        refine qE fun V hV _ => ?_
        have Ae : Below wk.heap.size wk V := (cK (cK (aH _ wk) _) _).trans hV.b
        have XV := zq (HV.out.below Ae)
        have XB := zq (aU HB.out Ae)
        have XM := zq ((HM.out.below Ae).top)
        clear hV Ae
        go_wp2
        go_roundw
        case rel => exact ⟨k + 1, by go_num, by omega, XV.out, XB.out, XM.out⟩
        case measure => simp only [aK]; omega
      ·rcases hq with ⟨h1, (h2 | ⟨h2, h3⟩)⟩
       all_goals
        clear hx
        go_wp2
        go_quiet (fail)
        go_wp2
        go_quiet (fail)
        go_wp2
        refine xR 13 (fun _ => .quiet) (fun V => True) trivial ?_ (st := fun w1 w2 h hb => trivial)
        refine qS 0 rfl (pu ?_)
        refine qS 1 rfl (pu ?_)
        refine qS 2 rfl (pu ?_)
        refine qNn 3 rfl (pu ?_)
        refine qNn 4 rfl (pu ?_)
        refine qNn 5 rfl (pu ?_)
        refine qNn 6 rfl (pu ?_)
        refine qNn 7 rfl (pu ?_)
        refine qNn 8 rfl (pu ?_)
        refine qNn 9 rfl (pu ?_)
        refine qNn 10 rfl (pu ?_)
        refine qNn 11 rfl (pu ?_)
        refine qS 12 rfl (pu ?_)
        refine qE fun V hV _ => ?_
        have Ae : Below wk.heap.size wk V := (cK (cK (aH _ wk) _) _).trans hV.b
        have XV := zq (HV.out.below Ae)
        have XB := zq (aU HB.out Ae)
        have XM := zq ((HM.out.below Ae).top)
        clear hV Ae
        go_wp2
        go_roundw
        case rel => exact ⟨k + 1, by go_num, by omega, XV.out, XB.out, XM.out⟩
        case measure => simp only [aK]; omega
     ·obtain rfl : i = k := by omega
      go_wp2
      go_roundw
      case rel => exact ⟨i + 1, by go_num, by omega, HV.out, HB.out, HM.out⟩
      case measure => simp only [aK]; omega
   ·obtain rfl : M = i := by omega
    go_wp2
    exact Qu (Ds := Ds) rfl HM.out (fun V => Below w.heap.size w V) HB.out (fun V X hX hV hx => hV.trans (pC hX hx))
     (fun V hV => ⟨results_tmp rfl _ _ _, rfl, hV⟩)
end
end
end Go.Proofs.YtckgmoobicmbnaaGreatDoor
