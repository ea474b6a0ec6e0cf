/-
  Texts that the claims of this chapter share, joined.
-/
import Derived.Test.YtfejidinfcmfjaaPx0
import Derived.Test.YtfejidinfcmfjaaCn5df
set_option linter.unusedVariables false
set_option linter.unusedSimpArgs false
-- Written by a program of this session (xprint.py) over the kit's print.py.
namespace Go.Proofs.Ytfejidinfcmfjaa.P
open Go.RowKit Go.Proofs.YtfejidinfcmfjaaW.PrintWords Go.Proofs.YtfejidinfcmfjaaW.PrintLast Go.Proofs.YtfejidinfcmfjaaW.PrintMore
attribute [local go_sem] max2_int min2_int max_two min_two max_three min_three max_four min_four   -- for this text's walks alone
set_option linter.unusedVariables false
set_option linter.unusedSimpArgs false

/-! ### sextonref25_Cut: function 24 -/
def sextonref25_Cut.l0 : Nat → List (S29) → Int → Int → List (S29) → Int → Option ((List (S29)))
  | 0, _, _, _, _, _ => none
  | k + 1, x0, x1, x2, x7, x8 => if x8 < (x0.length : Int) then (if 0 ≤ x8 then (if ((rd_T29 x0 x8).f1) = x1 then (if (((rd_T29 x0 x8).f2) = x2) then (sextonref25_Cut.l0 k x0 x1 x2 x7 (wrap64 (x8 + 1))) else (if ((rd_T29 x0 x8).f1) = x2 then (if (((rd_T29 x0 x8).f2) = x1) then (sextonref25_Cut.l0 k x0 x1 x2 x7 (wrap64 (x8 + 1))) else ((sextonref25_own.f ((rd_T29 x0 x8).f0) ((rd_T29 x0 x8).f1) ((rd_T29 x0 x8).f2) ((rd_T29 x0 x8).f3) ((rd_T29 x0 x8).f4) ((rd_T29 x0 x8).f5) ((rd_T29 x0 x8).f6) ((rd_T29 x0 x8).f7)).bind fun bt217 => (if x7.length < 1759218604441 then (sextonref25_Cut.l0 k x0 x1 x2 (x7 ++ [(⟨bt217.1, bt217.2.1, bt217.2.2.1, bt217.2.2.2.1, bt217.2.2.2.2.1, bt217.2.2.2.2.2.1, bt217.2.2.2.2.2.2.1, bt217.2.2.2.2.2.2.2⟩ : S29)]) (wrap64 (x8 + 1))) else (none)))) else ((sextonref25_own.f ((rd_T29 x0 x8).f0) ((rd_T29 x0 x8).f1) ((rd_T29 x0 x8).f2) ((rd_T29 x0 x8).f3) ((rd_T29 x0 x8).f4) ((rd_T29 x0 x8).f5) ((rd_T29 x0 x8).f6) ((rd_T29 x0 x8).f7)).bind fun bt232 => (if x7.length < 1759218604441 then (sextonref25_Cut.l0 k x0 x1 x2 (x7 ++ [(⟨bt232.1, bt232.2.1, bt232.2.2.1, bt232.2.2.2.1, bt232.2.2.2.2.1, bt232.2.2.2.2.2.1, bt232.2.2.2.2.2.2.1, bt232.2.2.2.2.2.2.2⟩ : S29)]) (wrap64 (x8 + 1))) else (none))))) else (if ((rd_T29 x0 x8).f1) = x2 then (if (((rd_T29 x0 x8).f2) = x1) then (sextonref25_Cut.l0 k x0 x1 x2 x7 (wrap64 (x8 + 1))) else ((sextonref25_own.f ((rd_T29 x0 x8).f0) ((rd_T29 x0 x8).f1) ((rd_T29 x0 x8).f2) ((rd_T29 x0 x8).f3) ((rd_T29 x0 x8).f4) ((rd_T29 x0 x8).f5) ((rd_T29 x0 x8).f6) ((rd_T29 x0 x8).f7)).bind fun bt247 => (if x7.length < 1759218604441 then (sextonref25_Cut.l0 k x0 x1 x2 (x7 ++ [(⟨bt247.1, bt247.2.1, bt247.2.2.1, bt247.2.2.2.1, bt247.2.2.2.2.1, bt247.2.2.2.2.2.1, bt247.2.2.2.2.2.2.1, bt247.2.2.2.2.2.2.2⟩ : S29)]) (wrap64 (x8 + 1))) else (none)))) else ((sextonref25_own.f ((rd_T29 x0 x8).f0) ((rd_T29 x0 x8).f1) ((rd_T29 x0 x8).f2) ((rd_T29 x0 x8).f3) ((rd_T29 x0 x8).f4) ((rd_T29 x0 x8).f5) ((rd_T29 x0 x8).f6) ((rd_T29 x0 x8).f7)).bind fun bt262 => (if x7.length < 1759218604441 then (sextonref25_Cut.l0 k x0 x1 x2 (x7 ++ [(⟨bt262.1, bt262.2.1, bt262.2.2.1, bt262.2.2.2.1, bt262.2.2.2.2.1, bt262.2.2.2.2.2.1, bt262.2.2.2.2.2.2.1, bt262.2.2.2.2.2.2.2⟩ : S29)]) (wrap64 (x8 + 1))) else (none))))) else (none)) else (some x7)
def sextonref25_Cut.f (k : Nat) (l0 : List (S29)) (a1 : Int) (a2 : Int) : Option ((List (S29))) := sextonref25_Cut.l0 k l0 a1 a2 ([] : List (S29)) 0
set_option maxHeartbeats 8000000 in
set_option maxRecDepth 100000 in
theorem sextonref25_Cut.calls (k : Nat) (A0 : Option Addr) (c0 : Nat) (l0 : List (S29)) (a1 : Int) (a2 : Int) (r : List (S29)) (w : World) (hr0 : Kd.C k29 w A0 l0.length l0) (hc0 : l0.length ≤ c0) (h : sextonref25_Cut.f k l0 a1 a2 = some r) :
    Calls Try.prog 24 #[.slice A0 l0.length c0, .int .i64 a1, .int .i64 a2] w fun e w' => ∃ v0_ : Value, e = .returned (v0_) ∧ Kd.S k29 29 w' w.heap.size (fun _ => True) v0_ r ∧ Below w.heap.size w w' := by
  have hu29 := Try.underlying29
  have HR0 := Aside0.mk hr0
  have HC0 := Aside0.mk hc0
  clear hr0 hc0
  have HB := Aside0.mk (Below.refl w.heap.size w)
  have H : (sextonref25_Cut.l0 k l0 a1 a2 ([] : List (S29)) 0) = some r := h
  clear h
  have H' := Aside0.mk H
  clear H
  go_enter Try.func24, Try.ntmps24
  go_wp2
  go_loopg [7, 8] k (fun kq v7 v8 w' => ∃ (x7_1 : List (S29)) (x8_1 : Int), v8 = .int .i64 x8_1 ∧ Aside0 (sextonref25_Cut.l0 kq l0 a1 a2 x7_1 x8_1 = some r) ∧ Aside0 (kq ≤ k) ∧ Aside0 (Kd.S k29 29 w' w.heap.size (fun _ => True) v7 x7_1) ∧ Aside0 (Below w.heap.size w w'))
  case atStart => exact ⟨(([] : List (S29))), (0), (by first | rfl | (simp; done) | (simp [*]; done)), H', ⟨Nat.le_refl _⟩, ⟨by first | exact Kd.S_nil _ _ _ _ _ | exact Kd.N_nil _ _ _ _ _ | exact Kd.V_nil _ _ _ _ _ | exact Kd.Q_nil _ _ _ _ _ | exact Kd.R_nil _ _ _ _ _⟩, ⟨by repeat (first | (with_reducible first | exact HB.out | apply below_alloc | apply pw_below_drewN | apply below_drew1) | exact HB.out)⟩⟩
  case round =>
    clear H'
    try clear c2
    try clear p2
    obtain ⟨x7_1, x8_1, rfl, HA, HK1, HO_7, HB⟩ := hrel
    cases gk with
    | zero => exact absurd HA.out (by simp [sextonref25_Cut.l0])
    | succ k1 =>
      have H := HA.out
      clear HA
      simp only [sextonref25_Cut.l0] at H
      by_cases c4 : x8_1 < (l0.length : Int)
      · rw [if_pos c4] at H
        have c4b0 : decide (x8_1 < (l0.length : Int)) = true := decide_eq_true c4
        clear c4
        by_cases c5 : 0 ≤ x8_1
        · rw [if_pos c5] at H
          have c5b0 : decide (0 ≤ x8_1) = true := decide_eq_true c5
          clear c5
          by_cases c6 : ((rd_T29 l0 x8_1).f1) = a1
          · rw [if_pos c6] at H
            have c6b0 : (((rd_T29 l0 x8_1).f1) == a1) = true := beq_iff_eq.mpr c6
            have c6b1 : (((rd_T29 l0 x8_1).f1) != a1) = false := bne_eq_false_iff_eq.mpr c6
            clear c6
            by_cases c7 : (((rd_T29 l0 x8_1).f2) = a2)
            · rw [if_pos c7] at H
              have c7b0 : (((rd_T29 l0 x8_1).f2) == a2) = true := beq_iff_eq.mpr c7
              have c7b1 : (((rd_T29 l0 x8_1).f2) != a2) = false := bne_eq_false_iff_eq.mpr c7
              clear c7
              have H' := Aside0.mk H
              clear H
              have p214 : 0 ≤ (x8_1 : Int) := of_decide_eq_true (by first | (with_reducible assumption) | assumption)
              have q214 : x8_1 < (l0.length : Int) := of_decide_eq_true (by first | (with_reducible assumption) | assumption)
              obtain ⟨ad214, A214_7, c214_7, e214, hx214_0, hx214_1, hx214_2, hx214_3, hx214_4, hx214_5, hx214_6, hx214_7, hl214_7, hi214_7⟩ := at_T29 HR0.out x8_1 p214 q214
              cases e214
              replace hx214_0 := (HB.out.cell (World.block_lt_of_cell? w _ hx214_0)).trans hx214_0
              replace hx214_1 := (HB.out.cell (World.block_lt_of_cell? w _ hx214_1)).trans hx214_1
              replace hx214_2 := (HB.out.cell (World.block_lt_of_cell? w _ hx214_2)).trans hx214_2
              replace hx214_3 := (HB.out.cell (World.block_lt_of_cell? w _ hx214_3)).trans hx214_3
              replace hx214_4 := (HB.out.cell (World.block_lt_of_cell? w _ hx214_4)).trans hx214_4
              replace hx214_5 := (HB.out.cell (World.block_lt_of_cell? w _ hx214_5)).trans hx214_5
              replace hx214_6 := (HB.out.cell (World.block_lt_of_cell? w _ hx214_6)).trans hx214_6
              replace hx214_7 := (HB.out.cell (World.block_lt_of_cell? w _ hx214_7)).trans hx214_7
              have HR214_7 := Aside0.mk hi214_7
              have HC214_7 := Aside0.mk hl214_7
              clear hi214_7 hl214_7
              replace p214 := eq_true p214
              replace q214 := eq_true q214
              have p215 : 0 ≤ (x8_1 : Int) := of_decide_eq_true (by first | (with_reducible assumption) | assumption)
              have q215 : x8_1 < (l0.length : Int) := of_decide_eq_true (by first | (with_reducible assumption) | assumption)
              obtain ⟨ad215, A215_7, c215_7, e215, hx215_0, hx215_1, hx215_2, hx215_3, hx215_4, hx215_5, hx215_6, hx215_7, hl215_7, hi215_7⟩ := at_T29 HR0.out x8_1 p215 q215
              obtain rfl : ad214 = ad215 := (by injection e215)
              replace hx215_0 := (HB.out.cell (World.block_lt_of_cell? w _ hx215_0)).trans hx215_0
              replace hx215_1 := (HB.out.cell (World.block_lt_of_cell? w _ hx215_1)).trans hx215_1
              replace hx215_2 := (HB.out.cell (World.block_lt_of_cell? w _ hx215_2)).trans hx215_2
              replace hx215_3 := (HB.out.cell (World.block_lt_of_cell? w _ hx215_3)).trans hx215_3
              replace hx215_4 := (HB.out.cell (World.block_lt_of_cell? w _ hx215_4)).trans hx215_4
              replace hx215_5 := (HB.out.cell (World.block_lt_of_cell? w _ hx215_5)).trans hx215_5
              replace hx215_6 := (HB.out.cell (World.block_lt_of_cell? w _ hx215_6)).trans hx215_6
              replace hx215_7 := (HB.out.cell (World.block_lt_of_cell? w _ hx215_7)).trans hx215_7
              have HR215_7 := Aside0.mk hi215_7
              have HC215_7 := Aside0.mk hl215_7
              clear hi215_7 hl215_7
              replace p215 := eq_true p215
              replace q215 := eq_true q215
              have ea_ := Option.some.inj (hx214_7.symm.trans hx215_7)
              injection ea_ with ea_ en_ ec_
              subst ea_
              subst ec_
              clear en_
              go_wp2
              go_roundg k1
              case measure => have := HK1.out; omega
              case rel => exact ⟨(x7_1), (wrap64 (x8_1 + 1)), (by first | rfl | (simp; done) | (simp [*]; done)), H', ⟨by have := HK1.out; omega⟩, ⟨by (with_reducible repeat (first | apply Kd.S_alloc | apply Kd.S_drewN | apply Kd.S_drew)); exact HO_7.out⟩, ⟨by repeat (first | (with_reducible first | exact HB.out | apply below_alloc | apply pw_below_drewN | apply below_drew1) | exact HB.out)⟩⟩
            · rw [if_neg c7] at H
              have c7b0 : (((rd_T29 l0 x8_1).f2) == a2) = false := beq_eq_false_iff_ne.mpr c7
              have c7b1 : (((rd_T29 l0 x8_1).f2) != a2) = true := bne_iff_ne.mpr c7
              by_cases c8 : ((rd_T29 l0 x8_1).f1) = a2
              · rw [if_pos c8] at H
                have c8b0 : (((rd_T29 l0 x8_1).f1) == a2) = true := beq_iff_eq.mpr c8
                have c8b1 : (((rd_T29 l0 x8_1).f1) != a2) = false := bne_eq_false_iff_eq.mpr c8
                clear c8
                by_cases c9 : (((rd_T29 l0 x8_1).f2) = a1)
                · rw [if_pos c9] at H
                  have c9b0 : (((rd_T29 l0 x8_1).f2) == a1) = true := beq_iff_eq.mpr c9
                  have c9b1 : (((rd_T29 l0 x8_1).f2) != a1) = false := bne_eq_false_iff_eq.mpr c9
                  clear c9
                  have H' := Aside0.mk H
                  clear H
                  have p214 : 0 ≤ (x8_1 : Int) := of_decide_eq_true (by first | (with_reducible assumption) | assumption)
                  have q214 : x8_1 < (l0.length : Int) := of_decide_eq_true (by first | (with_reducible assumption) | assumption)
                  obtain ⟨ad214, A214_7, c214_7, e214, hx214_0, hx214_1, hx214_2, hx214_3, hx214_4, hx214_5, hx214_6, hx214_7, hl214_7, hi214_7⟩ := at_T29 HR0.out x8_1 p214 q214
                  cases e214
                  replace hx214_0 := (HB.out.cell (World.block_lt_of_cell? w _ hx214_0)).trans hx214_0
                  replace hx214_1 := (HB.out.cell (World.block_lt_of_cell? w _ hx214_1)).trans hx214_1
                  replace hx214_2 := (HB.out.cell (World.block_lt_of_cell? w _ hx214_2)).trans hx214_2
                  replace hx214_3 := (HB.out.cell (World.block_lt_of_cell? w _ hx214_3)).trans hx214_3
                  replace hx214_4 := (HB.out.cell (World.block_lt_of_cell? w _ hx214_4)).trans hx214_4
                  replace hx214_5 := (HB.out.cell (World.block_lt_of_cell? w _ hx214_5)).trans hx214_5
                  replace hx214_6 := (HB.out.cell (World.block_lt_of_cell? w _ hx214_6)).trans hx214_6
                  replace hx214_7 := (HB.out.cell (World.block_lt_of_cell? w _ hx214_7)).trans hx214_7
                  have HR214_7 := Aside0.mk hi214_7
                  have HC214_7 := Aside0.mk hl214_7
                  clear hi214_7 hl214_7
                  replace p214 := eq_true p214
                  replace q214 := eq_true q214
                  have p215 : 0 ≤ (x8_1 : Int) := of_decide_eq_true (by first | (with_reducible assumption) | assumption)
                  have q215 : x8_1 < (l0.length : Int) := of_decide_eq_true (by first | (with_reducible assumption) | assumption)
                  obtain ⟨ad215, A215_7, c215_7, e215, hx215_0, hx215_1, hx215_2, hx215_3, hx215_4, hx215_5, hx215_6, hx215_7, hl215_7, hi215_7⟩ := at_T29 HR0.out x8_1 p215 q215
                  obtain rfl : ad214 = ad215 := (by injection e215)
                  replace hx215_0 := (HB.out.cell (World.block_lt_of_cell? w _ hx215_0)).trans hx215_0
                  replace hx215_1 := (HB.out.cell (World.block_lt_of_cell? w _ hx215_1)).trans hx215_1
                  replace hx215_2 := (HB.out.cell (World.block_lt_of_cell? w _ hx215_2)).trans hx215_2
                  replace hx215_3 := (HB.out.cell (World.block_lt_of_cell? w _ hx215_3)).trans hx215_3
                  replace hx215_4 := (HB.out.cell (World.block_lt_of_cell? w _ hx215_4)).trans hx215_4
                  replace hx215_5 := (HB.out.cell (World.block_lt_of_cell? w _ hx215_5)).trans hx215_5
                  replace hx215_6 := (HB.out.cell (World.block_lt_of_cell? w _ hx215_6)).trans hx215_6
                  replace hx215_7 := (HB.out.cell (World.block_lt_of_cell? w _ hx215_7)).trans hx215_7
                  have HR215_7 := Aside0.mk hi215_7
                  have HC215_7 := Aside0.mk hl215_7
                  clear hi215_7 hl215_7
                  replace p215 := eq_true p215
                  replace q215 := eq_true q215
                  have ea_ := Option.some.inj (hx214_7.symm.trans hx215_7)
                  injection ea_ with ea_ en_ ec_
                  subst ea_
                  subst ec_
                  clear en_
                  go_wp2
                  go_roundg k1
                  case measure => have := HK1.out; omega
                  case rel => exact ⟨(x7_1), (wrap64 (x8_1 + 1)), (by first | rfl | (simp; done) | (simp [*]; done)), H', ⟨by have := HK1.out; omega⟩, ⟨by (with_reducible repeat (first | apply Kd.S_alloc | apply Kd.S_drewN | apply Kd.S_drew)); exact HO_7.out⟩, ⟨by repeat (first | (with_reducible first | exact HB.out | apply below_alloc | apply pw_below_drewN | apply below_drew1) | exact HB.out)⟩⟩
                · rw [if_neg c9] at H
                  have c9b0 : (((rd_T29 l0 x8_1).f2) == a1) = false := beq_eq_false_iff_ne.mpr c9
                  have c9b1 : (((rd_T29 l0 x8_1).f2) != a1) = true := bne_iff_ne.mpr c9
                  replace H := Option.bind_eq_some_iff.mp H
                  obtain ⟨⟨t217, t218, t219, t220, t221, t222, t223, t224⟩, A100, H⟩ := H
                  replace H : (if x7_1.length < 1759218604441 then (sextonref25_Cut.l0 k1 l0 a1 a2 (x7_1 ++ [(⟨t217, t218, t219, t220, t221, t222, t223, t224⟩ : S29)]) (wrap64 (x8_1 + 1))) else (none)) = some r := H
                  have A10 := Aside0.mk A100
                  clear A100
                  by_cases c11 : x7_1.length < 1759218604441
                  · rw [if_pos c11] at H
                    have LMc11 := Aside0.mk c11
                    clear c11
                    obtain ⟨y228, hy228⟩ : ∃ y_ : List (S29), y_ = (x7_1 ++ [(⟨t217, t218, t219, t220, t221, t222, t223, t224⟩ : S29)]) := ⟨_, rfl⟩
                    replace H : (sextonref25_Cut.l0 k1 l0 a1 a2 y228 (wrap64 (x8_1 + 1))) = some r := by first | (rw [hy228]; with_reducible exact H) | (have H2_ := (Option.bind_some _ _).symm.trans H; rw [hy228]; with_reducible exact H2_) | (have H2_ := (Option.bind_some _ _).symm.trans H; with_reducible exact H2_) | with_reducible exact H | (rw [hy228]; exact H) | exact H
                    have Ny228 := Aside0.mk hy228
                    clear hy228
                    have H' := Aside0.mk H
                    clear H
                    have p214 : 0 ≤ (x8_1 : Int) := of_decide_eq_true (by first | (with_reducible assumption) | assumption)
                    have q214 : x8_1 < (l0.length : Int) := of_decide_eq_true (by first | (with_reducible assumption) | assumption)
                    obtain ⟨ad214, A214_7, c214_7, e214, hx214_0, hx214_1, hx214_2, hx214_3, hx214_4, hx214_5, hx214_6, hx214_7, hl214_7, hi214_7⟩ := at_T29 HR0.out x8_1 p214 q214
                    cases e214
                    replace hx214_0 := (HB.out.cell (World.block_lt_of_cell? w _ hx214_0)).trans hx214_0
                    replace hx214_1 := (HB.out.cell (World.block_lt_of_cell? w _ hx214_1)).trans hx214_1
                    replace hx214_2 := (HB.out.cell (World.block_lt_of_cell? w _ hx214_2)).trans hx214_2
                    replace hx214_3 := (HB.out.cell (World.block_lt_of_cell? w _ hx214_3)).trans hx214_3
                    replace hx214_4 := (HB.out.cell (World.block_lt_of_cell? w _ hx214_4)).trans hx214_4
                    replace hx214_5 := (HB.out.cell (World.block_lt_of_cell? w _ hx214_5)).trans hx214_5
                    replace hx214_6 := (HB.out.cell (World.block_lt_of_cell? w _ hx214_6)).trans hx214_6
                    replace hx214_7 := (HB.out.cell (World.block_lt_of_cell? w _ hx214_7)).trans hx214_7
                    have HR214_7 := Aside0.mk hi214_7
                    have HC214_7 := Aside0.mk hl214_7
                    clear hi214_7 hl214_7
                    replace p214 := eq_true p214
                    replace q214 := eq_true q214
                    have p215 : 0 ≤ (x8_1 : Int) := of_decide_eq_true (by first | (with_reducible assumption) | assumption)
                    have q215 : x8_1 < (l0.length : Int) := of_decide_eq_true (by first | (with_reducible assumption) | assumption)
                    obtain ⟨ad215, A215_7, c215_7, e215, hx215_0, hx215_1, hx215_2, hx215_3, hx215_4, hx215_5, hx215_6, hx215_7, hl215_7, hi215_7⟩ := at_T29 HR0.out x8_1 p215 q215
                    obtain rfl : ad214 = ad215 := (by injection e215)
                    replace hx215_0 := (HB.out.cell (World.block_lt_of_cell? w _ hx215_0)).trans hx215_0
                    replace hx215_1 := (HB.out.cell (World.block_lt_of_cell? w _ hx215_1)).trans hx215_1
                    replace hx215_2 := (HB.out.cell (World.block_lt_of_cell? w _ hx215_2)).trans hx215_2
                    replace hx215_3 := (HB.out.cell (World.block_lt_of_cell? w _ hx215_3)).trans hx215_3
                    replace hx215_4 := (HB.out.cell (World.block_lt_of_cell? w _ hx215_4)).trans hx215_4
                    replace hx215_5 := (HB.out.cell (World.block_lt_of_cell? w _ hx215_5)).trans hx215_5
                    replace hx215_6 := (HB.out.cell (World.block_lt_of_cell? w _ hx215_6)).trans hx215_6
                    replace hx215_7 := (HB.out.cell (World.block_lt_of_cell? w _ hx215_7)).trans hx215_7
                    have HR215_7 := Aside0.mk hi215_7
                    have HC215_7 := Aside0.mk hl215_7
                    clear hi215_7 hl215_7
                    replace p215 := eq_true p215
                    replace q215 := eq_true q215
                    have ea_ := Option.some.inj (hx214_7.symm.trans hx215_7)
                    injection ea_ with ea_ en_ ec_
                    subst ea_
                    subst ec_
                    clear en_
                    have p216 : 0 ≤ (x8_1 : Int) := of_decide_eq_true (by first | (with_reducible assumption) | assumption)
                    have q216 : x8_1 < (l0.length : Int) := of_decide_eq_true (by first | (with_reducible assumption) | assumption)
                    obtain ⟨ad216, A216_7, c216_7, e216, hx216_0, hx216_1, hx216_2, hx216_3, hx216_4, hx216_5, hx216_6, hx216_7, hl216_7, hi216_7⟩ := at_T29 HR0.out x8_1 p216 q216
                    obtain rfl : ad214 = ad216 := (by injection e216)
                    replace hx216_0 := (HB.out.cell (World.block_lt_of_cell? w _ hx216_0)).trans hx216_0
                    replace hx216_1 := (HB.out.cell (World.block_lt_of_cell? w _ hx216_1)).trans hx216_1
                    replace hx216_2 := (HB.out.cell (World.block_lt_of_cell? w _ hx216_2)).trans hx216_2
                    replace hx216_3 := (HB.out.cell (World.block_lt_of_cell? w _ hx216_3)).trans hx216_3
                    replace hx216_4 := (HB.out.cell (World.block_lt_of_cell? w _ hx216_4)).trans hx216_4
                    replace hx216_5 := (HB.out.cell (World.block_lt_of_cell? w _ hx216_5)).trans hx216_5
                    replace hx216_6 := (HB.out.cell (World.block_lt_of_cell? w _ hx216_6)).trans hx216_6
                    replace hx216_7 := (HB.out.cell (World.block_lt_of_cell? w _ hx216_7)).trans hx216_7
                    have HR216_7 := Aside0.mk hi216_7
                    have HC216_7 := Aside0.mk hl216_7
                    clear hi216_7 hl216_7
                    replace p216 := eq_true p216
                    replace q216 := eq_true q216
                    have ea_ := Option.some.inj (hx214_7.symm.trans hx216_7)
                    injection ea_ with ea_ en_ ec_
                    subst ea_
                    subst ec_
                    clear en_
                    go_wp2_with (first | ((with_reducible refine gate_callee (f := 49) rfl ?_); refine goesL_ (some 52) rfl rfl Try.func49 (by kernel_rfl) rfl #[.agg #[.int .i64 ((rd_T29 l0 x8_1).f0), .int .i64 ((rd_T29 l0 x8_1).f1), .int .i64 ((rd_T29 l0 x8_1).f2), .int .i64 ((rd_T29 l0 x8_1).f3), .int .i64 ((rd_T29 l0 x8_1).f4), .int .i64 ((rd_T29 l0 x8_1).f5), .int .i64 ((rd_T29 l0 x8_1).f6), .slice A214_7 ((rd_T29 l0 x8_1).f7).length c214_7]] rfl (by (try simp only [List.map_toArray, List.map_cons, List.map_nil]); first | done | rfl | (simp only [List.length_drop, List.length_take]; rfl)) ?_; (with_reducible refine (sextonref25_own.calls ((rd_T29 l0 x8_1).f0) ((rd_T29 l0 x8_1).f1) ((rd_T29 l0 x8_1).f2) ((rd_T29 l0 x8_1).f3) ((rd_T29 l0 x8_1).f4) ((rd_T29 l0 x8_1).f5) ((rd_T29 l0 x8_1).f6) _ _ ((rd_T29 l0 x8_1).f7) t217 t218 t219 t220 t221 t222 t223 t224 _ ?side1 ?side2 A10.out).mono ?_); (case side1 => repeat (first | exact (Kd.C_below HR216_7.out HB.out) | (with_reducible refine Kd.C_alloc ?_ _) | (with_reducible refine Kd.C_drewN ?_ _) | (with_reducible refine Kd.C_drew ?_))); (case side2 => exact HC216_7.out); rintro e w12 ⟨v225, rfl, ho0, hb⟩; refine ⟨_, rfl, ?_⟩; have n0_ := Aside0.mk (Kd.S_elder' (by (with_reducible repeat (first | apply Kd.S_alloc | apply Kd.S_drewN | apply Kd.S_drew)); exact HO_7.out) (Kd.R_base ho0) hb); have n1_ := Aside0.mk (Kd.R_lower ho0 (below_size (by repeat (first | (with_reducible first | exact HB.out | apply below_alloc | apply pw_below_drewN | apply below_drew1) | exact HB.out)))); have n2_ := Aside0.mk (below_step (by repeat (first | (with_reducible first | exact HB.out | apply below_alloc | apply pw_below_drewN | apply below_drew1) | exact HB.out)) hb); clear HO_7; clear HB; have HO_7 := n0_; have HO226 := n1_; have HB := n2_; clear n0_ n1_ n2_; (try clear hb); (try clear hb2); (try clear hk); (try clear hi); (try clear ho0)) | ((with_reducible refine gate_dst (N := 11) rfl ?_); refine box_event ?hg (N := 11) ?hd (cs := #[.int .i64 0, .int .i64 0, .int .i64 0, .int .i64 0, .int .i64 0, .int .i64 0, .int .i64 0, .slice none 0 0]) (t := 29) ?hr ?_; (case hd => rfl); (case hg => rfl); (case hr => first | (go_simp; done) | (go_simp; rfl)); intro gb227 hg w13 hbox hb; have n0_ := Aside0.mk (Kd.S_below (Kd.S_elderB (by (with_reducible repeat (first | apply Kd.S_alloc | apply Kd.S_drewN | apply Kd.S_drew)); exact HO_7.out) gb227 (Nat.le_of_eq hg.symm)) hb); have n1_ := Aside0.mk (Kd.R_below (by (with_reducible repeat (first | apply Kd.R_alloc | apply Kd.R_drewN | apply Kd.R_drew)); exact HO226.out) hb); have n2_ := Aside0.mk (below_step (by repeat (first | (with_reducible first | exact HB.out | apply below_alloc | apply pw_below_drewN | apply below_drew1) | exact HB.out)) hb); have n3_ := Aside0.mk (hbox); have n4_ := Aside0.mk ((by rw [hg]; exact (below_size (by repeat (first | (with_reducible first | exact HB.out | apply below_alloc | apply pw_below_drewN | apply below_drew1) | exact HB.out))) : w.heap.size ≤ gb227)); have n5_ := Aside0.mk ((by rw [hg]; exact (below_size (by repeat (first | (with_reducible first | exact HB.out | apply below_alloc | apply pw_below_drewN | apply below_drew1) | exact HB.out))) : w.heap.size ≤ gb227)); clear HO_7; clear HO226; clear HB; have HO_7 := n0_; have HO226 := n1_; have HB := n2_; have BK227 := n3_; have GW227 := n4_; have GE227 := n5_; clear n0_ n1_ n2_ n3_ n4_ n5_; clear hb hbox hg; have hcz14_0 : w13.cell? ⟨gb227, 0, none⟩ = some (.int .i64 0) := (blk_cell BK227.out 0).trans rfl; have hcz14_1 : w13.cell? ⟨gb227, 1, none⟩ = some (.int .i64 0) := (blk_cell BK227.out 1).trans rfl; have hcz14_2 : w13.cell? ⟨gb227, 2, none⟩ = some (.int .i64 0) := (blk_cell BK227.out 2).trans rfl; have hcz14_3 : w13.cell? ⟨gb227, 3, none⟩ = some (.int .i64 0) := (blk_cell BK227.out 3).trans rfl; have hcz14_4 : w13.cell? ⟨gb227, 4, none⟩ = some (.int .i64 0) := (blk_cell BK227.out 4).trans rfl; have hcz14_5 : w13.cell? ⟨gb227, 5, none⟩ = some (.int .i64 0) := (blk_cell BK227.out 5).trans rfl; have hcz14_6 : w13.cell? ⟨gb227, 6, none⟩ = some (.int .i64 0) := (blk_cell BK227.out 6).trans rfl; have hcz14_7 : w13.cell? ⟨gb227, 7, none⟩ = some (.slice none 0 0) := (blk_cell BK227.out 7).trans rfl; have hfz14_0 := blk_frozen BK227.out 0; have hfz14_1 := blk_frozen BK227.out 1; have hfz14_2 := blk_frozen BK227.out 2; have hfz14_3 := blk_frozen BK227.out 3; have hfz14_4 := blk_frozen BK227.out 4; have hfz14_5 := blk_frozen BK227.out 5; have hfz14_6 := blk_frozen BK227.out 6; have hfz14_7 := blk_frozen BK227.out 7; obtain ⟨Ao15, co15, eo15⟩ := Kd.R_slice HO226.out; subst eo15) | ((with_reducible refine gate_store (t := 29) (p := 11) rfl ?_); refine store_event (t := 29) (p := 11) (v := ?vo_w16) (w1 := ((((((((w13.setCell ⟨gb227, 0, none⟩ (.int .i64 t217)).setCell ⟨gb227, 1, none⟩ (.int .i64 t218)).setCell ⟨gb227, 2, none⟩ (.int .i64 t219)).setCell ⟨gb227, 3, none⟩ (.int .i64 t220)).setCell ⟨gb227, 4, none⟩ (.int .i64 t221)).setCell ⟨gb227, 5, none⟩ (.int .i64 t222)).setCell ⟨gb227, 6, none⟩ (.int .i64 t223)).setCell ⟨gb227, 7, none⟩ (.slice Ao15 t224.length co15))) ?hg ?ho ?hn ?hr ?_; (case ho => rfl); (case hg => rfl); (case hn => rfl); (case hr => first | (go_simp; done) | (go_simp; rfl)); intro w16 hw; have n0_ : Aside0 (Kd.S k29 29 w16 w.heap.size (fun k_ => some k_ ≠ (.slice Ao15 t224.length co15 : Value).ownBlock ∧ k_ ≠ gb227) u7 x7_1) := ⟨(by rw [hw]; exact (by (with_reducible repeat (first | apply Kd.S_alloc | apply Kd.S_drewN | apply Kd.S_drew)); exact Kd.S_mono (Kd.S_far (p := ⟨gb227, 7, none⟩) (Kd.S_far (p := ⟨gb227, 6, none⟩) (Kd.S_far (p := ⟨gb227, 5, none⟩) (Kd.S_far (p := ⟨gb227, 4, none⟩) (Kd.S_far (p := ⟨gb227, 3, none⟩) (Kd.S_far (p := ⟨gb227, 2, none⟩) (Kd.S_far (p := ⟨gb227, 1, none⟩) (Kd.S_far (p := ⟨gb227, 0, none⟩) (Kd.S_mono HO_7.out (fun k_ hk => (⟨hk, hk.2⟩ : _ ∧ k_ ≠ gb227))) (fun _ hk => hk.2) (.int .i64 t217)) (fun _ hk => hk.2) (.int .i64 t218)) (fun _ hk => hk.2) (.int .i64 t219)) (fun _ hk => hk.2) (.int .i64 t220)) (fun _ hk => hk.2) (.int .i64 t221)) (fun _ hk => hk.2) (.int .i64 t222)) (fun _ hk => hk.2) (.int .i64 t223)) (fun _ hk => hk.2) (.slice Ao15 t224.length co15)) (fun _ hk => ⟨hk.1.1.2, hk.1.2⟩)))⟩; have n1_ : Aside0 (Kd.R Kd.string 9 w16 w.heap.size (fun _ => True) (.slice Ao15 t224.length co15) t224) := ⟨(by rw [hw]; exact (by (with_reducible repeat (first | apply Kd.R_alloc | apply Kd.R_drewN | apply Kd.R_drew)); exact Kd.R_mono (Kd.R_far (p := ⟨gb227, 7, none⟩) (Kd.R_far (p := ⟨gb227, 6, none⟩) (Kd.R_far (p := ⟨gb227, 5, none⟩) (Kd.R_far (p := ⟨gb227, 4, none⟩) (Kd.R_far (p := ⟨gb227, 3, none⟩) (Kd.R_far (p := ⟨gb227, 2, none⟩) (Kd.R_far (p := ⟨gb227, 1, none⟩) (Kd.R_far (p := ⟨gb227, 0, none⟩) (Kd.R_types HO226.out BK227.out (by decide)) (fun _ hk => hk.2) (.int .i64 t217)) (fun _ hk => hk.2) (.int .i64 t218)) (fun _ hk => hk.2) (.int .i64 t219)) (fun _ hk => hk.2) (.int .i64 t220)) (fun _ hk => hk.2) (.int .i64 t221)) (fun _ hk => hk.2) (.int .i64 t222)) (fun _ hk => hk.2) (.int .i64 t223)) (fun _ hk => hk.2) (.slice Ao15 t224.length co15)) (fun _ hk => trivial)))⟩; have n2_ : Aside0 (w16.heap[gb227]? = some (.cells #[.int .i64 t217, .int .i64 t218, .int .i64 t219, .int .i64 t220, .int .i64 t221, .int .i64 t222, .int .i64 t223, .slice Ao15 t224.length co15] 29 (0, 0))) := ⟨(by rw [hw]; exact (by (with_reducible repeat (first | refine blk_drewN ?_ _ | refine blk_drew ?_ | refine blk_alloc ?_ _)); refine blk_put (cs := #[.int .i64 t217, .int .i64 t218, .int .i64 t219, .int .i64 t220, .int .i64 t221, .int .i64 t222, .int .i64 t223, .slice none 0 0]) ?_ 7 _ rfl; (with_reducible repeat (first | refine blk_drewN ?_ _ | refine blk_drew ?_ | refine blk_alloc ?_ _)); refine blk_put (cs := #[.int .i64 t217, .int .i64 t218, .int .i64 t219, .int .i64 t220, .int .i64 t221, .int .i64 t222, .int .i64 0, .slice none 0 0]) ?_ 6 _ rfl; (with_reducible repeat (first | refine blk_drewN ?_ _ | refine blk_drew ?_ | refine blk_alloc ?_ _)); refine blk_put (cs := #[.int .i64 t217, .int .i64 t218, .int .i64 t219, .int .i64 t220, .int .i64 t221, .int .i64 0, .int .i64 0, .slice none 0 0]) ?_ 5 _ rfl; (with_reducible repeat (first | refine blk_drewN ?_ _ | refine blk_drew ?_ | refine blk_alloc ?_ _)); refine blk_put (cs := #[.int .i64 t217, .int .i64 t218, .int .i64 t219, .int .i64 t220, .int .i64 0, .int .i64 0, .int .i64 0, .slice none 0 0]) ?_ 4 _ rfl; (with_reducible repeat (first | refine blk_drewN ?_ _ | refine blk_drew ?_ | refine blk_alloc ?_ _)); refine blk_put (cs := #[.int .i64 t217, .int .i64 t218, .int .i64 t219, .int .i64 0, .int .i64 0, .int .i64 0, .int .i64 0, .slice none 0 0]) ?_ 3 _ rfl; (with_reducible repeat (first | refine blk_drewN ?_ _ | refine blk_drew ?_ | refine blk_alloc ?_ _)); refine blk_put (cs := #[.int .i64 t217, .int .i64 t218, .int .i64 0, .int .i64 0, .int .i64 0, .int .i64 0, .int .i64 0, .slice none 0 0]) ?_ 2 _ rfl; (with_reducible repeat (first | refine blk_drewN ?_ _ | refine blk_drew ?_ | refine blk_alloc ?_ _)); refine blk_put (cs := #[.int .i64 t217, .int .i64 0, .int .i64 0, .int .i64 0, .int .i64 0, .int .i64 0, .int .i64 0, .slice none 0 0]) ?_ 1 _ rfl; (with_reducible repeat (first | refine blk_drewN ?_ _ | refine blk_drew ?_ | refine blk_alloc ?_ _)); refine blk_put (cs := #[.int .i64 0, .int .i64 0, .int .i64 0, .int .i64 0, .int .i64 0, .int .i64 0, .int .i64 0, .slice none 0 0]) ?_ 0 _ rfl; (with_reducible repeat (first | refine blk_drewN ?_ _ | refine blk_drew ?_ | refine blk_alloc ?_ _)); exact BK227.out))⟩; have n3_ : Aside0 (Below w.heap.size w w16) := ⟨(by rw [hw]; exact (by repeat (first | (with_reducible first | exact HB.out | apply below_alloc | apply pw_below_drewN | apply below_drew1 | refine below_set ?_ GE227.out) | exact HB.out)))⟩; clear hw; clear HO_7; clear HO226; clear BK227; clear HB; have HO_7 := n0_; have HO226 := n1_; have BK227 := n2_; have HB := n3_; clear n0_ n1_ n2_ n3_; have hcz17_0 : w16.cell? ⟨gb227, 0, none⟩ = some (.int .i64 t217) := (blk_cell BK227.out 0).trans rfl; have hcz17_1 : w16.cell? ⟨gb227, 1, none⟩ = some (.int .i64 t218) := (blk_cell BK227.out 1).trans rfl; have hcz17_2 : w16.cell? ⟨gb227, 2, none⟩ = some (.int .i64 t219) := (blk_cell BK227.out 2).trans rfl; have hcz17_3 : w16.cell? ⟨gb227, 3, none⟩ = some (.int .i64 t220) := (blk_cell BK227.out 3).trans rfl; have hcz17_4 : w16.cell? ⟨gb227, 4, none⟩ = some (.int .i64 t221) := (blk_cell BK227.out 4).trans rfl; have hcz17_5 : w16.cell? ⟨gb227, 5, none⟩ = some (.int .i64 t222) := (blk_cell BK227.out 5).trans rfl; have hcz17_6 : w16.cell? ⟨gb227, 6, none⟩ = some (.int .i64 t223) := (blk_cell BK227.out 6).trans rfl; have hcz17_7 : w16.cell? ⟨gb227, 7, none⟩ = some (.slice Ao15 t224.length co15) := (blk_cell BK227.out 7).trans rfl; have hfz17_0 := blk_frozen BK227.out 0; have hfz17_1 := blk_frozen BK227.out 1; have hfz17_2 := blk_frozen BK227.out 2; have hfz17_3 := blk_frozen BK227.out 3; have hfz17_4 := blk_frozen BK227.out 4; have hfz17_5 := blk_frozen BK227.out 5; have hfz17_6 := blk_frozen BK227.out 6; have hfz17_7 := blk_frozen BK227.out 7) | ((with_reducible refine gate_builtin (b := .append) (xs := #[.tmp 53, .tmp 55]) rfl ?_); at_builtin; refine Kd.S_append k29 (w0 := w) w.heap.size rfl (.tmp 53) (.tmp 55) 22 29 (.agg #[(.int .i64 0), (.int .i64 0), (.int .i64 0), (.int .i64 0), (.int .i64 0), (.int .i64 0), (.int .i64 0), (.slice none 0 0)]) 80 rfl Try.underlying22 info29 rfl (by decide) (by omega) u7 x7_1 (⟨t217, t218, t219, t220, t221, t222, t223, t224⟩ : S29) [.int .i64 t217, .int .i64 t218, .int .i64 t219, .int .i64 t220, .int .i64 t221, .int .i64 t222, .int .i64 t223, .slice Ao15 t224.length co15] (fun k_ => k_ ≠ gb227) (fun k_ => some k_ = (.slice Ao15 t224.length co15 : Value).ownBlock) rfl rfl ?aP (fun k_ hk_ => ((Kd.R_mono (ok' := fun k_ => ((fun k_ => k_ ≠ gb227)) k_ ∧ some k_ ≠ (u7 : Value).ownBlock) (Kd.R_types (Kd.R_apart' (HO226.out) (Kd.S_typed HO_7.out) (by decide)) BK227.out (by decide)) (fun k_ hk => ⟨hk.2, hk.1.2⟩))).1 k_ hk_.symm) ?aF ?aO ?aB ?aS ?aL ?_; (case aP => exact k29_mkM _ _ _ (⟨t217, t218, t219, t220, t221, t222, t223, t224⟩ : S29) (Kd.R_mono (Kd.R_tight rfl (Kd.R_mono (ok' := fun k_ => ((fun k_ => k_ ≠ gb227)) k_ ∧ some k_ ≠ (u7 : Value).ownBlock) (Kd.R_types (Kd.R_apart' (HO226.out) (Kd.S_typed HO_7.out) (by decide)) BK227.out (by decide)) (fun k_ hk => ⟨hk.2, hk.1.2⟩))) (fun _ h_ => h_))); (case aB => exact (by repeat (first | (with_reducible first | exact HB.out | apply below_alloc | apply pw_below_drewN | apply below_drew1 | refine below_set ?_ GE227.out) | exact HB.out))); (case aF => exact (fun k_ hk => Kd.freshB (g := gb227) (o := .cells #[.int .i64 t217, .int .i64 t218, .int .i64 t219, .int .i64 t220, .int .i64 t221, .int .i64 t222, .int .i64 t223, .slice Ao15 t224.length co15] 29 (0, 0)) (by (with_reducible repeat (first | refine blk_drewN ?_ _ | refine blk_drew ?_ | refine blk_alloc ?_ _)); exact BK227.out) k_ hk)); (case aO => exact (by (with_reducible repeat (first | apply Kd.S_alloc | apply Kd.S_drewN | apply Kd.S_drew)); exact Kd.S_mono HO_7.out (fun k_ hk => ⟨hk.2, fun e_ => hk.1 e_⟩))); (case aS => exact (below_size (by repeat (first | (with_reducible first | exact HB.out | apply below_alloc | apply pw_below_drewN | apply below_drew1 | refine below_set ?_ GE227.out) | exact HB.out)))); (case aL => have := LMc11.out; omega); intro v229 w18 ho hb hg hat; rw [← Ny228.out] at ho; have n0_ := Aside0.mk (blk_grown (g := gb227) (o := .cells #[.int .i64 t217, .int .i64 t218, .int .i64 t219, .int .i64 t220, .int .i64 t221, .int .i64 t222, .int .i64 t223, .slice Ao15 t224.length co15] 29 (0, 0)) (by (with_reducible repeat (first | refine blk_drewN ?_ _ | refine blk_drew ?_ | refine blk_alloc ?_ _)); exact BK227.out) hg (Kd.S_away HO_7.out (fun _ hk => hk.2))); have n1_ := Aside0.mk (hb); have n2_ := Aside0.mk (ho); clear BK227; clear HB; clear HO_7; clear HO226; have BK227 := n0_; have HB := n1_; have HO230 := n2_; clear n0_ n1_ n2_; clear ho hb hg hat))
                    go_roundg k1
                    case measure => have := HK1.out; omega
                    case rel => exact ⟨(y228), (wrap64 (x8_1 + 1)), (by first | rfl | (simp; done) | (simp [*]; done)), H', ⟨by have := HK1.out; omega⟩, ⟨by (with_reducible repeat (first | apply Kd.S_alloc | apply Kd.S_drewN | apply Kd.S_drew)); exact Kd.S_mono HO230.out (fun _ hk => trivial)⟩, ⟨by repeat (first | (with_reducible first | exact HB.out | apply below_alloc | apply pw_below_drewN | apply below_drew1 | refine below_set ?_ GE227.out) | exact HB.out)⟩⟩
                  · rw [if_neg c11] at H
                    exact absurd H (by simp)
              · rw [if_neg c8] at H
                have c8b0 : (((rd_T29 l0 x8_1).f1) == a2) = false := beq_eq_false_iff_ne.mpr c8
                have c8b1 : (((rd_T29 l0 x8_1).f1) != a2) = true := bne_iff_ne.mpr c8
                replace H := Option.bind_eq_some_iff.mp H
                obtain ⟨⟨t232, t233, t234, t235, t236, t237, t238, t239⟩, A190, H⟩ := H
                replace H : (if x7_1.length < 1759218604441 then (sextonref25_Cut.l0 k1 l0 a1 a2 (x7_1 ++ [(⟨t232, t233, t234, t235, t236, t237, t238, t239⟩ : S29)]) (wrap64 (x8_1 + 1))) else (none)) = some r := H
                have A19 := Aside0.mk A190
                clear A190
                by_cases c20 : x7_1.length < 1759218604441
                · rw [if_pos c20] at H
                  have LMc20 := Aside0.mk c20
                  clear c20
                  obtain ⟨y243, hy243⟩ : ∃ y_ : List (S29), y_ = (x7_1 ++ [(⟨t232, t233, t234, t235, t236, t237, t238, t239⟩ : S29)]) := ⟨_, rfl⟩
                  replace H : (sextonref25_Cut.l0 k1 l0 a1 a2 y243 (wrap64 (x8_1 + 1))) = some r := by first | (rw [hy243]; with_reducible exact H) | (have H2_ := (Option.bind_some _ _).symm.trans H; rw [hy243]; with_reducible exact H2_) | (have H2_ := (Option.bind_some _ _).symm.trans H; with_reducible exact H2_) | with_reducible exact H | (rw [hy243]; exact H) | exact H
                  have Ny243 := Aside0.mk hy243
                  clear hy243
                  have H' := Aside0.mk H
                  clear H
                  have p214 : 0 ≤ (x8_1 : Int) := of_decide_eq_true (by first | (with_reducible assumption) | assumption)
                  have q214 : x8_1 < (l0.length : Int) := of_decide_eq_true (by first | (with_reducible assumption) | assumption)
                  obtain ⟨ad214, A214_7, c214_7, e214, hx214_0, hx214_1, hx214_2, hx214_3, hx214_4, hx214_5, hx214_6, hx214_7, hl214_7, hi214_7⟩ := at_T29 HR0.out x8_1 p214 q214
                  cases e214
                  replace hx214_0 := (HB.out.cell (World.block_lt_of_cell? w _ hx214_0)).trans hx214_0
                  replace hx214_1 := (HB.out.cell (World.block_lt_of_cell? w _ hx214_1)).trans hx214_1
                  replace hx214_2 := (HB.out.cell (World.block_lt_of_cell? w _ hx214_2)).trans hx214_2
                  replace hx214_3 := (HB.out.cell (World.block_lt_of_cell? w _ hx214_3)).trans hx214_3
                  replace hx214_4 := (HB.out.cell (World.block_lt_of_cell? w _ hx214_4)).trans hx214_4
                  replace hx214_5 := (HB.out.cell (World.block_lt_of_cell? w _ hx214_5)).trans hx214_5
                  replace hx214_6 := (HB.out.cell (World.block_lt_of_cell? w _ hx214_6)).trans hx214_6
                  replace hx214_7 := (HB.out.cell (World.block_lt_of_cell? w _ hx214_7)).trans hx214_7
                  have HR214_7 := Aside0.mk hi214_7
                  have HC214_7 := Aside0.mk hl214_7
                  clear hi214_7 hl214_7
                  replace p214 := eq_true p214
                  replace q214 := eq_true q214
                  have p215 : 0 ≤ (x8_1 : Int) := of_decide_eq_true (by first | (with_reducible assumption) | assumption)
                  have q215 : x8_1 < (l0.length : Int) := of_decide_eq_true (by first | (with_reducible assumption) | assumption)
                  obtain ⟨ad215, A215_7, c215_7, e215, hx215_0, hx215_1, hx215_2, hx215_3, hx215_4, hx215_5, hx215_6, hx215_7, hl215_7, hi215_7⟩ := at_T29 HR0.out x8_1 p215 q215
                  obtain rfl : ad214 = ad215 := (by injection e215)
                  replace hx215_0 := (HB.out.cell (World.block_lt_of_cell? w _ hx215_0)).trans hx215_0
                  replace hx215_1 := (HB.out.cell (World.block_lt_of_cell? w _ hx215_1)).trans hx215_1
                  replace hx215_2 := (HB.out.cell (World.block_lt_of_cell? w _ hx215_2)).trans hx215_2
                  replace hx215_3 := (HB.out.cell (World.block_lt_of_cell? w _ hx215_3)).trans hx215_3
                  replace hx215_4 := (HB.out.cell (World.block_lt_of_cell? w _ hx215_4)).trans hx215_4
                  replace hx215_5 := (HB.out.cell (World.block_lt_of_cell? w _ hx215_5)).trans hx215_5
                  replace hx215_6 := (HB.out.cell (World.block_lt_of_cell? w _ hx215_6)).trans hx215_6
                  replace hx215_7 := (HB.out.cell (World.block_lt_of_cell? w _ hx215_7)).trans hx215_7
                  have HR215_7 := Aside0.mk hi215_7
                  have HC215_7 := Aside0.mk hl215_7
                  clear hi215_7 hl215_7
                  replace p215 := eq_true p215
                  replace q215 := eq_true q215
                  have ea_ := Option.some.inj (hx214_7.symm.trans hx215_7)
                  injection ea_ with ea_ en_ ec_
                  subst ea_
                  subst ec_
                  clear en_
                  have p231 : 0 ≤ (x8_1 : Int) := of_decide_eq_true (by first | (with_reducible assumption) | assumption)
                  have q231 : x8_1 < (l0.length : Int) := of_decide_eq_true (by first | (with_reducible assumption) | assumption)
                  obtain ⟨ad231, A231_7, c231_7, e231, hx231_0, hx231_1, hx231_2, hx231_3, hx231_4, hx231_5, hx231_6, hx231_7, hl231_7, hi231_7⟩ := at_T29 HR0.out x8_1 p231 q231
                  obtain rfl : ad214 = ad231 := (by injection e231)
                  replace hx231_0 := (HB.out.cell (World.block_lt_of_cell? w _ hx231_0)).trans hx231_0
                  replace hx231_1 := (HB.out.cell (World.block_lt_of_cell? w _ hx231_1)).trans hx231_1
                  replace hx231_2 := (HB.out.cell (World.block_lt_of_cell? w _ hx231_2)).trans hx231_2
                  replace hx231_3 := (HB.out.cell (World.block_lt_of_cell? w _ hx231_3)).trans hx231_3
                  replace hx231_4 := (HB.out.cell (World.block_lt_of_cell? w _ hx231_4)).trans hx231_4
                  replace hx231_5 := (HB.out.cell (World.block_lt_of_cell? w _ hx231_5)).trans hx231_5
                  replace hx231_6 := (HB.out.cell (World.block_lt_of_cell? w _ hx231_6)).trans hx231_6
                  replace hx231_7 := (HB.out.cell (World.block_lt_of_cell? w _ hx231_7)).trans hx231_7
                  have HR231_7 := Aside0.mk hi231_7
                  have HC231_7 := Aside0.mk hl231_7
                  clear hi231_7 hl231_7
                  replace p231 := eq_true p231
                  replace q231 := eq_true q231
                  have ea_ := Option.some.inj (hx214_7.symm.trans hx231_7)
                  injection ea_ with ea_ en_ ec_
                  subst ea_
                  subst ec_
                  clear en_
                  go_wp2_with (first | ((with_reducible refine gate_callee (f := 49) rfl ?_); refine goesL_ (some 52) rfl rfl Try.func49 (by kernel_rfl) rfl #[.agg #[.int .i64 ((rd_T29 l0 x8_1).f0), .int .i64 ((rd_T29 l0 x8_1).f1), .int .i64 ((rd_T29 l0 x8_1).f2), .int .i64 ((rd_T29 l0 x8_1).f3), .int .i64 ((rd_T29 l0 x8_1).f4), .int .i64 ((rd_T29 l0 x8_1).f5), .int .i64 ((rd_T29 l0 x8_1).f6), .slice A214_7 ((rd_T29 l0 x8_1).f7).length c214_7]] rfl (by (try simp only [List.map_toArray, List.map_cons, List.map_nil]); first | done | rfl | (simp only [List.length_drop, List.length_take]; rfl)) ?_; (with_reducible refine (sextonref25_own.calls ((rd_T29 l0 x8_1).f0) ((rd_T29 l0 x8_1).f1) ((rd_T29 l0 x8_1).f2) ((rd_T29 l0 x8_1).f3) ((rd_T29 l0 x8_1).f4) ((rd_T29 l0 x8_1).f5) ((rd_T29 l0 x8_1).f6) _ _ ((rd_T29 l0 x8_1).f7) t232 t233 t234 t235 t236 t237 t238 t239 _ ?side1 ?side2 A19.out).mono ?_); (case side1 => repeat (first | exact (Kd.C_below HR231_7.out HB.out) | (with_reducible refine Kd.C_alloc ?_ _) | (with_reducible refine Kd.C_drewN ?_ _) | (with_reducible refine Kd.C_drew ?_))); (case side2 => exact HC231_7.out); rintro e w21 ⟨v240, rfl, ho0, hb⟩; refine ⟨_, rfl, ?_⟩; have n0_ := Aside0.mk (Kd.S_elder' (by (with_reducible repeat (first | apply Kd.S_alloc | apply Kd.S_drewN | apply Kd.S_drew)); exact HO_7.out) (Kd.R_base ho0) hb); have n1_ := Aside0.mk (Kd.R_lower ho0 (below_size (by repeat (first | (with_reducible first | exact HB.out | apply below_alloc | apply pw_below_drewN | apply below_drew1) | exact HB.out)))); have n2_ := Aside0.mk (below_step (by repeat (first | (with_reducible first | exact HB.out | apply below_alloc | apply pw_below_drewN | apply below_drew1) | exact HB.out)) hb); clear HO_7; clear HB; have HO_7 := n0_; have HO241 := n1_; have HB := n2_; clear n0_ n1_ n2_; (try clear hb); (try clear hb2); (try clear hk); (try clear hi); (try clear ho0)) | ((with_reducible refine gate_dst (N := 11) rfl ?_); refine box_event ?hg (N := 11) ?hd (cs := #[.int .i64 0, .int .i64 0, .int .i64 0, .int .i64 0, .int .i64 0, .int .i64 0, .int .i64 0, .slice none 0 0]) (t := 29) ?hr ?_; (case hd => rfl); (case hg => rfl); (case hr => first | (go_simp; done) | (go_simp; rfl)); intro gb242 hg w22 hbox hb; have n0_ := Aside0.mk (Kd.S_below (Kd.S_elderB (by (with_reducible repeat (first | apply Kd.S_alloc | apply Kd.S_drewN | apply Kd.S_drew)); exact HO_7.out) gb242 (Nat.le_of_eq hg.symm)) hb); have n1_ := Aside0.mk (Kd.R_below (by (with_reducible repeat (first | apply Kd.R_alloc | apply Kd.R_drewN | apply Kd.R_drew)); exact HO241.out) hb); have n2_ := Aside0.mk (below_step (by repeat (first | (with_reducible first | exact HB.out | apply below_alloc | apply pw_below_drewN | apply below_drew1) | exact HB.out)) hb); have n3_ := Aside0.mk (hbox); have n4_ := Aside0.mk ((by rw [hg]; exact (below_size (by repeat (first | (with_reducible first | exact HB.out | apply below_alloc | apply pw_below_drewN | apply below_drew1) | exact HB.out))) : w.heap.size ≤ gb242)); have n5_ := Aside0.mk ((by rw [hg]; exact (below_size (by repeat (first | (with_reducible first | exact HB.out | apply below_alloc | apply pw_below_drewN | apply below_drew1) | exact HB.out))) : w.heap.size ≤ gb242)); clear HO_7; clear HO241; clear HB; have HO_7 := n0_; have HO241 := n1_; have HB := n2_; have BK242 := n3_; have GW242 := n4_; have GE242 := n5_; clear n0_ n1_ n2_ n3_ n4_ n5_; clear hb hbox hg; have hcz23_0 : w22.cell? ⟨gb242, 0, none⟩ = some (.int .i64 0) := (blk_cell BK242.out 0).trans rfl; have hcz23_1 : w22.cell? ⟨gb242, 1, none⟩ = some (.int .i64 0) := (blk_cell BK242.out 1).trans rfl; have hcz23_2 : w22.cell? ⟨gb242, 2, none⟩ = some (.int .i64 0) := (blk_cell BK242.out 2).trans rfl; have hcz23_3 : w22.cell? ⟨gb242, 3, none⟩ = some (.int .i64 0) := (blk_cell BK242.out 3).trans rfl; have hcz23_4 : w22.cell? ⟨gb242, 4, none⟩ = some (.int .i64 0) := (blk_cell BK242.out 4).trans rfl; have hcz23_5 : w22.cell? ⟨gb242, 5, none⟩ = some (.int .i64 0) := (blk_cell BK242.out 5).trans rfl; have hcz23_6 : w22.cell? ⟨gb242, 6, none⟩ = some (.int .i64 0) := (blk_cell BK242.out 6).trans rfl; have hcz23_7 : w22.cell? ⟨gb242, 7, none⟩ = some (.slice none 0 0) := (blk_cell BK242.out 7).trans rfl; have hfz23_0 := blk_frozen BK242.out 0; have hfz23_1 := blk_frozen BK242.out 1; have hfz23_2 := blk_frozen BK242.out 2; have hfz23_3 := blk_frozen BK242.out 3; have hfz23_4 := blk_frozen BK242.out 4; have hfz23_5 := blk_frozen BK242.out 5; have hfz23_6 := blk_frozen BK242.out 6; have hfz23_7 := blk_frozen BK242.out 7; obtain ⟨Ao24, co24, eo24⟩ := Kd.R_slice HO241.out; subst eo24) | ((with_reducible refine gate_store (t := 29) (p := 11) rfl ?_); refine store_event (t := 29) (p := 11) (v := ?vo_w25) (w1 := ((((((((w22.setCell ⟨gb242, 0, none⟩ (.int .i64 t232)).setCell ⟨gb242, 1, none⟩ (.int .i64 t233)).setCell ⟨gb242, 2, none⟩ (.int .i64 t234)).setCell ⟨gb242, 3, none⟩ (.int .i64 t235)).setCell ⟨gb242, 4, none⟩ (.int .i64 t236)).setCell ⟨gb242, 5, none⟩ (.int .i64 t237)).setCell ⟨gb242, 6, none⟩ (.int .i64 t238)).setCell ⟨gb242, 7, none⟩ (.slice Ao24 t239.length co24))) ?hg ?ho ?hn ?hr ?_; (case ho => rfl); (case hg => rfl); (case hn => rfl); (case hr => first | (go_simp; done) | (go_simp; rfl)); intro w25 hw; have n0_ : Aside0 (Kd.S k29 29 w25 w.heap.size (fun k_ => some k_ ≠ (.slice Ao24 t239.length co24 : Value).ownBlock ∧ k_ ≠ gb242) u7 x7_1) := ⟨(by rw [hw]; exact (by (with_reducible repeat (first | apply Kd.S_alloc | apply Kd.S_drewN | apply Kd.S_drew)); exact Kd.S_mono (Kd.S_far (p := ⟨gb242, 7, none⟩) (Kd.S_far (p := ⟨gb242, 6, none⟩) (Kd.S_far (p := ⟨gb242, 5, none⟩) (Kd.S_far (p := ⟨gb242, 4, none⟩) (Kd.S_far (p := ⟨gb242, 3, none⟩) (Kd.S_far (p := ⟨gb242, 2, none⟩) (Kd.S_far (p := ⟨gb242, 1, none⟩) (Kd.S_far (p := ⟨gb242, 0, none⟩) (Kd.S_mono HO_7.out (fun k_ hk => (⟨hk, hk.2⟩ : _ ∧ k_ ≠ gb242))) (fun _ hk => hk.2) (.int .i64 t232)) (fun _ hk => hk.2) (.int .i64 t233)) (fun _ hk => hk.2) (.int .i64 t234)) (fun _ hk => hk.2) (.int .i64 t235)) (fun _ hk => hk.2) (.int .i64 t236)) (fun _ hk => hk.2) (.int .i64 t237)) (fun _ hk => hk.2) (.int .i64 t238)) (fun _ hk => hk.2) (.slice Ao24 t239.length co24)) (fun _ hk => ⟨hk.1.1.2, hk.1.2⟩)))⟩; have n1_ : Aside0 (Kd.R Kd.string 9 w25 w.heap.size (fun _ => True) (.slice Ao24 t239.length co24) t239) := ⟨(by rw [hw]; exact (by (with_reducible repeat (first | apply Kd.R_alloc | apply Kd.R_drewN | apply Kd.R_drew)); exact Kd.R_mono (Kd.R_far (p := ⟨gb242, 7, none⟩) (Kd.R_far (p := ⟨gb242, 6, none⟩) (Kd.R_far (p := ⟨gb242, 5, none⟩) (Kd.R_far (p := ⟨gb242, 4, none⟩) (Kd.R_far (p := ⟨gb242, 3, none⟩) (Kd.R_far (p := ⟨gb242, 2, none⟩) (Kd.R_far (p := ⟨gb242, 1, none⟩) (Kd.R_far (p := ⟨gb242, 0, none⟩) (Kd.R_types HO241.out BK242.out (by decide)) (fun _ hk => hk.2) (.int .i64 t232)) (fun _ hk => hk.2) (.int .i64 t233)) (fun _ hk => hk.2) (.int .i64 t234)) (fun _ hk => hk.2) (.int .i64 t235)) (fun _ hk => hk.2) (.int .i64 t236)) (fun _ hk => hk.2) (.int .i64 t237)) (fun _ hk => hk.2) (.int .i64 t238)) (fun _ hk => hk.2) (.slice Ao24 t239.length co24)) (fun _ hk => trivial)))⟩; have n2_ : Aside0 (w25.heap[gb242]? = some (.cells #[.int .i64 t232, .int .i64 t233, .int .i64 t234, .int .i64 t235, .int .i64 t236, .int .i64 t237, .int .i64 t238, .slice Ao24 t239.length co24] 29 (0, 0))) := ⟨(by rw [hw]; exact (by (with_reducible repeat (first | refine blk_drewN ?_ _ | refine blk_drew ?_ | refine blk_alloc ?_ _)); refine blk_put (cs := #[.int .i64 t232, .int .i64 t233, .int .i64 t234, .int .i64 t235, .int .i64 t236, .int .i64 t237, .int .i64 t238, .slice none 0 0]) ?_ 7 _ rfl; (with_reducible repeat (first | refine blk_drewN ?_ _ | refine blk_drew ?_ | refine blk_alloc ?_ _)); refine blk_put (cs := #[.int .i64 t232, .int .i64 t233, .int .i64 t234, .int .i64 t235, .int .i64 t236, .int .i64 t237, .int .i64 0, .slice none 0 0]) ?_ 6 _ rfl; (with_reducible repeat (first | refine blk_drewN ?_ _ | refine blk_drew ?_ | refine blk_alloc ?_ _)); refine blk_put (cs := #[.int .i64 t232, .int .i64 t233, .int .i64 t234, .int .i64 t235, .int .i64 t236, .int .i64 0, .int .i64 0, .slice none 0 0]) ?_ 5 _ rfl; (with_reducible repeat (first | refine blk_drewN ?_ _ | refine blk_drew ?_ | refine blk_alloc ?_ _)); refine blk_put (cs := #[.int .i64 t232, .int .i64 t233, .int .i64 t234, .int .i64 t235, .int .i64 0, .int .i64 0, .int .i64 0, .slice none 0 0]) ?_ 4 _ rfl; (with_reducible repeat (first | refine blk_drewN ?_ _ | refine blk_drew ?_ | refine blk_alloc ?_ _)); refine blk_put (cs := #[.int .i64 t232, .int .i64 t233, .int .i64 t234, .int .i64 0, .int .i64 0, .int .i64 0, .int .i64 0, .slice none 0 0]) ?_ 3 _ rfl; (with_reducible repeat (first | refine blk_drewN ?_ _ | refine blk_drew ?_ | refine blk_alloc ?_ _)); refine blk_put (cs := #[.int .i64 t232, .int .i64 t233, .int .i64 0, .int .i64 0, .int .i64 0, .int .i64 0, .int .i64 0, .slice none 0 0]) ?_ 2 _ rfl; (with_reducible repeat (first | refine blk_drewN ?_ _ | refine blk_drew ?_ | refine blk_alloc ?_ _)); refine blk_put (cs := #[.int .i64 t232, .int .i64 0, .int .i64 0, .int .i64 0, .int .i64 0, .int .i64 0, .int .i64 0, .slice none 0 0]) ?_ 1 _ rfl; (with_reducible repeat (first | refine blk_drewN ?_ _ | refine blk_drew ?_ | refine blk_alloc ?_ _)); refine blk_put (cs := #[.int .i64 0, .int .i64 0, .int .i64 0, .int .i64 0, .int .i64 0, .int .i64 0, .int .i64 0, .slice none 0 0]) ?_ 0 _ rfl; (with_reducible repeat (first | refine blk_drewN ?_ _ | refine blk_drew ?_ | refine blk_alloc ?_ _)); exact BK242.out))⟩; have n3_ : Aside0 (Below w.heap.size w w25) := ⟨(by rw [hw]; exact (by repeat (first | (with_reducible first | exact HB.out | apply below_alloc | apply pw_below_drewN | apply below_drew1 | refine below_set ?_ GE242.out) | exact HB.out)))⟩; clear hw; clear HO_7; clear HO241; clear BK242; clear HB; have HO_7 := n0_; have HO241 := n1_; have BK242 := n2_; have HB := n3_; clear n0_ n1_ n2_ n3_; have hcz26_0 : w25.cell? ⟨gb242, 0, none⟩ = some (.int .i64 t232) := (blk_cell BK242.out 0).trans rfl; have hcz26_1 : w25.cell? ⟨gb242, 1, none⟩ = some (.int .i64 t233) := (blk_cell BK242.out 1).trans rfl; have hcz26_2 : w25.cell? ⟨gb242, 2, none⟩ = some (.int .i64 t234) := (blk_cell BK242.out 2).trans rfl; have hcz26_3 : w25.cell? ⟨gb242, 3, none⟩ = some (.int .i64 t235) := (blk_cell BK242.out 3).trans rfl; have hcz26_4 : w25.cell? ⟨gb242, 4, none⟩ = some (.int .i64 t236) := (blk_cell BK242.out 4).trans rfl; have hcz26_5 : w25.cell? ⟨gb242, 5, none⟩ = some (.int .i64 t237) := (blk_cell BK242.out 5).trans rfl; have hcz26_6 : w25.cell? ⟨gb242, 6, none⟩ = some (.int .i64 t238) := (blk_cell BK242.out 6).trans rfl; have hcz26_7 : w25.cell? ⟨gb242, 7, none⟩ = some (.slice Ao24 t239.length co24) := (blk_cell BK242.out 7).trans rfl; have hfz26_0 := blk_frozen BK242.out 0; have hfz26_1 := blk_frozen BK242.out 1; have hfz26_2 := blk_frozen BK242.out 2; have hfz26_3 := blk_frozen BK242.out 3; have hfz26_4 := blk_frozen BK242.out 4; have hfz26_5 := blk_frozen BK242.out 5; have hfz26_6 := blk_frozen BK242.out 6; have hfz26_7 := blk_frozen BK242.out 7) | ((with_reducible refine gate_builtin (b := .append) (xs := #[.tmp 53, .tmp 55]) rfl ?_); at_builtin; refine Kd.S_append k29 (w0 := w) w.heap.size rfl (.tmp 53) (.tmp 55) 22 29 (.agg #[(.int .i64 0), (.int .i64 0), (.int .i64 0), (.int .i64 0), (.int .i64 0), (.int .i64 0), (.int .i64 0), (.slice none 0 0)]) 80 rfl Try.underlying22 info29 rfl (by decide) (by omega) u7 x7_1 (⟨t232, t233, t234, t235, t236, t237, t238, t239⟩ : S29) [.int .i64 t232, .int .i64 t233, .int .i64 t234, .int .i64 t235, .int .i64 t236, .int .i64 t237, .int .i64 t238, .slice Ao24 t239.length co24] (fun k_ => k_ ≠ gb242) (fun k_ => some k_ = (.slice Ao24 t239.length co24 : Value).ownBlock) rfl rfl ?aP (fun k_ hk_ => ((Kd.R_mono (ok' := fun k_ => ((fun k_ => k_ ≠ gb242)) k_ ∧ some k_ ≠ (u7 : Value).ownBlock) (Kd.R_types (Kd.R_apart' (HO241.out) (Kd.S_typed HO_7.out) (by decide)) BK242.out (by decide)) (fun k_ hk => ⟨hk.2, hk.1.2⟩))).1 k_ hk_.symm) ?aF ?aO ?aB ?aS ?aL ?_; (case aP => exact k29_mkM _ _ _ (⟨t232, t233, t234, t235, t236, t237, t238, t239⟩ : S29) (Kd.R_mono (Kd.R_tight rfl (Kd.R_mono (ok' := fun k_ => ((fun k_ => k_ ≠ gb242)) k_ ∧ some k_ ≠ (u7 : Value).ownBlock) (Kd.R_types (Kd.R_apart' (HO241.out) (Kd.S_typed HO_7.out) (by decide)) BK242.out (by decide)) (fun k_ hk => ⟨hk.2, hk.1.2⟩))) (fun _ h_ => h_))); (case aB => exact (by repeat (first | (with_reducible first | exact HB.out | apply below_alloc | apply pw_below_drewN | apply below_drew1 | refine below_set ?_ GE242.out) | exact HB.out))); (case aF => exact (fun k_ hk => Kd.freshB (g := gb242) (o := .cells #[.int .i64 t232, .int .i64 t233, .int .i64 t234, .int .i64 t235, .int .i64 t236, .int .i64 t237, .int .i64 t238, .slice Ao24 t239.length co24] 29 (0, 0)) (by (with_reducible repeat (first | refine blk_drewN ?_ _ | refine blk_drew ?_ | refine blk_alloc ?_ _)); exact BK242.out) k_ hk)); (case aO => exact (by (with_reducible repeat (first | apply Kd.S_alloc | apply Kd.S_drewN | apply Kd.S_drew)); exact Kd.S_mono HO_7.out (fun k_ hk => ⟨hk.2, fun e_ => hk.1 e_⟩))); (case aS => exact (below_size (by repeat (first | (with_reducible first | exact HB.out | apply below_alloc | apply pw_below_drewN | apply below_drew1 | refine below_set ?_ GE242.out) | exact HB.out)))); (case aL => have := LMc20.out; omega); intro v244 w27 ho hb hg hat; rw [← Ny243.out] at ho; have n0_ := Aside0.mk (blk_grown (g := gb242) (o := .cells #[.int .i64 t232, .int .i64 t233, .int .i64 t234, .int .i64 t235, .int .i64 t236, .int .i64 t237, .int .i64 t238, .slice Ao24 t239.length co24] 29 (0, 0)) (by (with_reducible repeat (first | refine blk_drewN ?_ _ | refine blk_drew ?_ | refine blk_alloc ?_ _)); exact BK242.out) hg (Kd.S_away HO_7.out (fun _ hk => hk.2))); have n1_ := Aside0.mk (hb); have n2_ := Aside0.mk (ho); clear BK242; clear HB; clear HO_7; clear HO241; have BK242 := n0_; have HB := n1_; have HO245 := n2_; clear n0_ n1_ n2_; clear ho hb hg hat))
                  go_roundg k1
                  case measure => have := HK1.out; omega
                  case rel => exact ⟨(y243), (wrap64 (x8_1 + 1)), (by first | rfl | (simp; done) | (simp [*]; done)), H', ⟨by have := HK1.out; omega⟩, ⟨by (with_reducible repeat (first | apply Kd.S_alloc | apply Kd.S_drewN | apply Kd.S_drew)); exact Kd.S_mono HO245.out (fun _ hk => trivial)⟩, ⟨by repeat (first | (with_reducible first | exact HB.out | apply below_alloc | apply pw_below_drewN | apply below_drew1 | refine below_set ?_ GE242.out) | exact HB.out)⟩⟩
                · rw [if_neg c20] at H
                  exact absurd H (by simp)
          · rw [if_neg c6] at H
            have c6b0 : (((rd_T29 l0 x8_1).f1) == a1) = false := beq_eq_false_iff_ne.mpr c6
            have c6b1 : (((rd_T29 l0 x8_1).f1) != a1) = true := bne_iff_ne.mpr c6
            by_cases c28 : ((rd_T29 l0 x8_1).f1) = a2
            · rw [if_pos c28] at H
              have c28b0 : (((rd_T29 l0 x8_1).f1) == a2) = true := beq_iff_eq.mpr c28
              have c28b1 : (((rd_T29 l0 x8_1).f1) != a2) = false := bne_eq_false_iff_eq.mpr c28
              clear c28
              by_cases c29 : (((rd_T29 l0 x8_1).f2) = a1)
              · rw [if_pos c29] at H
                have c29b0 : (((rd_T29 l0 x8_1).f2) == a1) = true := beq_iff_eq.mpr c29
                have c29b1 : (((rd_T29 l0 x8_1).f2) != a1) = false := bne_eq_false_iff_eq.mpr c29
                clear c29
                have H' := Aside0.mk H
                clear H
                have p214 : 0 ≤ (x8_1 : Int) := of_decide_eq_true (by first | (with_reducible assumption) | assumption)
                have q214 : x8_1 < (l0.length : Int) := of_decide_eq_true (by first | (with_reducible assumption) | assumption)
                obtain ⟨ad214, A214_7, c214_7, e214, hx214_0, hx214_1, hx214_2, hx214_3, hx214_4, hx214_5, hx214_6, hx214_7, hl214_7, hi214_7⟩ := at_T29 HR0.out x8_1 p214 q214
                cases e214
                replace hx214_0 := (HB.out.cell (World.block_lt_of_cell? w _ hx214_0)).trans hx214_0
                replace hx214_1 := (HB.out.cell (World.block_lt_of_cell? w _ hx214_1)).trans hx214_1
                replace hx214_2 := (HB.out.cell (World.block_lt_of_cell? w _ hx214_2)).trans hx214_2
                replace hx214_3 := (HB.out.cell (World.block_lt_of_cell? w _ hx214_3)).trans hx214_3
                replace hx214_4 := (HB.out.cell (World.block_lt_of_cell? w _ hx214_4)).trans hx214_4
                replace hx214_5 := (HB.out.cell (World.block_lt_of_cell? w _ hx214_5)).trans hx214_5
                replace hx214_6 := (HB.out.cell (World.block_lt_of_cell? w _ hx214_6)).trans hx214_6
                replace hx214_7 := (HB.out.cell (World.block_lt_of_cell? w _ hx214_7)).trans hx214_7
                have HR214_7 := Aside0.mk hi214_7
                have HC214_7 := Aside0.mk hl214_7
                clear hi214_7 hl214_7
                replace p214 := eq_true p214
                replace q214 := eq_true q214
                have p215 : 0 ≤ (x8_1 : Int) := of_decide_eq_true (by first | (with_reducible assumption) | assumption)
                have q215 : x8_1 < (l0.length : Int) := of_decide_eq_true (by first | (with_reducible assumption) | assumption)
                obtain ⟨ad215, A215_7, c215_7, e215, hx215_0, hx215_1, hx215_2, hx215_3, hx215_4, hx215_5, hx215_6, hx215_7, hl215_7, hi215_7⟩ := at_T29 HR0.out x8_1 p215 q215
                obtain rfl : ad214 = ad215 := (by injection e215)
                replace hx215_0 := (HB.out.cell (World.block_lt_of_cell? w _ hx215_0)).trans hx215_0
                replace hx215_1 := (HB.out.cell (World.block_lt_of_cell? w _ hx215_1)).trans hx215_1
                replace hx215_2 := (HB.out.cell (World.block_lt_of_cell? w _ hx215_2)).trans hx215_2
                replace hx215_3 := (HB.out.cell (World.block_lt_of_cell? w _ hx215_3)).trans hx215_3
                replace hx215_4 := (HB.out.cell (World.block_lt_of_cell? w _ hx215_4)).trans hx215_4
                replace hx215_5 := (HB.out.cell (World.block_lt_of_cell? w _ hx215_5)).trans hx215_5
                replace hx215_6 := (HB.out.cell (World.block_lt_of_cell? w _ hx215_6)).trans hx215_6
                replace hx215_7 := (HB.out.cell (World.block_lt_of_cell? w _ hx215_7)).trans hx215_7
                have HR215_7 := Aside0.mk hi215_7
                have HC215_7 := Aside0.mk hl215_7
                clear hi215_7 hl215_7
                replace p215 := eq_true p215
                replace q215 := eq_true q215
                have ea_ := Option.some.inj (hx214_7.symm.trans hx215_7)
                injection ea_ with ea_ en_ ec_
                subst ea_
                subst ec_
                clear en_
                go_wp2
                go_roundg k1
                case measure => have := HK1.out; omega
                case rel => exact ⟨(x7_1), (wrap64 (x8_1 + 1)), (by first | rfl | (simp; done) | (simp [*]; done)), H', ⟨by have := HK1.out; omega⟩, ⟨by (with_reducible repeat (first | apply Kd.S_alloc | apply Kd.S_drewN | apply Kd.S_drew)); exact HO_7.out⟩, ⟨by repeat (first | (with_reducible first | exact HB.out | apply below_alloc | apply pw_below_drewN | apply below_drew1) | exact HB.out)⟩⟩
              · rw [if_neg c29] at H
                have c29b0 : (((rd_T29 l0 x8_1).f2) == a1) = false := beq_eq_false_iff_ne.mpr c29
                have c29b1 : (((rd_T29 l0 x8_1).f2) != a1) = true := bne_iff_ne.mpr c29
                replace H := Option.bind_eq_some_iff.mp H
                obtain ⟨⟨t247, t248, t249, t250, t251, t252, t253, t254⟩, A300, H⟩ := H
                replace H : (if x7_1.length < 1759218604441 then (sextonref25_Cut.l0 k1 l0 a1 a2 (x7_1 ++ [(⟨t247, t248, t249, t250, t251, t252, t253, t254⟩ : S29)]) (wrap64 (x8_1 + 1))) else (none)) = some r := H
                have A30 := Aside0.mk A300
                clear A300
                by_cases c31 : x7_1.length < 1759218604441
                · rw [if_pos c31] at H
                  have LMc31 := Aside0.mk c31
                  clear c31
                  obtain ⟨y258, hy258⟩ : ∃ y_ : List (S29), y_ = (x7_1 ++ [(⟨t247, t248, t249, t250, t251, t252, t253, t254⟩ : S29)]) := ⟨_, rfl⟩
                  replace H : (sextonref25_Cut.l0 k1 l0 a1 a2 y258 (wrap64 (x8_1 + 1))) = some r := by first | (rw [hy258]; with_reducible exact H) | (have H2_ := (Option.bind_some _ _).symm.trans H; rw [hy258]; with_reducible exact H2_) | (have H2_ := (Option.bind_some _ _).symm.trans H; with_reducible exact H2_) | with_reducible exact H | (rw [hy258]; exact H) | exact H
                  have Ny258 := Aside0.mk hy258
                  clear hy258
                  have H' := Aside0.mk H
                  clear H
                  have p214 : 0 ≤ (x8_1 : Int) := of_decide_eq_true (by first | (with_reducible assumption) | assumption)
                  have q214 : x8_1 < (l0.length : Int) := of_decide_eq_true (by first | (with_reducible assumption) | assumption)
                  obtain ⟨ad214, A214_7, c214_7, e214, hx214_0, hx214_1, hx214_2, hx214_3, hx214_4, hx214_5, hx214_6, hx214_7, hl214_7, hi214_7⟩ := at_T29 HR0.out x8_1 p214 q214
                  cases e214
                  replace hx214_0 := (HB.out.cell (World.block_lt_of_cell? w _ hx214_0)).trans hx214_0
                  replace hx214_1 := (HB.out.cell (World.block_lt_of_cell? w _ hx214_1)).trans hx214_1
                  replace hx214_2 := (HB.out.cell (World.block_lt_of_cell? w _ hx214_2)).trans hx214_2
                  replace hx214_3 := (HB.out.cell (World.block_lt_of_cell? w _ hx214_3)).trans hx214_3
                  replace hx214_4 := (HB.out.cell (World.block_lt_of_cell? w _ hx214_4)).trans hx214_4
                  replace hx214_5 := (HB.out.cell (World.block_lt_of_cell? w _ hx214_5)).trans hx214_5
                  replace hx214_6 := (HB.out.cell (World.block_lt_of_cell? w _ hx214_6)).trans hx214_6
                  replace hx214_7 := (HB.out.cell (World.block_lt_of_cell? w _ hx214_7)).trans hx214_7
                  have HR214_7 := Aside0.mk hi214_7
                  have HC214_7 := Aside0.mk hl214_7
                  clear hi214_7 hl214_7
                  replace p214 := eq_true p214
                  replace q214 := eq_true q214
                  have p215 : 0 ≤ (x8_1 : Int) := of_decide_eq_true (by first | (with_reducible assumption) | assumption)
                  have q215 : x8_1 < (l0.length : Int) := of_decide_eq_true (by first | (with_reducible assumption) | assumption)
                  obtain ⟨ad215, A215_7, c215_7, e215, hx215_0, hx215_1, hx215_2, hx215_3, hx215_4, hx215_5, hx215_6, hx215_7, hl215_7, hi215_7⟩ := at_T29 HR0.out x8_1 p215 q215
                  obtain rfl : ad214 = ad215 := (by injection e215)
                  replace hx215_0 := (HB.out.cell (World.block_lt_of_cell? w _ hx215_0)).trans hx215_0
                  replace hx215_1 := (HB.out.cell (World.block_lt_of_cell? w _ hx215_1)).trans hx215_1
                  replace hx215_2 := (HB.out.cell (World.block_lt_of_cell? w _ hx215_2)).trans hx215_2
                  replace hx215_3 := (HB.out.cell (World.block_lt_of_cell? w _ hx215_3)).trans hx215_3
                  replace hx215_4 := (HB.out.cell (World.block_lt_of_cell? w _ hx215_4)).trans hx215_4
                  replace hx215_5 := (HB.out.cell (World.block_lt_of_cell? w _ hx215_5)).trans hx215_5
                  replace hx215_6 := (HB.out.cell (World.block_lt_of_cell? w _ hx215_6)).trans hx215_6
                  replace hx215_7 := (HB.out.cell (World.block_lt_of_cell? w _ hx215_7)).trans hx215_7
                  have HR215_7 := Aside0.mk hi215_7
                  have HC215_7 := Aside0.mk hl215_7
                  clear hi215_7 hl215_7
                  replace p215 := eq_true p215
                  replace q215 := eq_true q215
                  have ea_ := Option.some.inj (hx214_7.symm.trans hx215_7)
                  injection ea_ with ea_ en_ ec_
                  subst ea_
                  subst ec_
                  clear en_
                  have p246 : 0 ≤ (x8_1 : Int) := of_decide_eq_true (by first | (with_reducible assumption) | assumption)
                  have q246 : x8_1 < (l0.length : Int) := of_decide_eq_true (by first | (with_reducible assumption) | assumption)
                  obtain ⟨ad246, A246_7, c246_7, e246, hx246_0, hx246_1, hx246_2, hx246_3, hx246_4, hx246_5, hx246_6, hx246_7, hl246_7, hi246_7⟩ := at_T29 HR0.out x8_1 p246 q246
                  obtain rfl : ad214 = ad246 := (by injection e246)
                  replace hx246_0 := (HB.out.cell (World.block_lt_of_cell? w _ hx246_0)).trans hx246_0
                  replace hx246_1 := (HB.out.cell (World.block_lt_of_cell? w _ hx246_1)).trans hx246_1
                  replace hx246_2 := (HB.out.cell (World.block_lt_of_cell? w _ hx246_2)).trans hx246_2
                  replace hx246_3 := (HB.out.cell (World.block_lt_of_cell? w _ hx246_3)).trans hx246_3
                  replace hx246_4 := (HB.out.cell (World.block_lt_of_cell? w _ hx246_4)).trans hx246_4
                  replace hx246_5 := (HB.out.cell (World.block_lt_of_cell? w _ hx246_5)).trans hx246_5
                  replace hx246_6 := (HB.out.cell (World.block_lt_of_cell? w _ hx246_6)).trans hx246_6
                  replace hx246_7 := (HB.out.cell (World.block_lt_of_cell? w _ hx246_7)).trans hx246_7
                  have HR246_7 := Aside0.mk hi246_7
                  have HC246_7 := Aside0.mk hl246_7
                  clear hi246_7 hl246_7
                  replace p246 := eq_true p246
                  replace q246 := eq_true q246
                  have ea_ := Option.some.inj (hx214_7.symm.trans hx246_7)
                  injection ea_ with ea_ en_ ec_
                  subst ea_
                  subst ec_
                  clear en_
                  go_wp2_with (first | ((with_reducible refine gate_callee (f := 49) rfl ?_); refine goesL_ (some 52) rfl rfl Try.func49 (by kernel_rfl) rfl #[.agg #[.int .i64 ((rd_T29 l0 x8_1).f0), .int .i64 ((rd_T29 l0 x8_1).f1), .int .i64 ((rd_T29 l0 x8_1).f2), .int .i64 ((rd_T29 l0 x8_1).f3), .int .i64 ((rd_T29 l0 x8_1).f4), .int .i64 ((rd_T29 l0 x8_1).f5), .int .i64 ((rd_T29 l0 x8_1).f6), .slice A214_7 ((rd_T29 l0 x8_1).f7).length c214_7]] rfl (by (try simp only [List.map_toArray, List.map_cons, List.map_nil]); first | done | rfl | (simp only [List.length_drop, List.length_take]; rfl)) ?_; (with_reducible refine (sextonref25_own.calls ((rd_T29 l0 x8_1).f0) ((rd_T29 l0 x8_1).f1) ((rd_T29 l0 x8_1).f2) ((rd_T29 l0 x8_1).f3) ((rd_T29 l0 x8_1).f4) ((rd_T29 l0 x8_1).f5) ((rd_T29 l0 x8_1).f6) _ _ ((rd_T29 l0 x8_1).f7) t247 t248 t249 t250 t251 t252 t253 t254 _ ?side1 ?side2 A30.out).mono ?_); (case side1 => repeat (first | exact (Kd.C_below HR246_7.out HB.out) | (with_reducible refine Kd.C_alloc ?_ _) | (with_reducible refine Kd.C_drewN ?_ _) | (with_reducible refine Kd.C_drew ?_))); (case side2 => exact HC246_7.out); rintro e w32 ⟨v255, rfl, ho0, hb⟩; refine ⟨_, rfl, ?_⟩; have n0_ := Aside0.mk (Kd.S_elder' (by (with_reducible repeat (first | apply Kd.S_alloc | apply Kd.S_drewN | apply Kd.S_drew)); exact HO_7.out) (Kd.R_base ho0) hb); have n1_ := Aside0.mk (Kd.R_lower ho0 (below_size (by repeat (first | (with_reducible first | exact HB.out | apply below_alloc | apply pw_below_drewN | apply below_drew1) | exact HB.out)))); have n2_ := Aside0.mk (below_step (by repeat (first | (with_reducible first | exact HB.out | apply below_alloc | apply pw_below_drewN | apply below_drew1) | exact HB.out)) hb); clear HO_7; clear HB; have HO_7 := n0_; have HO256 := n1_; have HB := n2_; clear n0_ n1_ n2_; (try clear hb); (try clear hb2); (try clear hk); (try clear hi); (try clear ho0)) | ((with_reducible refine gate_dst (N := 11) rfl ?_); refine box_event ?hg (N := 11) ?hd (cs := #[.int .i64 0, .int .i64 0, .int .i64 0, .int .i64 0, .int .i64 0, .int .i64 0, .int .i64 0, .slice none 0 0]) (t := 29) ?hr ?_; (case hd => rfl); (case hg => rfl); (case hr => first | (go_simp; done) | (go_simp; rfl)); intro gb257 hg w33 hbox hb; have n0_ := Aside0.mk (Kd.S_below (Kd.S_elderB (by (with_reducible repeat (first | apply Kd.S_alloc | apply Kd.S_drewN | apply Kd.S_drew)); exact HO_7.out) gb257 (Nat.le_of_eq hg.symm)) hb); have n1_ := Aside0.mk (Kd.R_below (by (with_reducible repeat (first | apply Kd.R_alloc | apply Kd.R_drewN | apply Kd.R_drew)); exact HO256.out) hb); have n2_ := Aside0.mk (below_step (by repeat (first | (with_reducible first | exact HB.out | apply below_alloc | apply pw_below_drewN | apply below_drew1) | exact HB.out)) hb); have n3_ := Aside0.mk (hbox); have n4_ := Aside0.mk ((by rw [hg]; exact (below_size (by repeat (first | (with_reducible first | exact HB.out | apply below_alloc | apply pw_below_drewN | apply below_drew1) | exact HB.out))) : w.heap.size ≤ gb257)); have n5_ := Aside0.mk ((by rw [hg]; exact (below_size (by repeat (first | (with_reducible first | exact HB.out | apply below_alloc | apply pw_below_drewN | apply below_drew1) | exact HB.out))) : w.heap.size ≤ gb257)); clear HO_7; clear HO256; clear HB; have HO_7 := n0_; have HO256 := n1_; have HB := n2_; have BK257 := n3_; have GW257 := n4_; have GE257 := n5_; clear n0_ n1_ n2_ n3_ n4_ n5_; clear hb hbox hg; have hcz34_0 : w33.cell? ⟨gb257, 0, none⟩ = some (.int .i64 0) := (blk_cell BK257.out 0).trans rfl; have hcz34_1 : w33.cell? ⟨gb257, 1, none⟩ = some (.int .i64 0) := (blk_cell BK257.out 1).trans rfl; have hcz34_2 : w33.cell? ⟨gb257, 2, none⟩ = some (.int .i64 0) := (blk_cell BK257.out 2).trans rfl; have hcz34_3 : w33.cell? ⟨gb257, 3, none⟩ = some (.int .i64 0) := (blk_cell BK257.out 3).trans rfl; have hcz34_4 : w33.cell? ⟨gb257, 4, none⟩ = some (.int .i64 0) := (blk_cell BK257.out 4).trans rfl; have hcz34_5 : w33.cell? ⟨gb257, 5, none⟩ = some (.int .i64 0) := (blk_cell BK257.out 5).trans rfl; have hcz34_6 : w33.cell? ⟨gb257, 6, none⟩ = some (.int .i64 0) := (blk_cell BK257.out 6).trans rfl; have hcz34_7 : w33.cell? ⟨gb257, 7, none⟩ = some (.slice none 0 0) := (blk_cell BK257.out 7).trans rfl; have hfz34_0 := blk_frozen BK257.out 0; have hfz34_1 := blk_frozen BK257.out 1; have hfz34_2 := blk_frozen BK257.out 2; have hfz34_3 := blk_frozen BK257.out 3; have hfz34_4 := blk_frozen BK257.out 4; have hfz34_5 := blk_frozen BK257.out 5; have hfz34_6 := blk_frozen BK257.out 6; have hfz34_7 := blk_frozen BK257.out 7; obtain ⟨Ao35, co35, eo35⟩ := Kd.R_slice HO256.out; subst eo35) | ((with_reducible refine gate_store (t := 29) (p := 11) rfl ?_); refine store_event (t := 29) (p := 11) (v := ?vo_w36) (w1 := ((((((((w33.setCell ⟨gb257, 0, none⟩ (.int .i64 t247)).setCell ⟨gb257, 1, none⟩ (.int .i64 t248)).setCell ⟨gb257, 2, none⟩ (.int .i64 t249)).setCell ⟨gb257, 3, none⟩ (.int .i64 t250)).setCell ⟨gb257, 4, none⟩ (.int .i64 t251)).setCell ⟨gb257, 5, none⟩ (.int .i64 t252)).setCell ⟨gb257, 6, none⟩ (.int .i64 t253)).setCell ⟨gb257, 7, none⟩ (.slice Ao35 t254.length co35))) ?hg ?ho ?hn ?hr ?_; (case ho => rfl); (case hg => rfl); (case hn => rfl); (case hr => first | (go_simp; done) | (go_simp; rfl)); intro w36 hw; have n0_ : Aside0 (Kd.S k29 29 w36 w.heap.size (fun k_ => some k_ ≠ (.slice Ao35 t254.length co35 : Value).ownBlock ∧ k_ ≠ gb257) u7 x7_1) := ⟨(by rw [hw]; exact (by (with_reducible repeat (first | apply Kd.S_alloc | apply Kd.S_drewN | apply Kd.S_drew)); exact Kd.S_mono (Kd.S_far (p := ⟨gb257, 7, none⟩) (Kd.S_far (p := ⟨gb257, 6, none⟩) (Kd.S_far (p := ⟨gb257, 5, none⟩) (Kd.S_far (p := ⟨gb257, 4, none⟩) (Kd.S_far (p := ⟨gb257, 3, none⟩) (Kd.S_far (p := ⟨gb257, 2, none⟩) (Kd.S_far (p := ⟨gb257, 1, none⟩) (Kd.S_far (p := ⟨gb257, 0, none⟩) (Kd.S_mono HO_7.out (fun k_ hk => (⟨hk, hk.2⟩ : _ ∧ k_ ≠ gb257))) (fun _ hk => hk.2) (.int .i64 t247)) (fun _ hk => hk.2) (.int .i64 t248)) (fun _ hk => hk.2) (.int .i64 t249)) (fun _ hk => hk.2) (.int .i64 t250)) (fun _ hk => hk.2) (.int .i64 t251)) (fun _ hk => hk.2) (.int .i64 t252)) (fun _ hk => hk.2) (.int .i64 t253)) (fun _ hk => hk.2) (.slice Ao35 t254.length co35)) (fun _ hk => ⟨hk.1.1.2, hk.1.2⟩)))⟩; have n1_ : Aside0 (Kd.R Kd.string 9 w36 w.heap.size (fun _ => True) (.slice Ao35 t254.length co35) t254) := ⟨(by rw [hw]; exact (by (with_reducible repeat (first | apply Kd.R_alloc | apply Kd.R_drewN | apply Kd.R_drew)); exact Kd.R_mono (Kd.R_far (p := ⟨gb257, 7, none⟩) (Kd.R_far (p := ⟨gb257, 6, none⟩) (Kd.R_far (p := ⟨gb257, 5, none⟩) (Kd.R_far (p := ⟨gb257, 4, none⟩) (Kd.R_far (p := ⟨gb257, 3, none⟩) (Kd.R_far (p := ⟨gb257, 2, none⟩) (Kd.R_far (p := ⟨gb257, 1, none⟩) (Kd.R_far (p := ⟨gb257, 0, none⟩) (Kd.R_types HO256.out BK257.out (by decide)) (fun _ hk => hk.2) (.int .i64 t247)) (fun _ hk => hk.2) (.int .i64 t248)) (fun _ hk => hk.2) (.int .i64 t249)) (fun _ hk => hk.2) (.int .i64 t250)) (fun _ hk => hk.2) (.int .i64 t251)) (fun _ hk => hk.2) (.int .i64 t252)) (fun _ hk => hk.2) (.int .i64 t253)) (fun _ hk => hk.2) (.slice Ao35 t254.length co35)) (fun _ hk => trivial)))⟩; have n2_ : Aside0 (w36.heap[gb257]? = some (.cells #[.int .i64 t247, .int .i64 t248, .int .i64 t249, .int .i64 t250, .int .i64 t251, .int .i64 t252, .int .i64 t253, .slice Ao35 t254.length co35] 29 (0, 0))) := ⟨(by rw [hw]; exact (by (with_reducible repeat (first | refine blk_drewN ?_ _ | refine blk_drew ?_ | refine blk_alloc ?_ _)); refine blk_put (cs := #[.int .i64 t247, .int .i64 t248, .int .i64 t249, .int .i64 t250, .int .i64 t251, .int .i64 t252, .int .i64 t253, .slice none 0 0]) ?_ 7 _ rfl; (with_reducible repeat (first | refine blk_drewN ?_ _ | refine blk_drew ?_ | refine blk_alloc ?_ _)); refine blk_put (cs := #[.int .i64 t247, .int .i64 t248, .int .i64 t249, .int .i64 t250, .int .i64 t251, .int .i64 t252, .int .i64 0, .slice none 0 0]) ?_ 6 _ rfl; (with_reducible repeat (first | refine blk_drewN ?_ _ | refine blk_drew ?_ | refine blk_alloc ?_ _)); refine blk_put (cs := #[.int .i64 t247, .int .i64 t248, .int .i64 t249, .int .i64 t250, .int .i64 t251, .int .i64 0, .int .i64 0, .slice none 0 0]) ?_ 5 _ rfl; (with_reducible repeat (first | refine blk_drewN ?_ _ | refine blk_drew ?_ | refine blk_alloc ?_ _)); refine blk_put (cs := #[.int .i64 t247, .int .i64 t248, .int .i64 t249, .int .i64 t250, .int .i64 0, .int .i64 0, .int .i64 0, .slice none 0 0]) ?_ 4 _ rfl; (with_reducible repeat (first | refine blk_drewN ?_ _ | refine blk_drew ?_ | refine blk_alloc ?_ _)); refine blk_put (cs := #[.int .i64 t247, .int .i64 t248, .int .i64 t249, .int .i64 0, .int .i64 0, .int .i64 0, .int .i64 0, .slice none 0 0]) ?_ 3 _ rfl; (with_reducible repeat (first | refine blk_drewN ?_ _ | refine blk_drew ?_ | refine blk_alloc ?_ _)); refine blk_put (cs := #[.int .i64 t247, .int .i64 t248, .int .i64 0, .int .i64 0, .int .i64 0, .int .i64 0, .int .i64 0, .slice none 0 0]) ?_ 2 _ rfl; (with_reducible repeat (first | refine blk_drewN ?_ _ | refine blk_drew ?_ | refine blk_alloc ?_ _)); refine blk_put (cs := #[.int .i64 t247, .int .i64 0, .int .i64 0, .int .i64 0, .int .i64 0, .int .i64 0, .int .i64 0, .slice none 0 0]) ?_ 1 _ rfl; (with_reducible repeat (first | refine blk_drewN ?_ _ | refine blk_drew ?_ | refine blk_alloc ?_ _)); refine blk_put (cs := #[.int .i64 0, .int .i64 0, .int .i64 0, .int .i64 0, .int .i64 0, .int .i64 0, .int .i64 0, .slice none 0 0]) ?_ 0 _ rfl; (with_reducible repeat (first | refine blk_drewN ?_ _ | refine blk_drew ?_ | refine blk_alloc ?_ _)); exact BK257.out))⟩; have n3_ : Aside0 (Below w.heap.size w w36) := ⟨(by rw [hw]; exact (by repeat (first | (with_reducible first | exact HB.out | apply below_alloc | apply pw_below_drewN | apply below_drew1 | refine below_set ?_ GE257.out) | exact HB.out)))⟩; clear hw; clear HO_7; clear HO256; clear BK257; clear HB; have HO_7 := n0_; have HO256 := n1_; have BK257 := n2_; have HB := n3_; clear n0_ n1_ n2_ n3_; have hcz37_0 : w36.cell? ⟨gb257, 0, none⟩ = some (.int .i64 t247) := (blk_cell BK257.out 0).trans rfl; have hcz37_1 : w36.cell? ⟨gb257, 1, none⟩ = some (.int .i64 t248) := (blk_cell BK257.out 1).trans rfl; have hcz37_2 : w36.cell? ⟨gb257, 2, none⟩ = some (.int .i64 t249) := (blk_cell BK257.out 2).trans rfl; have hcz37_3 : w36.cell? ⟨gb257, 3, none⟩ = some (.int .i64 t250) := (blk_cell BK257.out 3).trans rfl; have hcz37_4 : w36.cell? ⟨gb257, 4, none⟩ = some (.int .i64 t251) := (blk_cell BK257.out 4).trans rfl; have hcz37_5 : w36.cell? ⟨gb257, 5, none⟩ = some (.int .i64 t252) := (blk_cell BK257.out 5).trans rfl; have hcz37_6 : w36.cell? ⟨gb257, 6, none⟩ = some (.int .i64 t253) := (blk_cell BK257.out 6).trans rfl; have hcz37_7 : w36.cell? ⟨gb257, 7, none⟩ = some (.slice Ao35 t254.length co35) := (blk_cell BK257.out 7).trans rfl; have hfz37_0 := blk_frozen BK257.out 0; have hfz37_1 := blk_frozen BK257.out 1; have hfz37_2 := blk_frozen BK257.out 2; have hfz37_3 := blk_frozen BK257.out 3; have hfz37_4 := blk_frozen BK257.out 4; have hfz37_5 := blk_frozen BK257.out 5; have hfz37_6 := blk_frozen BK257.out 6; have hfz37_7 := blk_frozen BK257.out 7) | ((with_reducible refine gate_builtin (b := .append) (xs := #[.tmp 53, .tmp 55]) rfl ?_); at_builtin; refine Kd.S_append k29 (w0 := w) w.heap.size rfl (.tmp 53) (.tmp 55) 22 29 (.agg #[(.int .i64 0), (.int .i64 0), (.int .i64 0), (.int .i64 0), (.int .i64 0), (.int .i64 0), (.int .i64 0), (.slice none 0 0)]) 80 rfl Try.underlying22 info29 rfl (by decide) (by omega) u7 x7_1 (⟨t247, t248, t249, t250, t251, t252, t253, t254⟩ : S29) [.int .i64 t247, .int .i64 t248, .int .i64 t249, .int .i64 t250, .int .i64 t251, .int .i64 t252, .int .i64 t253, .slice Ao35 t254.length co35] (fun k_ => k_ ≠ gb257) (fun k_ => some k_ = (.slice Ao35 t254.length co35 : Value).ownBlock) rfl rfl ?aP (fun k_ hk_ => ((Kd.R_mono (ok' := fun k_ => ((fun k_ => k_ ≠ gb257)) k_ ∧ some k_ ≠ (u7 : Value).ownBlock) (Kd.R_types (Kd.R_apart' (HO256.out) (Kd.S_typed HO_7.out) (by decide)) BK257.out (by decide)) (fun k_ hk => ⟨hk.2, hk.1.2⟩))).1 k_ hk_.symm) ?aF ?aO ?aB ?aS ?aL ?_; (case aP => exact k29_mkM _ _ _ (⟨t247, t248, t249, t250, t251, t252, t253, t254⟩ : S29) (Kd.R_mono (Kd.R_tight rfl (Kd.R_mono (ok' := fun k_ => ((fun k_ => k_ ≠ gb257)) k_ ∧ some k_ ≠ (u7 : Value).ownBlock) (Kd.R_types (Kd.R_apart' (HO256.out) (Kd.S_typed HO_7.out) (by decide)) BK257.out (by decide)) (fun k_ hk => ⟨hk.2, hk.1.2⟩))) (fun _ h_ => h_))); (case aB => exact (by repeat (first | (with_reducible first | exact HB.out | apply below_alloc | apply pw_below_drewN | apply below_drew1 | refine below_set ?_ GE257.out) | exact HB.out))); (case aF => exact (fun k_ hk => Kd.freshB (g := gb257) (o := .cells #[.int .i64 t247, .int .i64 t248, .int .i64 t249, .int .i64 t250, .int .i64 t251, .int .i64 t252, .int .i64 t253, .slice Ao35 t254.length co35] 29 (0, 0)) (by (with_reducible repeat (first | refine blk_drewN ?_ _ | refine blk_drew ?_ | refine blk_alloc ?_ _)); exact BK257.out) k_ hk)); (case aO => exact (by (with_reducible repeat (first | apply Kd.S_alloc | apply Kd.S_drewN | apply Kd.S_drew)); exact Kd.S_mono HO_7.out (fun k_ hk => ⟨hk.2, fun e_ => hk.1 e_⟩))); (case aS => exact (below_size (by repeat (first | (with_reducible first | exact HB.out | apply below_alloc | apply pw_below_drewN | apply below_drew1 | refine below_set ?_ GE257.out) | exact HB.out)))); (case aL => have := LMc31.out; omega); intro v259 w38 ho hb hg hat; rw [← Ny258.out] at ho; have n0_ := Aside0.mk (blk_grown (g := gb257) (o := .cells #[.int .i64 t247, .int .i64 t248, .int .i64 t249, .int .i64 t250, .int .i64 t251, .int .i64 t252, .int .i64 t253, .slice Ao35 t254.length co35] 29 (0, 0)) (by (with_reducible repeat (first | refine blk_drewN ?_ _ | refine blk_drew ?_ | refine blk_alloc ?_ _)); exact BK257.out) hg (Kd.S_away HO_7.out (fun _ hk => hk.2))); have n1_ := Aside0.mk (hb); have n2_ := Aside0.mk (ho); clear BK257; clear HB; clear HO_7; clear HO256; have BK257 := n0_; have HB := n1_; have HO260 := n2_; clear n0_ n1_ n2_; clear ho hb hg hat))
                  go_roundg k1
                  case measure => have := HK1.out; omega
                  case rel => exact ⟨(y258), (wrap64 (x8_1 + 1)), (by first | rfl | (simp; done) | (simp [*]; done)), H', ⟨by have := HK1.out; omega⟩, ⟨by (with_reducible repeat (first | apply Kd.S_alloc | apply Kd.S_drewN | apply Kd.S_drew)); exact Kd.S_mono HO260.out (fun _ hk => trivial)⟩, ⟨by repeat (first | (with_reducible first | exact HB.out | apply below_alloc | apply pw_below_drewN | apply below_drew1 | refine below_set ?_ GE257.out) | exact HB.out)⟩⟩
                · rw [if_neg c31] at H
                  exact absurd H (by simp)
            · rw [if_neg c28] at H
              have c28b0 : (((rd_T29 l0 x8_1).f1) == a2) = false := beq_eq_false_iff_ne.mpr c28
              have c28b1 : (((rd_T29 l0 x8_1).f1) != a2) = true := bne_iff_ne.mpr c28
              replace H := Option.bind_eq_some_iff.mp H
              obtain ⟨⟨t262, t263, t264, t265, t266, t267, t268, t269⟩, A390, H⟩ := H
              replace H : (if x7_1.length < 1759218604441 then (sextonref25_Cut.l0 k1 l0 a1 a2 (x7_1 ++ [(⟨t262, t263, t264, t265, t266, t267, t268, t269⟩ : S29)]) (wrap64 (x8_1 + 1))) else (none)) = some r := H
              have A39 := Aside0.mk A390
              clear A390
              by_cases c40 : x7_1.length < 1759218604441
              · rw [if_pos c40] at H
                have LMc40 := Aside0.mk c40
                clear c40
                obtain ⟨y273, hy273⟩ : ∃ y_ : List (S29), y_ = (x7_1 ++ [(⟨t262, t263, t264, t265, t266, t267, t268, t269⟩ : S29)]) := ⟨_, rfl⟩
                replace H : (sextonref25_Cut.l0 k1 l0 a1 a2 y273 (wrap64 (x8_1 + 1))) = some r := by first | (rw [hy273]; with_reducible exact H) | (have H2_ := (Option.bind_some _ _).symm.trans H; rw [hy273]; with_reducible exact H2_) | (have H2_ := (Option.bind_some _ _).symm.trans H; with_reducible exact H2_) | with_reducible exact H | (rw [hy273]; exact H) | exact H
                have Ny273 := Aside0.mk hy273
                clear hy273
                have H' := Aside0.mk H
                clear H
                have p214 : 0 ≤ (x8_1 : Int) := of_decide_eq_true (by first | (with_reducible assumption) | assumption)
                have q214 : x8_1 < (l0.length : Int) := of_decide_eq_true (by first | (with_reducible assumption) | assumption)
                obtain ⟨ad214, A214_7, c214_7, e214, hx214_0, hx214_1, hx214_2, hx214_3, hx214_4, hx214_5, hx214_6, hx214_7, hl214_7, hi214_7⟩ := at_T29 HR0.out x8_1 p214 q214
                cases e214
                replace hx214_0 := (HB.out.cell (World.block_lt_of_cell? w _ hx214_0)).trans hx214_0
                replace hx214_1 := (HB.out.cell (World.block_lt_of_cell? w _ hx214_1)).trans hx214_1
                replace hx214_2 := (HB.out.cell (World.block_lt_of_cell? w _ hx214_2)).trans hx214_2
                replace hx214_3 := (HB.out.cell (World.block_lt_of_cell? w _ hx214_3)).trans hx214_3
                replace hx214_4 := (HB.out.cell (World.block_lt_of_cell? w _ hx214_4)).trans hx214_4
                replace hx214_5 := (HB.out.cell (World.block_lt_of_cell? w _ hx214_5)).trans hx214_5
                replace hx214_6 := (HB.out.cell (World.block_lt_of_cell? w _ hx214_6)).trans hx214_6
                replace hx214_7 := (HB.out.cell (World.block_lt_of_cell? w _ hx214_7)).trans hx214_7
                have HR214_7 := Aside0.mk hi214_7
                have HC214_7 := Aside0.mk hl214_7
                clear hi214_7 hl214_7
                replace p214 := eq_true p214
                replace q214 := eq_true q214
                have p215 : 0 ≤ (x8_1 : Int) := of_decide_eq_true (by first | (with_reducible assumption) | assumption)
                have q215 : x8_1 < (l0.length : Int) := of_decide_eq_true (by first | (with_reducible assumption) | assumption)
                obtain ⟨ad215, A215_7, c215_7, e215, hx215_0, hx215_1, hx215_2, hx215_3, hx215_4, hx215_5, hx215_6, hx215_7, hl215_7, hi215_7⟩ := at_T29 HR0.out x8_1 p215 q215
                obtain rfl : ad214 = ad215 := (by injection e215)
                replace hx215_0 := (HB.out.cell (World.block_lt_of_cell? w _ hx215_0)).trans hx215_0
                replace hx215_1 := (HB.out.cell (World.block_lt_of_cell? w _ hx215_1)).trans hx215_1
                replace hx215_2 := (HB.out.cell (World.block_lt_of_cell? w _ hx215_2)).trans hx215_2
                replace hx215_3 := (HB.out.cell (World.block_lt_of_cell? w _ hx215_3)).trans hx215_3
                replace hx215_4 := (HB.out.cell (World.block_lt_of_cell? w _ hx215_4)).trans hx215_4
                replace hx215_5 := (HB.out.cell (World.block_lt_of_cell? w _ hx215_5)).trans hx215_5
                replace hx215_6 := (HB.out.cell (World.block_lt_of_cell? w _ hx215_6)).trans hx215_6
                replace hx215_7 := (HB.out.cell (World.block_lt_of_cell? w _ hx215_7)).trans hx215_7
                have HR215_7 := Aside0.mk hi215_7
                have HC215_7 := Aside0.mk hl215_7
                clear hi215_7 hl215_7
                replace p215 := eq_true p215
                replace q215 := eq_true q215
                have ea_ := Option.some.inj (hx214_7.symm.trans hx215_7)
                injection ea_ with ea_ en_ ec_
                subst ea_
                subst ec_
                clear en_
                have p261 : 0 ≤ (x8_1 : Int) := of_decide_eq_true (by first | (with_reducible assumption) | assumption)
                have q261 : x8_1 < (l0.length : Int) := of_decide_eq_true (by first | (with_reducible assumption) | assumption)
                obtain ⟨ad261, A261_7, c261_7, e261, hx261_0, hx261_1, hx261_2, hx261_3, hx261_4, hx261_5, hx261_6, hx261_7, hl261_7, hi261_7⟩ := at_T29 HR0.out x8_1 p261 q261
                obtain rfl : ad214 = ad261 := (by injection e261)
                replace hx261_0 := (HB.out.cell (World.block_lt_of_cell? w _ hx261_0)).trans hx261_0
                replace hx261_1 := (HB.out.cell (World.block_lt_of_cell? w _ hx261_1)).trans hx261_1
                replace hx261_2 := (HB.out.cell (World.block_lt_of_cell? w _ hx261_2)).trans hx261_2
                replace hx261_3 := (HB.out.cell (World.block_lt_of_cell? w _ hx261_3)).trans hx261_3
                replace hx261_4 := (HB.out.cell (World.block_lt_of_cell? w _ hx261_4)).trans hx261_4
                replace hx261_5 := (HB.out.cell (World.block_lt_of_cell? w _ hx261_5)).trans hx261_5
                replace hx261_6 := (HB.out.cell (World.block_lt_of_cell? w _ hx261_6)).trans hx261_6
                replace hx261_7 := (HB.out.cell (World.block_lt_of_cell? w _ hx261_7)).trans hx261_7
                have HR261_7 := Aside0.mk hi261_7
                have HC261_7 := Aside0.mk hl261_7
                clear hi261_7 hl261_7
                replace p261 := eq_true p261
                replace q261 := eq_true q261
                have ea_ := Option.some.inj (hx214_7.symm.trans hx261_7)
                injection ea_ with ea_ en_ ec_
                subst ea_
                subst ec_
                clear en_
                go_wp2_with (first | ((with_reducible refine gate_callee (f := 49) rfl ?_); refine goesL_ (some 52) rfl rfl Try.func49 (by kernel_rfl) rfl #[.agg #[.int .i64 ((rd_T29 l0 x8_1).f0), .int .i64 ((rd_T29 l0 x8_1).f1), .int .i64 ((rd_T29 l0 x8_1).f2), .int .i64 ((rd_T29 l0 x8_1).f3), .int .i64 ((rd_T29 l0 x8_1).f4), .int .i64 ((rd_T29 l0 x8_1).f5), .int .i64 ((rd_T29 l0 x8_1).f6), .slice A214_7 ((rd_T29 l0 x8_1).f7).length c214_7]] rfl (by (try simp only [List.map_toArray, List.map_cons, List.map_nil]); first | done | rfl | (simp only [List.length_drop, List.length_take]; rfl)) ?_; (with_reducible refine (sextonref25_own.calls ((rd_T29 l0 x8_1).f0) ((rd_T29 l0 x8_1).f1) ((rd_T29 l0 x8_1).f2) ((rd_T29 l0 x8_1).f3) ((rd_T29 l0 x8_1).f4) ((rd_T29 l0 x8_1).f5) ((rd_T29 l0 x8_1).f6) _ _ ((rd_T29 l0 x8_1).f7) t262 t263 t264 t265 t266 t267 t268 t269 _ ?side1 ?side2 A39.out).mono ?_); (case side1 => repeat (first | exact (Kd.C_below HR261_7.out HB.out) | (with_reducible refine Kd.C_alloc ?_ _) | (with_reducible refine Kd.C_drewN ?_ _) | (with_reducible refine Kd.C_drew ?_))); (case side2 => exact HC261_7.out); rintro e w41 ⟨v270, rfl, ho0, hb⟩; refine ⟨_, rfl, ?_⟩; have n0_ := Aside0.mk (Kd.S_elder' (by (with_reducible repeat (first | apply Kd.S_alloc | apply Kd.S_drewN | apply Kd.S_drew)); exact HO_7.out) (Kd.R_base ho0) hb); have n1_ := Aside0.mk (Kd.R_lower ho0 (below_size (by repeat (first | (with_reducible first | exact HB.out | apply below_alloc | apply pw_below_drewN | apply below_drew1) | exact HB.out)))); have n2_ := Aside0.mk (below_step (by repeat (first | (with_reducible first | exact HB.out | apply below_alloc | apply pw_below_drewN | apply below_drew1) | exact HB.out)) hb); clear HO_7; clear HB; have HO_7 := n0_; have HO271 := n1_; have HB := n2_; clear n0_ n1_ n2_; (try clear hb); (try clear hb2); (try clear hk); (try clear hi); (try clear ho0)) | ((with_reducible refine gate_dst (N := 11) rfl ?_); refine box_event ?hg (N := 11) ?hd (cs := #[.int .i64 0, .int .i64 0, .int .i64 0, .int .i64 0, .int .i64 0, .int .i64 0, .int .i64 0, .slice none 0 0]) (t := 29) ?hr ?_; (case hd => rfl); (case hg => rfl); (case hr => first | (go_simp; done) | (go_simp; rfl)); intro gb272 hg w42 hbox hb; have n0_ := Aside0.mk (Kd.S_below (Kd.S_elderB (by (with_reducible repeat (first | apply Kd.S_alloc | apply Kd.S_drewN | apply Kd.S_drew)); exact HO_7.out) gb272 (Nat.le_of_eq hg.symm)) hb); have n1_ := Aside0.mk (Kd.R_below (by (with_reducible repeat (first | apply Kd.R_alloc | apply Kd.R_drewN | apply Kd.R_drew)); exact HO271.out) hb); have n2_ := Aside0.mk (below_step (by repeat (first | (with_reducible first | exact HB.out | apply below_alloc | apply pw_below_drewN | apply below_drew1) | exact HB.out)) hb); have n3_ := Aside0.mk (hbox); have n4_ := Aside0.mk ((by rw [hg]; exact (below_size (by repeat (first | (with_reducible first | exact HB.out | apply below_alloc | apply pw_below_drewN | apply below_drew1) | exact HB.out))) : w.heap.size ≤ gb272)); have n5_ := Aside0.mk ((by rw [hg]; exact (below_size (by repeat (first | (with_reducible first | exact HB.out | apply below_alloc | apply pw_below_drewN | apply below_drew1) | exact HB.out))) : w.heap.size ≤ gb272)); clear HO_7; clear HO271; clear HB; have HO_7 := n0_; have HO271 := n1_; have HB := n2_; have BK272 := n3_; have GW272 := n4_; have GE272 := n5_; clear n0_ n1_ n2_ n3_ n4_ n5_; clear hb hbox hg; have hcz43_0 : w42.cell? ⟨gb272, 0, none⟩ = some (.int .i64 0) := (blk_cell BK272.out 0).trans rfl; have hcz43_1 : w42.cell? ⟨gb272, 1, none⟩ = some (.int .i64 0) := (blk_cell BK272.out 1).trans rfl; have hcz43_2 : w42.cell? ⟨gb272, 2, none⟩ = some (.int .i64 0) := (blk_cell BK272.out 2).trans rfl; have hcz43_3 : w42.cell? ⟨gb272, 3, none⟩ = some (.int .i64 0) := (blk_cell BK272.out 3).trans rfl; have hcz43_4 : w42.cell? ⟨gb272, 4, none⟩ = some (.int .i64 0) := (blk_cell BK272.out 4).trans rfl; have hcz43_5 : w42.cell? ⟨gb272, 5, none⟩ = some (.int .i64 0) := (blk_cell BK272.out 5).trans rfl; have hcz43_6 : w42.cell? ⟨gb272, 6, none⟩ = some (.int .i64 0) := (blk_cell BK272.out 6).trans rfl; have hcz43_7 : w42.cell? ⟨gb272, 7, none⟩ = some (.slice none 0 0) := (blk_cell BK272.out 7).trans rfl; have hfz43_0 := blk_frozen BK272.out 0; have hfz43_1 := blk_frozen BK272.out 1; have hfz43_2 := blk_frozen BK272.out 2; have hfz43_3 := blk_frozen BK272.out 3; have hfz43_4 := blk_frozen BK272.out 4; have hfz43_5 := blk_frozen BK272.out 5; have hfz43_6 := blk_frozen BK272.out 6; have hfz43_7 := blk_frozen BK272.out 7; obtain ⟨Ao44, co44, eo44⟩ := Kd.R_slice HO271.out; subst eo44) | ((with_reducible refine gate_store (t := 29) (p := 11) rfl ?_); refine store_event (t := 29) (p := 11) (v := ?vo_w45) (w1 := ((((((((w42.setCell ⟨gb272, 0, none⟩ (.int .i64 t262)).setCell ⟨gb272, 1, none⟩ (.int .i64 t263)).setCell ⟨gb272, 2, none⟩ (.int .i64 t264)).setCell ⟨gb272, 3, none⟩ (.int .i64 t265)).setCell ⟨gb272, 4, none⟩ (.int .i64 t266)).setCell ⟨gb272, 5, none⟩ (.int .i64 t267)).setCell ⟨gb272, 6, none⟩ (.int .i64 t268)).setCell ⟨gb272, 7, none⟩ (.slice Ao44 t269.length co44))) ?hg ?ho ?hn ?hr ?_; (case ho => rfl); (case hg => rfl); (case hn => rfl); (case hr => first | (go_simp; done) | (go_simp; rfl)); intro w45 hw; have n0_ : Aside0 (Kd.S k29 29 w45 w.heap.size (fun k_ => some k_ ≠ (.slice Ao44 t269.length co44 : Value).ownBlock ∧ k_ ≠ gb272) u7 x7_1) := ⟨(by rw [hw]; exact (by (with_reducible repeat (first | apply Kd.S_alloc | apply Kd.S_drewN | apply Kd.S_drew)); exact Kd.S_mono (Kd.S_far (p := ⟨gb272, 7, none⟩) (Kd.S_far (p := ⟨gb272, 6, none⟩) (Kd.S_far (p := ⟨gb272, 5, none⟩) (Kd.S_far (p := ⟨gb272, 4, none⟩) (Kd.S_far (p := ⟨gb272, 3, none⟩) (Kd.S_far (p := ⟨gb272, 2, none⟩) (Kd.S_far (p := ⟨gb272, 1, none⟩) (Kd.S_far (p := ⟨gb272, 0, none⟩) (Kd.S_mono HO_7.out (fun k_ hk => (⟨hk, hk.2⟩ : _ ∧ k_ ≠ gb272))) (fun _ hk => hk.2) (.int .i64 t262)) (fun _ hk => hk.2) (.int .i64 t263)) (fun _ hk => hk.2) (.int .i64 t264)) (fun _ hk => hk.2) (.int .i64 t265)) (fun _ hk => hk.2) (.int .i64 t266)) (fun _ hk => hk.2) (.int .i64 t267)) (fun _ hk => hk.2) (.int .i64 t268)) (fun _ hk => hk.2) (.slice Ao44 t269.length co44)) (fun _ hk => ⟨hk.1.1.2, hk.1.2⟩)))⟩; have n1_ : Aside0 (Kd.R Kd.string 9 w45 w.heap.size (fun _ => True) (.slice Ao44 t269.length co44) t269) := ⟨(by rw [hw]; exact (by (with_reducible repeat (first | apply Kd.R_alloc | apply Kd.R_drewN | apply Kd.R_drew)); exact Kd.R_mono (Kd.R_far (p := ⟨gb272, 7, none⟩) (Kd.R_far (p := ⟨gb272, 6, none⟩) (Kd.R_far (p := ⟨gb272, 5, none⟩) (Kd.R_far (p := ⟨gb272, 4, none⟩) (Kd.R_far (p := ⟨gb272, 3, none⟩) (Kd.R_far (p := ⟨gb272, 2, none⟩) (Kd.R_far (p := ⟨gb272, 1, none⟩) (Kd.R_far (p := ⟨gb272, 0, none⟩) (Kd.R_types HO271.out BK272.out (by decide)) (fun _ hk => hk.2) (.int .i64 t262)) (fun _ hk => hk.2) (.int .i64 t263)) (fun _ hk => hk.2) (.int .i64 t264)) (fun _ hk => hk.2) (.int .i64 t265)) (fun _ hk => hk.2) (.int .i64 t266)) (fun _ hk => hk.2) (.int .i64 t267)) (fun _ hk => hk.2) (.int .i64 t268)) (fun _ hk => hk.2) (.slice Ao44 t269.length co44)) (fun _ hk => trivial)))⟩; have n2_ : Aside0 (w45.heap[gb272]? = some (.cells #[.int .i64 t262, .int .i64 t263, .int .i64 t264, .int .i64 t265, .int .i64 t266, .int .i64 t267, .int .i64 t268, .slice Ao44 t269.length co44] 29 (0, 0))) := ⟨(by rw [hw]; exact (by (with_reducible repeat (first | refine blk_drewN ?_ _ | refine blk_drew ?_ | refine blk_alloc ?_ _)); refine blk_put (cs := #[.int .i64 t262, .int .i64 t263, .int .i64 t264, .int .i64 t265, .int .i64 t266, .int .i64 t267, .int .i64 t268, .slice none 0 0]) ?_ 7 _ rfl; (with_reducible repeat (first | refine blk_drewN ?_ _ | refine blk_drew ?_ | refine blk_alloc ?_ _)); refine blk_put (cs := #[.int .i64 t262, .int .i64 t263, .int .i64 t264, .int .i64 t265, .int .i64 t266, .int .i64 t267, .int .i64 0, .slice none 0 0]) ?_ 6 _ rfl; (with_reducible repeat (first | refine blk_drewN ?_ _ | refine blk_drew ?_ | refine blk_alloc ?_ _)); refine blk_put (cs := #[.int .i64 t262, .int .i64 t263, .int .i64 t264, .int .i64 t265, .int .i64 t266, .int .i64 0, .int .i64 0, .slice none 0 0]) ?_ 5 _ rfl; (with_reducible repeat (first | refine blk_drewN ?_ _ | refine blk_drew ?_ | refine blk_alloc ?_ _)); refine blk_put (cs := #[.int .i64 t262, .int .i64 t263, .int .i64 t264, .int .i64 t265, .int .i64 0, .int .i64 0, .int .i64 0, .slice none 0 0]) ?_ 4 _ rfl; (with_reducible repeat (first | refine blk_drewN ?_ _ | refine blk_drew ?_ | refine blk_alloc ?_ _)); refine blk_put (cs := #[.int .i64 t262, .int .i64 t263, .int .i64 t264, .int .i64 0, .int .i64 0, .int .i64 0, .int .i64 0, .slice none 0 0]) ?_ 3 _ rfl; (with_reducible repeat (first | refine blk_drewN ?_ _ | refine blk_drew ?_ | refine blk_alloc ?_ _)); refine blk_put (cs := #[.int .i64 t262, .int .i64 t263, .int .i64 0, .int .i64 0, .int .i64 0, .int .i64 0, .int .i64 0, .slice none 0 0]) ?_ 2 _ rfl; (with_reducible repeat (first | refine blk_drewN ?_ _ | refine blk_drew ?_ | refine blk_alloc ?_ _)); refine blk_put (cs := #[.int .i64 t262, .int .i64 0, .int .i64 0, .int .i64 0, .int .i64 0, .int .i64 0, .int .i64 0, .slice none 0 0]) ?_ 1 _ rfl; (with_reducible repeat (first | refine blk_drewN ?_ _ | refine blk_drew ?_ | refine blk_alloc ?_ _)); refine blk_put (cs := #[.int .i64 0, .int .i64 0, .int .i64 0, .int .i64 0, .int .i64 0, .int .i64 0, .int .i64 0, .slice none 0 0]) ?_ 0 _ rfl; (with_reducible repeat (first | refine blk_drewN ?_ _ | refine blk_drew ?_ | refine blk_alloc ?_ _)); exact BK272.out))⟩; have n3_ : Aside0 (Below w.heap.size w w45) := ⟨(by rw [hw]; exact (by repeat (first | (with_reducible first | exact HB.out | apply below_alloc | apply pw_below_drewN | apply below_drew1 | refine below_set ?_ GE272.out) | exact HB.out)))⟩; clear hw; clear HO_7; clear HO271; clear BK272; clear HB; have HO_7 := n0_; have HO271 := n1_; have BK272 := n2_; have HB := n3_; clear n0_ n1_ n2_ n3_; have hcz46_0 : w45.cell? ⟨gb272, 0, none⟩ = some (.int .i64 t262) := (blk_cell BK272.out 0).trans rfl; have hcz46_1 : w45.cell? ⟨gb272, 1, none⟩ = some (.int .i64 t263) := (blk_cell BK272.out 1).trans rfl; have hcz46_2 : w45.cell? ⟨gb272, 2, none⟩ = some (.int .i64 t264) := (blk_cell BK272.out 2).trans rfl; have hcz46_3 : w45.cell? ⟨gb272, 3, none⟩ = some (.int .i64 t265) := (blk_cell BK272.out 3).trans rfl; have hcz46_4 : w45.cell? ⟨gb272, 4, none⟩ = some (.int .i64 t266) := (blk_cell BK272.out 4).trans rfl; have hcz46_5 : w45.cell? ⟨gb272, 5, none⟩ = some (.int .i64 t267) := (blk_cell BK272.out 5).trans rfl; have hcz46_6 : w45.cell? ⟨gb272, 6, none⟩ = some (.int .i64 t268) := (blk_cell BK272.out 6).trans rfl; have hcz46_7 : w45.cell? ⟨gb272, 7, none⟩ = some (.slice Ao44 t269.length co44) := (blk_cell BK272.out 7).trans rfl; have hfz46_0 := blk_frozen BK272.out 0; have hfz46_1 := blk_frozen BK272.out 1; have hfz46_2 := blk_frozen BK272.out 2; have hfz46_3 := blk_frozen BK272.out 3; have hfz46_4 := blk_frozen BK272.out 4; have hfz46_5 := blk_frozen BK272.out 5; have hfz46_6 := blk_frozen BK272.out 6; have hfz46_7 := blk_frozen BK272.out 7) | ((with_reducible refine gate_builtin (b := .append) (xs := #[.tmp 53, .tmp 55]) rfl ?_); at_builtin; refine Kd.S_append k29 (w0 := w) w.heap.size rfl (.tmp 53) (.tmp 55) 22 29 (.agg #[(.int .i64 0), (.int .i64 0), (.int .i64 0), (.int .i64 0), (.int .i64 0), (.int .i64 0), (.int .i64 0), (.slice none 0 0)]) 80 rfl Try.underlying22 info29 rfl (by decide) (by omega) u7 x7_1 (⟨t262, t263, t264, t265, t266, t267, t268, t269⟩ : S29) [.int .i64 t262, .int .i64 t263, .int .i64 t264, .int .i64 t265, .int .i64 t266, .int .i64 t267, .int .i64 t268, .slice Ao44 t269.length co44] (fun k_ => k_ ≠ gb272) (fun k_ => some k_ = (.slice Ao44 t269.length co44 : Value).ownBlock) rfl rfl ?aP (fun k_ hk_ => ((Kd.R_mono (ok' := fun k_ => ((fun k_ => k_ ≠ gb272)) k_ ∧ some k_ ≠ (u7 : Value).ownBlock) (Kd.R_types (Kd.R_apart' (HO271.out) (Kd.S_typed HO_7.out) (by decide)) BK272.out (by decide)) (fun k_ hk => ⟨hk.2, hk.1.2⟩))).1 k_ hk_.symm) ?aF ?aO ?aB ?aS ?aL ?_; (case aP => exact k29_mkM _ _ _ (⟨t262, t263, t264, t265, t266, t267, t268, t269⟩ : S29) (Kd.R_mono (Kd.R_tight rfl (Kd.R_mono (ok' := fun k_ => ((fun k_ => k_ ≠ gb272)) k_ ∧ some k_ ≠ (u7 : Value).ownBlock) (Kd.R_types (Kd.R_apart' (HO271.out) (Kd.S_typed HO_7.out) (by decide)) BK272.out (by decide)) (fun k_ hk => ⟨hk.2, hk.1.2⟩))) (fun _ h_ => h_))); (case aB => exact (by repeat (first | (with_reducible first | exact HB.out | apply below_alloc | apply pw_below_drewN | apply below_drew1 | refine below_set ?_ GE272.out) | exact HB.out))); (case aF => exact (fun k_ hk => Kd.freshB (g := gb272) (o := .cells #[.int .i64 t262, .int .i64 t263, .int .i64 t264, .int .i64 t265, .int .i64 t266, .int .i64 t267, .int .i64 t268, .slice Ao44 t269.length co44] 29 (0, 0)) (by (with_reducible repeat (first | refine blk_drewN ?_ _ | refine blk_drew ?_ | refine blk_alloc ?_ _)); exact BK272.out) k_ hk)); (case aO => exact (by (with_reducible repeat (first | apply Kd.S_alloc | apply Kd.S_drewN | apply Kd.S_drew)); exact Kd.S_mono HO_7.out (fun k_ hk => ⟨hk.2, fun e_ => hk.1 e_⟩))); (case aS => exact (below_size (by repeat (first | (with_reducible first | exact HB.out | apply below_alloc | apply pw_below_drewN | apply below_drew1 | refine below_set ?_ GE272.out) | exact HB.out)))); (case aL => have := LMc40.out; omega); intro v274 w47 ho hb hg hat; rw [← Ny273.out] at ho; have n0_ := Aside0.mk (blk_grown (g := gb272) (o := .cells #[.int .i64 t262, .int .i64 t263, .int .i64 t264, .int .i64 t265, .int .i64 t266, .int .i64 t267, .int .i64 t268, .slice Ao44 t269.length co44] 29 (0, 0)) (by (with_reducible repeat (first | refine blk_drewN ?_ _ | refine blk_drew ?_ | refine blk_alloc ?_ _)); exact BK272.out) hg (Kd.S_away HO_7.out (fun _ hk => hk.2))); have n1_ := Aside0.mk (hb); have n2_ := Aside0.mk (ho); clear BK272; clear HB; clear HO_7; clear HO271; have BK272 := n0_; have HB := n1_; have HO275 := n2_; clear n0_ n1_ n2_; clear ho hb hg hat))
                go_roundg k1
                case measure => have := HK1.out; omega
                case rel => exact ⟨(y273), (wrap64 (x8_1 + 1)), (by first | rfl | (simp; done) | (simp [*]; done)), H', ⟨by have := HK1.out; omega⟩, ⟨by (with_reducible repeat (first | apply Kd.S_alloc | apply Kd.S_drewN | apply Kd.S_drew)); exact Kd.S_mono HO275.out (fun _ hk => trivial)⟩, ⟨by repeat (first | (with_reducible first | exact HB.out | apply below_alloc | apply pw_below_drewN | apply below_drew1 | refine below_set ?_ GE272.out) | exact HB.out)⟩⟩
              · rw [if_neg c40] at H
                exact absurd H (by simp)
        · rw [if_neg c5] at H
          exact absurd H (by simp)
      · rw [if_neg c4] at H
        have c4b0 : decide (x8_1 < (l0.length : Int)) = false := decide_eq_false c4
        clear c4
        obtain rfl := Option.some.inj H
        go_wp2
        go_ret
        exact ⟨_, by first | rfl | (simp [errW_none, errW_some] <;> rfl) | (simp [*, errW_none, errW_some] <;> rfl), by (with_reducible repeat (first | apply Kd.S_alloc | apply Kd.S_drewN | apply Kd.S_drew)); exact HO_7.out, by repeat (first | (with_reducible first | exact HB.out | apply below_alloc | apply pw_below_drewN | apply below_drew1) | exact HB.out)⟩

end Go.Proofs.Ytfejidinfcmfjaa.P
