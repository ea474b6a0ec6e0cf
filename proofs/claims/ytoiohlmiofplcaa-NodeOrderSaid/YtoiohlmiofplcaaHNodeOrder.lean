/-
  The walk of NodeOrder, by the print; the ways that would answer false are closed.
-/
import Derived.Test.YtoiohlmiofplcaaPx0
import Derived.Test.YtoiohlmiofplcaaE0
import Derived.Test.YtoiohlmiofplcaaFsextonref09Big
import Derived.Test.YtoiohlmiofplcaaFnodePut
import Derived.Test.YtoiohlmiofplcaaFsextonref09Same
import Derived.Test.YtoiohlmiofplcaaFnodeIs
import Derived.Test.YtoiohlmiofplcaaHnodes
namespace Go.Proofs.Ytoiohlmiofplcaa.P
open Go.RowKit Go.Proofs.YtoiohlmiofplcaaW.PrintWords Go.Proofs.YtoiohlmiofplcaaW.PrintLast Go.Proofs.YtoiohlmiofplcaaW.PrintMore
attribute [local go_sem] max2_int min2_int max_two min_two max_three min_three max_four min_four   -- for this text's walks alone
set_option linter.unusedVariables false
set_option linter.unusedSimpArgs false

attribute [local go_sem high] eqA24
/-! ### sextonlaw09_NodeOrder: function 7 -/
mutual
def sextonlaw09_NodeOrder.l0 : Nat → List (S26) → List (S26) → List (S26) → Int → Option (Bool)
  | 0, _, _, _, _ => none
  | k + 1, x0, x3, x4, x5 => if x5 < (x0.length : Int) then (sextonlaw09_NodeOrder.l1 k x0 x3 x4 x5 0) else ((sextonlaw09_nodes.f).bind fun t465 => (if t465 = true then ((sextonref09_Same.f k x3 x4).bind fun t466 => (if t466 = true then ((node_Is.f k x3).bind fun t467 => (if t467 = true then (some ((x3.length : Int) == (x0.length : Int))) else (some false))) else (some false))) else (some false)))
def sextonlaw09_NodeOrder.l1 : Nat → List (S26) → List (S26) → List (S26) → Int → Int → Option (Bool)
  | 0, _, _, _, _, _ => none
  | k + 1, x0, x3, x4, x5, x6 => if x6 < x5 then (if 0 ≤ x6 then (if x6 < (x0.length : Int) then (if 0 ≤ x5 then (if x5 < (x0.length : Int) then (if ((((rd_T26 x0 x6).f0.f0).toList) == (((rd_T26 x0 x5).f0.f0).toList) && (((rd_T26 x0 x6).f0.f1) == ((rd_T26 x0 x5).f0.f1))) = true then ((sextonlaw09_nodes.f).bind fun t470 => (some t470)) else (sextonlaw09_NodeOrder.l1 k x0 x3 x4 x5 (wrap64 (x6 + 1)))) else (none)) else (none)) else (none)) else (none)) else (if 0 ≤ x5 then (if x5 < (x0.length : Int) then ((node_Put.f k x3 ((rd_T26 x0 x5).f0.f0) ((rd_T26 x0 x5).f0.f1) ((rd_T26 x0 x5).f1)).bind fun t472 => (if 0 ≤ (wrap64 ((wrap64 ((x0.length : Int) - 1)) - x5)) then (if (wrap64 ((wrap64 ((x0.length : Int) - 1)) - x5)) < (x0.length : Int) then ((node_Put.f k x4 ((rd_T26 x0 (wrap64 ((wrap64 ((x0.length : Int) - 1)) - x5))).f0.f0) ((rd_T26 x0 (wrap64 ((wrap64 ((x0.length : Int) - 1)) - x5))).f0.f1) ((rd_T26 x0 (wrap64 ((wrap64 ((x0.length : Int) - 1)) - x5))).f1)).bind fun t476 => (sextonlaw09_NodeOrder.l0 k x0 t472 t476 (wrap64 (x5 + 1)))) else (none)) else (none))) else (none)) else (none))
end
def sextonlaw09_NodeOrder.f (k : Nat) (l0 : List (S26)) : Option (Bool) := (sextonref09_Big.f k l0).bind fun t464 => (if t464 = true then (some true) else (sextonlaw09_NodeOrder.l0 k l0 ([] : List (S26)) ([] : List (S26)) 0))
theorem sextonlaw09_NodeOrder.mono_l : ∀ k, (∀ y0 y1 y2 y3, LeO (sextonlaw09_NodeOrder.l0 k y0 y1 y2 y3) (sextonlaw09_NodeOrder.l0 (k + 1) y0 y1 y2 y3)) ∧ (∀ y0 y1 y2 y3 y4, LeO (sextonlaw09_NodeOrder.l1 k y0 y1 y2 y3 y4) (sextonlaw09_NodeOrder.l1 (k + 1) y0 y1 y2 y3 y4))
  | 0 => ⟨fun _ _ _ _ r h => by simp [sextonlaw09_NodeOrder.l0] at h, fun _ _ _ _ _ r h => by simp [sextonlaw09_NodeOrder.l1] at h⟩
  | k + 1 => by
    obtain ⟨ih0, ih1⟩ := sextonlaw09_NodeOrder.mono_l k
    refine ⟨?_, ?_⟩
    · intro y0 y1 y2 y3
      unfold sextonlaw09_NodeOrder.l0
      repeat' first
      | (with_reducible exact ih0 _ _ _ _)
      | (with_reducible exact ih1 _ _ _ _ _)
      | (with_reducible exact node_Is.mono _ _)
      | (with_reducible exact node_Put.mono _ _ _ _ _)
      | (with_reducible exact sextonref09_Big.mono _ _)
      | (with_reducible exact sextonref09_Same.mono _ _ _)
      | (with_reducible exact LeO.refl _)
      | (with_reducible exact LeO.none _)
      | (with_reducible refine LeO.ite ?_ ?_)
      | (with_reducible refine LeO.bind ?_ (fun _ => ?_))
      | exact ih0 _ _ _ _
      | exact ih1 _ _ _ _ _
      | exact node_Is.mono _ _
      | exact node_Put.mono _ _ _ _ _
      | exact sextonref09_Big.mono _ _
      | exact sextonref09_Same.mono _ _ _
      | exact LeO.none _
      | refine LeO.ite ?_ ?_
      | refine LeO.bind ?_ (fun _ => ?_)
    · intro y0 y1 y2 y3 y4
      unfold sextonlaw09_NodeOrder.l1
      repeat' first
      | (with_reducible exact ih0 _ _ _ _)
      | (with_reducible exact ih1 _ _ _ _ _)
      | (with_reducible exact node_Is.mono _ _)
      | (with_reducible exact node_Put.mono _ _ _ _ _)
      | (with_reducible exact sextonref09_Big.mono _ _)
      | (with_reducible exact sextonref09_Same.mono _ _ _)
      | (with_reducible exact LeO.refl _)
      | (with_reducible exact LeO.none _)
      | (with_reducible refine LeO.ite ?_ ?_)
      | (with_reducible refine LeO.bind ?_ (fun _ => ?_))
      | exact ih0 _ _ _ _
      | exact ih1 _ _ _ _ _
      | exact node_Is.mono _ _
      | exact node_Put.mono _ _ _ _ _
      | exact sextonref09_Big.mono _ _
      | exact sextonref09_Same.mono _ _ _
      | exact LeO.none _
      | refine LeO.ite ?_ ?_
      | refine LeO.bind ?_ (fun _ => ?_)
theorem sextonlaw09_NodeOrder.mono : ∀ a0 k, LeO (sextonlaw09_NodeOrder.f k a0) (sextonlaw09_NodeOrder.f (k + 1) a0) := by
  intro a0 k
  obtain ⟨ih0, ih1⟩ := sextonlaw09_NodeOrder.mono_l k
  unfold sextonlaw09_NodeOrder.f
  repeat' first
      | (with_reducible exact ih0 _ _ _ _)
      | (with_reducible exact ih1 _ _ _ _ _)
      | (with_reducible exact node_Is.mono _ _)
      | (with_reducible exact node_Put.mono _ _ _ _ _)
      | (with_reducible exact sextonref09_Big.mono _ _)
      | (with_reducible exact sextonref09_Same.mono _ _ _)
      | (with_reducible exact LeO.refl _)
      | (with_reducible exact LeO.none _)
      | (with_reducible refine LeO.ite ?_ ?_)
      | (with_reducible refine LeO.bind ?_ (fun _ => ?_))
      | exact ih0 _ _ _ _
      | exact ih1 _ _ _ _ _
      | exact node_Is.mono _ _
      | exact node_Put.mono _ _ _ _ _
      | exact sextonref09_Big.mono _ _
      | exact sextonref09_Same.mono _ _ _
      | exact LeO.none _
      | refine LeO.ite ?_ ?_
      | refine LeO.bind ?_ (fun _ => ?_)
set_option maxHeartbeats 8000000 in
set_option maxRecDepth 100000 in
theorem sextonlaw09_NodeOrder.calls (k : Nat) (A0 : Option Addr) (c0 : Nat) (l0 : List (S26)) (r : Bool) (hrt : r = true := by rfl) (w : World) (hr0 : Kd.C k26 w A0 l0.length l0) (hc0 : l0.length ≤ c0) (h : sextonlaw09_NodeOrder.f k l0 = some r) :
    Calls Try.prog 7 #[.slice A0 l0.length c0] w fun e w' => e = .returned (.bool r) ∧ Below w.heap.size w w' := by
  have HRT := Aside0.mk hrt
  have hu24 := Try.underlying24
  have hu26 := Try.underlying26
  have HR0 := Aside0.mk hr0
  have HC0 := Aside0.mk hc0
  clear hr0 hc0
  have HB := Aside0.mk (Below.refl w.heap.size w)
  have H : ((sextonref09_Big.f k l0).bind fun t464 => (if t464 = true then (some true) else (sextonlaw09_NodeOrder.l0 k l0 ([] : List (S26)) ([] : List (S26)) 0))) = some r := h
  clear h
  replace H := Option.bind_eq_some_iff.mp H
  obtain ⟨t464, A20, H⟩ := H
  replace H : (if t464 = true then (some true) else (sextonlaw09_NodeOrder.l0 k l0 ([] : List (S26)) ([] : List (S26)) 0)) = some r := H
  have A2 := Aside0.mk A20
  clear A20
  by_cases c3 : t464 = true
  · subst c3
    have H1 : (some true) = some r := by rw [if_pos rfl] at H; exact H
    clear H
    have H := H1
    clear H1
    obtain rfl := Option.some.inj H
    go_enter Try.func7, Try.ntmps7
    go_wp2_with (first | (go_at_call 13; (with_reducible refine (sextonref09_Big.calls k _ _ l0 true _ ?side1 ?side2 A2.out).mono ?_); (case side1 => repeat (first | exact HR0.out | (with_reducible refine Kd.C_alloc ?_ _) | (with_reducible refine Kd.C_drewN ?_ _) | (with_reducible refine Kd.C_drew ?_))); (case side2 => exact HC0.out); rintro e w' ⟨rfl, ⟨nd, rfl⟩⟩; (try first | exact ⟨rfl, _, World.drewN_drewN _ _ _⟩ | exact ⟨rfl, _, Eq.trans (World.drewN_drewN _ _ _) (congrArg (World.drewN _) (Nat.add_assoc _ _ _))⟩)))
    repeat (go_quiet (first | (go_at_call 13; (with_reducible refine (sextonref09_Big.calls k _ _ l0 true _ ?side1 ?side2 A2.out).mono ?_); (case side1 => repeat (first | exact HR0.out | (with_reducible refine Kd.C_alloc ?_ _) | (with_reducible refine Kd.C_drewN ?_ _) | (with_reducible refine Kd.C_drew ?_))); (case side2 => exact HC0.out); rintro e w' ⟨rfl, ⟨nd, rfl⟩⟩; (try first | exact ⟨rfl, _, World.drewN_drewN _ _ _⟩ | exact ⟨rfl, _, Eq.trans (World.drewN_drewN _ _ _) (congrArg (World.drewN _) (Nat.add_assoc _ _ _))⟩))); try go_wp2_with (first | (go_at_call 13; (with_reducible refine (sextonref09_Big.calls k _ _ l0 true _ ?side1 ?side2 A2.out).mono ?_); (case side1 => repeat (first | exact HR0.out | (with_reducible refine Kd.C_alloc ?_ _) | (with_reducible refine Kd.C_drewN ?_ _) | (with_reducible refine Kd.C_drew ?_))); (case side2 => exact HC0.out); rintro e w' ⟨rfl, ⟨nd, rfl⟩⟩; (try first | exact ⟨rfl, _, World.drewN_drewN _ _ _⟩ | exact ⟨rfl, _, Eq.trans (World.drewN_drewN _ _ _) (congrArg (World.drewN _) (Nat.add_assoc _ _ _))⟩))))
    go_ret
    exact ⟨by first | rfl | (simp [errW_none, errW_some] <;> rfl) | (simp [*, errW_none, errW_some] <;> rfl), by repeat (first | (with_reducible first | exact HB.out | apply below_alloc | apply pw_below_drewN | apply below_drew1) | exact HB.out)⟩
  · replace c3 := Bool.eq_false_iff.mpr c3
    subst c3
    have H1 : (sextonlaw09_NodeOrder.l0 k l0 ([] : List (S26)) ([] : List (S26)) 0) = some r := by rw [if_neg (show ¬ (false = true) by decide)] at H; exact H
    clear H
    have H := H1
    clear H1
    have H' := Aside0.mk H
    clear H
    go_enter Try.func7, Try.ntmps7
    go_wp2_with (first | (go_at_call 13; (with_reducible refine (sextonref09_Big.calls k _ _ l0 false _ ?side1 ?side2 A2.out).mono ?_); (case side1 => repeat (first | exact HR0.out | (with_reducible refine Kd.C_alloc ?_ _) | (with_reducible refine Kd.C_drewN ?_ _) | (with_reducible refine Kd.C_drew ?_))); (case side2 => exact HC0.out); rintro e w' ⟨rfl, ⟨nd, rfl⟩⟩; (try first | exact ⟨rfl, _, World.drewN_drewN _ _ _⟩ | exact ⟨rfl, _, Eq.trans (World.drewN_drewN _ _ _) (congrArg (World.drewN _) (Nat.add_assoc _ _ _))⟩)))
    repeat (go_quiet (first | (go_at_call 13; (with_reducible refine (sextonref09_Big.calls k _ _ l0 false _ ?side1 ?side2 A2.out).mono ?_); (case side1 => repeat (first | exact HR0.out | (with_reducible refine Kd.C_alloc ?_ _) | (with_reducible refine Kd.C_drewN ?_ _) | (with_reducible refine Kd.C_drew ?_))); (case side2 => exact HC0.out); rintro e w' ⟨rfl, ⟨nd, rfl⟩⟩; (try first | exact ⟨rfl, _, World.drewN_drewN _ _ _⟩ | exact ⟨rfl, _, Eq.trans (World.drewN_drewN _ _ _) (congrArg (World.drewN _) (Nat.add_assoc _ _ _))⟩))); try go_wp2_with (first | (go_at_call 13; (with_reducible refine (sextonref09_Big.calls k _ _ l0 false _ ?side1 ?side2 A2.out).mono ?_); (case side1 => repeat (first | exact HR0.out | (with_reducible refine Kd.C_alloc ?_ _) | (with_reducible refine Kd.C_drewN ?_ _) | (with_reducible refine Kd.C_drew ?_))); (case side2 => exact HC0.out); rintro e w' ⟨rfl, ⟨nd, rfl⟩⟩; (try first | exact ⟨rfl, _, World.drewN_drewN _ _ _⟩ | exact ⟨rfl, _, Eq.trans (World.drewN_drewN _ _ _) (congrArg (World.drewN _) (Nat.add_assoc _ _ _))⟩))))
    go_loopg [3, 4, 5] k (fun kq v3 v4 v5 w' => ∃ (x3_1 : List (S26)) (x4_1 : List (S26)) (x5_1 : Int), v5 = .int .i64 x5_1 ∧ Aside0 (sextonlaw09_NodeOrder.l0 kq l0 x3_1 x4_1 x5_1 = some r) ∧ Aside0 (kq ≤ k) ∧ Aside0 (Kd.R k26 26 w' w.heap.size (fun k_ => some k_ ≠ (v4 : Value).ownBlock) v3 x3_1) ∧ Aside0 (Kd.R k26 26 w' w.heap.size (fun k_ => some k_ ≠ (v3 : Value).ownBlock) v4 x4_1) ∧ Aside0 (Below w.heap.size w w'))
    case atStart => exact ⟨(([] : List (S26))), (([] : List (S26))), (0), (by first | rfl | (simp; done) | (simp [*]; done)), H', ⟨Nat.le_refl _⟩, ⟨by first | exact Kd.R_nil _ _ _ _ _ | exact Kd.N_nil _ _ _ _ _ | exact Kd.V_nil _ _ _ _ _ | exact Kd.Q_nil _ _ _ _ _ | exact Kd.S_nil _ _ _ _ _⟩, ⟨by first | exact Kd.R_nil _ _ _ _ _ | exact Kd.N_nil _ _ _ _ _ | exact Kd.V_nil _ _ _ _ _ | exact Kd.Q_nil _ _ _ _ _ | exact Kd.S_nil _ _ _ _ _⟩, ⟨by repeat (first | (with_reducible first | exact HB.out | apply below_alloc | apply pw_below_drewN | apply below_drew1) | exact HB.out)⟩⟩
    case round =>
      clear H'
      try clear p2
      try clear c3
      obtain ⟨x3_1, x4_1, x5_1, rfl, HA, HK1, HO_3, HO_4, HB⟩ := hrel
      cases gk with
      | zero => exact absurd HA.out (by simp [sextonlaw09_NodeOrder.l0])
      | succ k1 =>
        have H := HA.out
        clear HA
        simp only [sextonlaw09_NodeOrder.l0] at H
        by_cases c4 : x5_1 < (l0.length : Int)
        · rw [if_pos c4] at H
          have c4b0 : decide (x5_1 < (l0.length : Int)) = true := decide_eq_true c4
          clear c4
          have H' := Aside0.mk H
          clear H
          go_wp2
          repeat (go_quiet (fail); try go_wp2)
          go_loopg [6] k1 (fun kq v6 w' => ∃ (x6_2 : Int), v6 = .int .i64 x6_2 ∧ Aside0 (sextonlaw09_NodeOrder.l1 kq l0 x3_1 x4_1 x5_1 x6_2 = some r) ∧ Aside0 (kq ≤ k1) ∧ Aside0 (Kd.R k26 26 w' w.heap.size (fun k_ => some k_ ≠ (u4 : Value).ownBlock) u3 x3_1) ∧ Aside0 (Kd.R k26 26 w' w.heap.size (fun k_ => some k_ ≠ (u3 : Value).ownBlock) u4 x4_1) ∧ Aside0 (Below w.heap.size w w'))
          case atStart => exact ⟨(0), (by first | rfl | (simp; done) | (simp [*]; done)), H', ⟨Nat.le_refl _⟩, ⟨by (with_reducible repeat (first | apply Kd.R_alloc | apply Kd.R_drewN | apply Kd.R_drew)); exact HO_3.out⟩, ⟨by (with_reducible repeat (first | apply Kd.R_alloc | apply Kd.R_drewN | apply Kd.R_drew)); exact HO_4.out⟩, ⟨by repeat (first | (with_reducible first | exact HB.out | apply below_alloc | apply pw_below_drewN | apply below_drew1) | exact HB.out)⟩⟩
          case round =>
            clear H'
            try clear p2
            try clear c3
            try clear c4
            try clear c4b0
            try clear p2
            obtain ⟨x6_2, rfl, HA, HK2, HO_3, HO_4, HB⟩ := hrel
            cases gk with
            | zero => exact absurd HA.out (by simp [sextonlaw09_NodeOrder.l1])
            | succ k2 =>
              have H := HA.out
              clear HA
              simp only [sextonlaw09_NodeOrder.l1] at H
              by_cases c5 : x6_2 < x5_1
              · rw [if_pos c5] at H
                have c5b0 : decide (x6_2 < x5_1) = true := decide_eq_true c5
                clear c5
                by_cases c6 : 0 ≤ x6_2
                · rw [if_pos c6] at H
                  have c6b0 : decide (0 ≤ x6_2) = true := decide_eq_true c6
                  clear c6
                  by_cases c7 : x6_2 < (l0.length : Int)
                  · rw [if_pos c7] at H
                    have c7b0 : decide (x6_2 < (l0.length : Int)) = true := decide_eq_true c7
                    clear c7
                    by_cases c8 : 0 ≤ x5_1
                    · rw [if_pos c8] at H
                      have c8b0 : decide (0 ≤ x5_1) = true := decide_eq_true c8
                      clear c8
                      by_cases c9 : x5_1 < (l0.length : Int)
                      · rw [if_pos c9] at H
                        have c9b0 : decide (x5_1 < (l0.length : Int)) = true := decide_eq_true c9
                        clear c9
                        by_cases c10 : ((((rd_T26 l0 x6_2).f0.f0).toList) == (((rd_T26 l0 x5_1).f0.f0).toList) && (((rd_T26 l0 x6_2).f0.f1) == ((rd_T26 l0 x5_1).f0.f1))) = true
                        · rw [if_pos c10] at H
                          have c10b0 : ((((rd_T26 l0 x6_2).f0.f0).toList) == (((rd_T26 l0 x5_1).f0.f0).toList) && (((rd_T26 l0 x6_2).f0.f1) == ((rd_T26 l0 x5_1).f0.f1))) = true := c10
                          (try (have c10b1 : decide ((((rd_T26 l0 x6_2).f0.f0).toList) = (((rd_T26 l0 x5_1).f0.f0).toList) && (((rd_T26 l0 x6_2).f0.f1) == ((rd_T26 l0 x5_1).f0.f1))) = true := by simpa using c10))
                          (try (have c10b2 : ((((rd_T26 l0 x6_2).f0.f0).toList) == (((rd_T26 l0 x5_1).f0.f0).toList) && (((rd_T26 l0 x6_2).f0.f1) == ((rd_T26 l0 x5_1).f0.f1))) = true := by simpa using c10))
                          clear c10
                          replace H := Option.bind_eq_some_iff.mp H
                          obtain ⟨t470, A110, H⟩ := H
                          replace H : (some t470) = some r := H
                          have A11 := Aside0.mk A110
                          clear A110
                          obtain rfl := Option.some.inj H
                          have p468 : 0 ≤ (x6_2 : Int) := of_decide_eq_true (by first | (with_reducible assumption) | assumption)
                          have q468 : x6_2 < (l0.length : Int) := of_decide_eq_true (by first | (with_reducible assumption) | assumption)
                          obtain ⟨ad468, e468, hx468_0, hx468_1, hx468_2⟩ := at_T26 HR0.out x6_2 p468 q468
                          cases e468
                          replace hx468_0 := (HB.out.cell (World.block_lt_of_cell? w _ hx468_0)).trans hx468_0
                          replace hx468_1 := (HB.out.cell (World.block_lt_of_cell? w _ hx468_1)).trans hx468_1
                          replace hx468_2 := (HB.out.cell (World.block_lt_of_cell? w _ hx468_2)).trans hx468_2
                          replace p468 := eq_true p468
                          replace q468 := eq_true q468
                          have p469 : 0 ≤ (x5_1 : Int) := of_decide_eq_true (by first | (with_reducible assumption) | assumption)
                          have q469 : x5_1 < (l0.length : Int) := of_decide_eq_true (by first | (with_reducible assumption) | assumption)
                          obtain ⟨ad469, e469, hx469_0, hx469_1, hx469_2⟩ := at_T26 HR0.out x5_1 p469 q469
                          obtain rfl : ad468 = ad469 := (by injection e469)
                          replace hx469_0 := (HB.out.cell (World.block_lt_of_cell? w _ hx469_0)).trans hx469_0
                          replace hx469_1 := (HB.out.cell (World.block_lt_of_cell? w _ hx469_1)).trans hx469_1
                          replace hx469_2 := (HB.out.cell (World.block_lt_of_cell? w _ hx469_2)).trans hx469_2
                          replace p469 := eq_true p469
                          replace q469 := eq_true q469
                          go_wp2_with (first | (go_at_call 29; (with_reducible refine (sextonlaw09_nodes.calls  t470 _ A11.out).mono ?_); rintro e w12 ⟨rfl, hb⟩; have n0_ := Aside0.mk (Kd.R_below (by (with_reducible repeat (first | apply Kd.R_alloc | apply Kd.R_drewN | apply Kd.R_drew)); exact HO_3.out) hb); have n1_ := Aside0.mk (Kd.R_below (by (with_reducible repeat (first | apply Kd.R_alloc | apply Kd.R_drewN | apply Kd.R_drew)); exact HO_4.out) hb); have n2_ := Aside0.mk (below_step (by repeat (first | (with_reducible first | exact HB.out | apply below_alloc | apply pw_below_drewN | apply below_drew1) | exact HB.out)) hb); clear HO_3; clear HO_4; clear HB; have HO_3 := n0_; have HO_4 := n1_; have HB := n2_; clear n0_ n1_ n2_; (try clear hb); (try clear hb2); (try clear hk); (try clear hi)))
                          repeat (go_quiet (first | (go_at_call 29; (with_reducible refine (sextonlaw09_nodes.calls  t470 _ A11.out).mono ?_); rintro e w12 ⟨rfl, hb⟩; have n0_ := Aside0.mk (Kd.R_below (by (with_reducible repeat (first | apply Kd.R_alloc | apply Kd.R_drewN | apply Kd.R_drew)); exact HO_3.out) hb); have n1_ := Aside0.mk (Kd.R_below (by (with_reducible repeat (first | apply Kd.R_alloc | apply Kd.R_drewN | apply Kd.R_drew)); exact HO_4.out) hb); have n2_ := Aside0.mk (below_step (by repeat (first | (with_reducible first | exact HB.out | apply below_alloc | apply pw_below_drewN | apply below_drew1) | exact HB.out)) hb); clear HO_3; clear HO_4; clear HB; have HO_3 := n0_; have HO_4 := n1_; have HB := n2_; clear n0_ n1_ n2_; (try clear hb); (try clear hb2); (try clear hk); (try clear hi))); try go_wp2_with (first | (go_at_call 29; (with_reducible refine (sextonlaw09_nodes.calls  t470 _ A11.out).mono ?_); rintro e w12 ⟨rfl, hb⟩; have n0_ := Aside0.mk (Kd.R_below (by (with_reducible repeat (first | apply Kd.R_alloc | apply Kd.R_drewN | apply Kd.R_drew)); exact HO_3.out) hb); have n1_ := Aside0.mk (Kd.R_below (by (with_reducible repeat (first | apply Kd.R_alloc | apply Kd.R_drewN | apply Kd.R_drew)); exact HO_4.out) hb); have n2_ := Aside0.mk (below_step (by repeat (first | (with_reducible first | exact HB.out | apply below_alloc | apply pw_below_drewN | apply below_drew1) | exact HB.out)) hb); clear HO_3; clear HO_4; clear HB; have HO_3 := n0_; have HO_4 := n1_; have HB := n2_; clear n0_ n1_ n2_; (try clear hb); (try clear hb2); (try clear hk); (try clear hi))))
                          go_ret
                          exact ⟨by first | rfl | (simp [errW_none, errW_some] <;> rfl) | (simp [*, errW_none, errW_some] <;> rfl), by repeat (first | (with_reducible first | exact HB.out | apply below_alloc | apply pw_below_drewN | apply below_drew1) | exact HB.out)⟩
                        · rw [if_neg c10] at H
                          have c10b0 : ((((rd_T26 l0 x6_2).f0.f0).toList) == (((rd_T26 l0 x5_1).f0.f0).toList) && (((rd_T26 l0 x6_2).f0.f1) == ((rd_T26 l0 x5_1).f0.f1))) = false := by simpa using c10
                          (try (have c10b1 : decide ((((rd_T26 l0 x6_2).f0.f0).toList) = (((rd_T26 l0 x5_1).f0.f0).toList) && (((rd_T26 l0 x6_2).f0.f1) == ((rd_T26 l0 x5_1).f0.f1))) = false := by simpa using c10))
                          (try (have c10b2 : ((((rd_T26 l0 x6_2).f0.f0).toList) == (((rd_T26 l0 x5_1).f0.f0).toList) && (((rd_T26 l0 x6_2).f0.f1) == ((rd_T26 l0 x5_1).f0.f1))) = false := by simpa using c10))
                          (try (have c10b3 : ¬ ((((rd_T26 l0 x6_2).f0.f0).toList) = (((rd_T26 l0 x5_1).f0.f0).toList) && (((rd_T26 l0 x6_2).f0.f1) == ((rd_T26 l0 x5_1).f0.f1))) := by simpa using c10))
                          clear c10
                          have H' := Aside0.mk H
                          clear H
                          have p468 : 0 ≤ (x6_2 : Int) := of_decide_eq_true (by first | (with_reducible assumption) | assumption)
                          have q468 : x6_2 < (l0.length : Int) := of_decide_eq_true (by first | (with_reducible assumption) | assumption)
                          obtain ⟨ad468, e468, hx468_0, hx468_1, hx468_2⟩ := at_T26 HR0.out x6_2 p468 q468
                          cases e468
                          replace hx468_0 := (HB.out.cell (World.block_lt_of_cell? w _ hx468_0)).trans hx468_0
                          replace hx468_1 := (HB.out.cell (World.block_lt_of_cell? w _ hx468_1)).trans hx468_1
                          replace hx468_2 := (HB.out.cell (World.block_lt_of_cell? w _ hx468_2)).trans hx468_2
                          replace p468 := eq_true p468
                          replace q468 := eq_true q468
                          have p469 : 0 ≤ (x5_1 : Int) := of_decide_eq_true (by first | (with_reducible assumption) | assumption)
                          have q469 : x5_1 < (l0.length : Int) := of_decide_eq_true (by first | (with_reducible assumption) | assumption)
                          obtain ⟨ad469, e469, hx469_0, hx469_1, hx469_2⟩ := at_T26 HR0.out x5_1 p469 q469
                          obtain rfl : ad468 = ad469 := (by injection e469)
                          replace hx469_0 := (HB.out.cell (World.block_lt_of_cell? w _ hx469_0)).trans hx469_0
                          replace hx469_1 := (HB.out.cell (World.block_lt_of_cell? w _ hx469_1)).trans hx469_1
                          replace hx469_2 := (HB.out.cell (World.block_lt_of_cell? w _ hx469_2)).trans hx469_2
                          replace p469 := eq_true p469
                          replace q469 := eq_true q469
                          go_wp2
                          repeat (go_quiet (fail); try go_wp2)
                          go_roundg k2
                          case measure => have := HK1.out; have := HK2.out; omega
                          case rel => exact ⟨(wrap64 (x6_2 + 1)), (by first | rfl | (simp; done) | (simp [*]; done)), H', ⟨by have := HK1.out; have := HK2.out; omega⟩, ⟨by (with_reducible repeat (first | apply Kd.R_alloc | apply Kd.R_drewN | apply Kd.R_drew)); exact HO_3.out⟩, ⟨by (with_reducible repeat (first | apply Kd.R_alloc | apply Kd.R_drewN | apply Kd.R_drew)); exact HO_4.out⟩, ⟨by repeat (first | (with_reducible first | exact HB.out | apply below_alloc | apply pw_below_drewN | apply below_drew1) | exact HB.out)⟩⟩
                      · rw [if_neg c9] at H
                        exact absurd H (by simp)
                    · rw [if_neg c8] at H
                      exact absurd H (by simp)
                  · rw [if_neg c7] at H
                    exact absurd H (by simp)
                · rw [if_neg c6] at H
                  exact absurd H (by simp)
              · rw [if_neg c5] at H
                have c5b0 : decide (x6_2 < x5_1) = false := decide_eq_false c5
                clear c5
                by_cases c13 : 0 ≤ x5_1
                · rw [if_pos c13] at H
                  have c13b0 : decide (0 ≤ x5_1) = true := decide_eq_true c13
                  clear c13
                  by_cases c14 : x5_1 < (l0.length : Int)
                  · rw [if_pos c14] at H
                    have c14b0 : decide (x5_1 < (l0.length : Int)) = true := decide_eq_true c14
                    clear c14
                    replace H := Option.bind_eq_some_iff.mp H
                    obtain ⟨t472, A150, H⟩ := H
                    replace H : (if 0 ≤ (wrap64 ((wrap64 ((l0.length : Int) - 1)) - x5_1)) then (if (wrap64 ((wrap64 ((l0.length : Int) - 1)) - x5_1)) < (l0.length : Int) then ((node_Put.f k2 x4_1 ((rd_T26 l0 (wrap64 ((wrap64 ((l0.length : Int) - 1)) - x5_1))).f0.f0) ((rd_T26 l0 (wrap64 ((wrap64 ((l0.length : Int) - 1)) - x5_1))).f0.f1) ((rd_T26 l0 (wrap64 ((wrap64 ((l0.length : Int) - 1)) - x5_1))).f1)).bind fun t476 => (sextonlaw09_NodeOrder.l0 k2 l0 t472 t476 (wrap64 (x5_1 + 1)))) else (none)) else (none)) = some r := H
                    have A15 := Aside0.mk A150
                    clear A150
                    obtain ⟨ji16, hji16⟩ : ∃ j_ : Int, (wrap64 ((wrap64 ((l0.length : Int) - 1)) - x5_1)) = j_ := ⟨_, rfl⟩
                    replace H : (if 0 ≤ (ji16) then (if (ji16) < (l0.length : Int) then ((node_Put.f k2 x4_1 ((rd_T26 l0 (ji16)).f0.f0) ((rd_T26 l0 (ji16)).f0.f1) ((rd_T26 l0 (ji16)).f1)).bind fun t476 => (sextonlaw09_NodeOrder.l0 k2 l0 t472 t476 (wrap64 (x5_1 + 1)))) else (none)) else (none)) = some r := by first | (rw [hji16] at H; exact H) | (simp only [hji16] at H ⊢; exact H)
                    (try rw [hji16] at A15)
                    have hji16w : (IntKind.i64.wrap ((wrap64 ((l0.length : Int) - 1)) - x5_1)) = ji16 := (i64_w _).trans hji16
                    by_cases c17 : 0 ≤ (ji16)
                    · rw [if_pos c17] at H
                      have c17b0 : decide (0 ≤ (ji16)) = true := decide_eq_true c17
                      clear c17
                      by_cases c18 : (ji16) < (l0.length : Int)
                      · rw [if_pos c18] at H
                        have c18b0 : decide ((ji16) < (l0.length : Int)) = true := decide_eq_true c18
                        clear c18
                        replace H := Option.bind_eq_some_iff.mp H
                        obtain ⟨t476, A190, H⟩ := H
                        replace H : (sextonlaw09_NodeOrder.l0 k2 l0 t472 t476 (wrap64 (x5_1 + 1))) = some r := H
                        have A19 := Aside0.mk A190
                        clear A190
                        have H' := Aside0.mk H
                        clear H
                        have p471 : 0 ≤ (x5_1 : Int) := of_decide_eq_true (by first | (with_reducible assumption) | assumption)
                        have q471 : x5_1 < (l0.length : Int) := of_decide_eq_true (by first | (with_reducible assumption) | assumption)
                        obtain ⟨ad471, e471, hx471_0, hx471_1, hx471_2⟩ := at_T26 HR0.out x5_1 p471 q471
                        cases e471
                        replace hx471_0 := (HB.out.cell (World.block_lt_of_cell? w _ hx471_0)).trans hx471_0
                        replace hx471_1 := (HB.out.cell (World.block_lt_of_cell? w _ hx471_1)).trans hx471_1
                        replace hx471_2 := (HB.out.cell (World.block_lt_of_cell? w _ hx471_2)).trans hx471_2
                        replace p471 := eq_true p471
                        replace q471 := eq_true q471
                        obtain ⟨Ao20, co20, eo20⟩ := Kd.R_slice HO_3.out
                        subst eo20
                        go_wp2_with (first | (go_at_call 17; (with_reducible refine (node_Put.calls k2 (fun k_ => some k_ = (.slice Ao20 x3_1.length co20 : Value).ownBlock) _ _ x3_1 ((rd_T26 l0 x5_1).f0.f0) ((rd_T26 l0 x5_1).f0.f1) ((rd_T26 l0 x5_1).f1) t472 _ ?side1 A15.out).mono ?_); (case side1 => exact Kd.R_V (Kd.R_tight rfl (HO_3.out))); rintro e w21 ⟨v473, rfl, ho0, hb⟩; have n0_ := Aside0.mk (Kd.R_elder' (by (with_reducible repeat (first | apply Kd.R_alloc | apply Kd.R_drewN | apply Kd.R_drew)); exact HO_3.out) (Kd.R_base ho0) hb); have n1_ := Aside0.mk (Kd.R_elder' (by (with_reducible repeat (first | apply Kd.R_alloc | apply Kd.R_drewN | apply Kd.R_drew)); exact HO_4.out) (Kd.R_base ho0) hb); have n2_ := Aside0.mk (Kd.R_lower (Kd.R_new' (Kd.R_new' (Kd.R_mono (ok' := fun k_ => True) ho0 (fun _ hk_ => trivial)) (Kd.R_lt (by (with_reducible repeat (first | apply Kd.R_alloc | apply Kd.R_drewN | apply Kd.R_drew)); exact HO_3.out))) (Kd.R_lt (by (with_reducible repeat (first | apply Kd.R_alloc | apply Kd.R_drewN | apply Kd.R_drew)); exact HO_4.out))) (below_size (by repeat (first | (with_reducible first | exact HB.out | apply below_alloc | apply pw_below_drewN | apply below_drew1) | exact HB.out)))); have n3_ := Aside0.mk (below_step (by repeat (first | (with_reducible first | exact HB.out | apply below_alloc | apply pw_below_drewN | apply below_drew1) | exact HB.out)) hb); clear HO_3; clear HO_4; clear HB; have HO_3 := n0_; have HO_4 := n1_; have HO474 := n2_; have HB := n3_; clear n0_ n1_ n2_ n3_; (try clear hb); (try clear hb2); (try clear hk); (try clear hi); (try clear ho0); have p475 : 0 ≤ ((ji16) : Int) := of_decide_eq_true (by first | (with_reducible assumption) | assumption); have q475 : (ji16) < (l0.length : Int) := of_decide_eq_true (by first | (with_reducible assumption) | assumption); obtain ⟨ad475, e475, hx475_0, hx475_1, hx475_2⟩ := at_T26 HR0.out (ji16) p475 q475; obtain rfl : ad471 = ad475 := (by injection e475); replace hx475_0 := (HB.out.cell (World.block_lt_of_cell? w _ hx475_0)).trans hx475_0; replace hx475_1 := (HB.out.cell (World.block_lt_of_cell? w _ hx475_1)).trans hx475_1; replace hx475_2 := (HB.out.cell (World.block_lt_of_cell? w _ hx475_2)).trans hx475_2; replace p475 := eq_true p475; replace q475 := eq_true q475; obtain ⟨Ao22, co22, eo22⟩ := Kd.R_slice HO_4.out; subst eo22) | (go_at_call 17; (with_reducible refine (node_Put.calls k2 (fun k_ => some k_ = (.slice Ao22 x4_1.length co22 : Value).ownBlock) _ _ x4_1 ((rd_T26 l0 (ji16)).f0.f0) ((rd_T26 l0 (ji16)).f0.f1) ((rd_T26 l0 (ji16)).f1) t476 _ ?side1 A19.out).mono ?_); (case side1 => exact Kd.R_V (Kd.R_tight rfl (HO_4.out))); rintro e w23 ⟨v477, rfl, ho0, hb⟩; have n0_ := Aside0.mk (Kd.R_elder' (by (with_reducible repeat (first | apply Kd.R_alloc | apply Kd.R_drewN | apply Kd.R_drew)); exact HO_3.out) (Kd.R_base ho0) hb); have n1_ := Aside0.mk (Kd.R_elder' (by (with_reducible repeat (first | apply Kd.R_alloc | apply Kd.R_drewN | apply Kd.R_drew)); exact HO_4.out) (Kd.R_base ho0) hb); have n2_ := Aside0.mk (Kd.R_elder' (by (with_reducible repeat (first | apply Kd.R_alloc | apply Kd.R_drewN | apply Kd.R_drew)); exact HO474.out) (Kd.R_base ho0) hb); have n3_ := Aside0.mk (Kd.R_lower (Kd.R_new' (Kd.R_new' (Kd.R_new' (Kd.R_mono (ok' := fun k_ => True) ho0 (fun _ hk_ => trivial)) (Kd.R_lt (by (with_reducible repeat (first | apply Kd.R_alloc | apply Kd.R_drewN | apply Kd.R_drew)); exact HO_3.out))) (Kd.R_lt (by (with_reducible repeat (first | apply Kd.R_alloc | apply Kd.R_drewN | apply Kd.R_drew)); exact HO_4.out))) (Kd.R_lt (by (with_reducible repeat (first | apply Kd.R_alloc | apply Kd.R_drewN | apply Kd.R_drew)); exact HO474.out))) (below_size (by repeat (first | (with_reducible first | exact HB.out | apply below_alloc | apply pw_below_drewN | apply below_drew1) | exact HB.out)))); have n4_ := Aside0.mk (below_step (by repeat (first | (with_reducible first | exact HB.out | apply below_alloc | apply pw_below_drewN | apply below_drew1) | exact HB.out)) hb); clear HO_3; clear HO_4; clear HO474; clear HB; have HO_3 := n0_; have HO_4 := n1_; have HO474 := n2_; have HO478 := n3_; have HB := n4_; clear n0_ n1_ n2_ n3_ n4_; (try clear hb); (try clear hb2); (try clear hk); (try clear hi); (try clear ho0)))
                        repeat (go_quiet (first | (go_at_call 17; (with_reducible refine (node_Put.calls k2 (fun k_ => some k_ = (.slice Ao20 x3_1.length co20 : Value).ownBlock) _ _ x3_1 ((rd_T26 l0 x5_1).f0.f0) ((rd_T26 l0 x5_1).f0.f1) ((rd_T26 l0 x5_1).f1) t472 _ ?side1 A15.out).mono ?_); (case side1 => exact Kd.R_V (Kd.R_tight rfl (HO_3.out))); rintro e w21 ⟨v473, rfl, ho0, hb⟩; have n0_ := Aside0.mk (Kd.R_elder' (by (with_reducible repeat (first | apply Kd.R_alloc | apply Kd.R_drewN | apply Kd.R_drew)); exact HO_3.out) (Kd.R_base ho0) hb); have n1_ := Aside0.mk (Kd.R_elder' (by (with_reducible repeat (first | apply Kd.R_alloc | apply Kd.R_drewN | apply Kd.R_drew)); exact HO_4.out) (Kd.R_base ho0) hb); have n2_ := Aside0.mk (Kd.R_lower (Kd.R_new' (Kd.R_new' (Kd.R_mono (ok' := fun k_ => True) ho0 (fun _ hk_ => trivial)) (Kd.R_lt (by (with_reducible repeat (first | apply Kd.R_alloc | apply Kd.R_drewN | apply Kd.R_drew)); exact HO_3.out))) (Kd.R_lt (by (with_reducible repeat (first | apply Kd.R_alloc | apply Kd.R_drewN | apply Kd.R_drew)); exact HO_4.out))) (below_size (by repeat (first | (with_reducible first | exact HB.out | apply below_alloc | apply pw_below_drewN | apply below_drew1) | exact HB.out)))); have n3_ := Aside0.mk (below_step (by repeat (first | (with_reducible first | exact HB.out | apply below_alloc | apply pw_below_drewN | apply below_drew1) | exact HB.out)) hb); clear HO_3; clear HO_4; clear HB; have HO_3 := n0_; have HO_4 := n1_; have HO474 := n2_; have HB := n3_; clear n0_ n1_ n2_ n3_; (try clear hb); (try clear hb2); (try clear hk); (try clear hi); (try clear ho0); have p475 : 0 ≤ ((ji16) : Int) := of_decide_eq_true (by first | (with_reducible assumption) | assumption); have q475 : (ji16) < (l0.length : Int) := of_decide_eq_true (by first | (with_reducible assumption) | assumption); obtain ⟨ad475, e475, hx475_0, hx475_1, hx475_2⟩ := at_T26 HR0.out (ji16) p475 q475; obtain rfl : ad471 = ad475 := (by injection e475); replace hx475_0 := (HB.out.cell (World.block_lt_of_cell? w _ hx475_0)).trans hx475_0; replace hx475_1 := (HB.out.cell (World.block_lt_of_cell? w _ hx475_1)).trans hx475_1; replace hx475_2 := (HB.out.cell (World.block_lt_of_cell? w _ hx475_2)).trans hx475_2; replace p475 := eq_true p475; replace q475 := eq_true q475; obtain ⟨Ao22, co22, eo22⟩ := Kd.R_slice HO_4.out; subst eo22) | (go_at_call 17; (with_reducible refine (node_Put.calls k2 (fun k_ => some k_ = (.slice Ao22 x4_1.length co22 : Value).ownBlock) _ _ x4_1 ((rd_T26 l0 (ji16)).f0.f0) ((rd_T26 l0 (ji16)).f0.f1) ((rd_T26 l0 (ji16)).f1) t476 _ ?side1 A19.out).mono ?_); (case side1 => exact Kd.R_V (Kd.R_tight rfl (HO_4.out))); rintro e w23 ⟨v477, rfl, ho0, hb⟩; have n0_ := Aside0.mk (Kd.R_elder' (by (with_reducible repeat (first | apply Kd.R_alloc | apply Kd.R_drewN | apply Kd.R_drew)); exact HO_3.out) (Kd.R_base ho0) hb); have n1_ := Aside0.mk (Kd.R_elder' (by (with_reducible repeat (first | apply Kd.R_alloc | apply Kd.R_drewN | apply Kd.R_drew)); exact HO_4.out) (Kd.R_base ho0) hb); have n2_ := Aside0.mk (Kd.R_elder' (by (with_reducible repeat (first | apply Kd.R_alloc | apply Kd.R_drewN | apply Kd.R_drew)); exact HO474.out) (Kd.R_base ho0) hb); have n3_ := Aside0.mk (Kd.R_lower (Kd.R_new' (Kd.R_new' (Kd.R_new' (Kd.R_mono (ok' := fun k_ => True) ho0 (fun _ hk_ => trivial)) (Kd.R_lt (by (with_reducible repeat (first | apply Kd.R_alloc | apply Kd.R_drewN | apply Kd.R_drew)); exact HO_3.out))) (Kd.R_lt (by (with_reducible repeat (first | apply Kd.R_alloc | apply Kd.R_drewN | apply Kd.R_drew)); exact HO_4.out))) (Kd.R_lt (by (with_reducible repeat (first | apply Kd.R_alloc | apply Kd.R_drewN | apply Kd.R_drew)); exact HO474.out))) (below_size (by repeat (first | (with_reducible first | exact HB.out | apply below_alloc | apply pw_below_drewN | apply below_drew1) | exact HB.out)))); have n4_ := Aside0.mk (below_step (by repeat (first | (with_reducible first | exact HB.out | apply below_alloc | apply pw_below_drewN | apply below_drew1) | exact HB.out)) hb); clear HO_3; clear HO_4; clear HO474; clear HB; have HO_3 := n0_; have HO_4 := n1_; have HO474 := n2_; have HO478 := n3_; have HB := n4_; clear n0_ n1_ n2_ n3_ n4_; (try clear hb); (try clear hb2); (try clear hk); (try clear hi); (try clear ho0))); try go_wp2_with (first | (go_at_call 17; (with_reducible refine (node_Put.calls k2 (fun k_ => some k_ = (.slice Ao20 x3_1.length co20 : Value).ownBlock) _ _ x3_1 ((rd_T26 l0 x5_1).f0.f0) ((rd_T26 l0 x5_1).f0.f1) ((rd_T26 l0 x5_1).f1) t472 _ ?side1 A15.out).mono ?_); (case side1 => exact Kd.R_V (Kd.R_tight rfl (HO_3.out))); rintro e w21 ⟨v473, rfl, ho0, hb⟩; have n0_ := Aside0.mk (Kd.R_elder' (by (with_reducible repeat (first | apply Kd.R_alloc | apply Kd.R_drewN | apply Kd.R_drew)); exact HO_3.out) (Kd.R_base ho0) hb); have n1_ := Aside0.mk (Kd.R_elder' (by (with_reducible repeat (first | apply Kd.R_alloc | apply Kd.R_drewN | apply Kd.R_drew)); exact HO_4.out) (Kd.R_base ho0) hb); have n2_ := Aside0.mk (Kd.R_lower (Kd.R_new' (Kd.R_new' (Kd.R_mono (ok' := fun k_ => True) ho0 (fun _ hk_ => trivial)) (Kd.R_lt (by (with_reducible repeat (first | apply Kd.R_alloc | apply Kd.R_drewN | apply Kd.R_drew)); exact HO_3.out))) (Kd.R_lt (by (with_reducible repeat (first | apply Kd.R_alloc | apply Kd.R_drewN | apply Kd.R_drew)); exact HO_4.out))) (below_size (by repeat (first | (with_reducible first | exact HB.out | apply below_alloc | apply pw_below_drewN | apply below_drew1) | exact HB.out)))); have n3_ := Aside0.mk (below_step (by repeat (first | (with_reducible first | exact HB.out | apply below_alloc | apply pw_below_drewN | apply below_drew1) | exact HB.out)) hb); clear HO_3; clear HO_4; clear HB; have HO_3 := n0_; have HO_4 := n1_; have HO474 := n2_; have HB := n3_; clear n0_ n1_ n2_ n3_; (try clear hb); (try clear hb2); (try clear hk); (try clear hi); (try clear ho0); have p475 : 0 ≤ ((ji16) : Int) := of_decide_eq_true (by first | (with_reducible assumption) | assumption); have q475 : (ji16) < (l0.length : Int) := of_decide_eq_true (by first | (with_reducible assumption) | assumption); obtain ⟨ad475, e475, hx475_0, hx475_1, hx475_2⟩ := at_T26 HR0.out (ji16) p475 q475; obtain rfl : ad471 = ad475 := (by injection e475); replace hx475_0 := (HB.out.cell (World.block_lt_of_cell? w _ hx475_0)).trans hx475_0; replace hx475_1 := (HB.out.cell (World.block_lt_of_cell? w _ hx475_1)).trans hx475_1; replace hx475_2 := (HB.out.cell (World.block_lt_of_cell? w _ hx475_2)).trans hx475_2; replace p475 := eq_true p475; replace q475 := eq_true q475; obtain ⟨Ao22, co22, eo22⟩ := Kd.R_slice HO_4.out; subst eo22) | (go_at_call 17; (with_reducible refine (node_Put.calls k2 (fun k_ => some k_ = (.slice Ao22 x4_1.length co22 : Value).ownBlock) _ _ x4_1 ((rd_T26 l0 (ji16)).f0.f0) ((rd_T26 l0 (ji16)).f0.f1) ((rd_T26 l0 (ji16)).f1) t476 _ ?side1 A19.out).mono ?_); (case side1 => exact Kd.R_V (Kd.R_tight rfl (HO_4.out))); rintro e w23 ⟨v477, rfl, ho0, hb⟩; have n0_ := Aside0.mk (Kd.R_elder' (by (with_reducible repeat (first | apply Kd.R_alloc | apply Kd.R_drewN | apply Kd.R_drew)); exact HO_3.out) (Kd.R_base ho0) hb); have n1_ := Aside0.mk (Kd.R_elder' (by (with_reducible repeat (first | apply Kd.R_alloc | apply Kd.R_drewN | apply Kd.R_drew)); exact HO_4.out) (Kd.R_base ho0) hb); have n2_ := Aside0.mk (Kd.R_elder' (by (with_reducible repeat (first | apply Kd.R_alloc | apply Kd.R_drewN | apply Kd.R_drew)); exact HO474.out) (Kd.R_base ho0) hb); have n3_ := Aside0.mk (Kd.R_lower (Kd.R_new' (Kd.R_new' (Kd.R_new' (Kd.R_mono (ok' := fun k_ => True) ho0 (fun _ hk_ => trivial)) (Kd.R_lt (by (with_reducible repeat (first | apply Kd.R_alloc | apply Kd.R_drewN | apply Kd.R_drew)); exact HO_3.out))) (Kd.R_lt (by (with_reducible repeat (first | apply Kd.R_alloc | apply Kd.R_drewN | apply Kd.R_drew)); exact HO_4.out))) (Kd.R_lt (by (with_reducible repeat (first | apply Kd.R_alloc | apply Kd.R_drewN | apply Kd.R_drew)); exact HO474.out))) (below_size (by repeat (first | (with_reducible first | exact HB.out | apply below_alloc | apply pw_below_drewN | apply below_drew1) | exact HB.out)))); have n4_ := Aside0.mk (below_step (by repeat (first | (with_reducible first | exact HB.out | apply below_alloc | apply pw_below_drewN | apply below_drew1) | exact HB.out)) hb); clear HO_3; clear HO_4; clear HO474; clear HB; have HO_3 := n0_; have HO_4 := n1_; have HO474 := n2_; have HO478 := n3_; have HB := n4_; clear n0_ n1_ n2_ n3_ n4_; (try clear hb); (try clear hb2); (try clear hk); (try clear hi); (try clear ho0))))
                        go_roundg k2
                        case measure => have := HK1.out; have := HK2.out; omega
                        case rel => exact ⟨(t472), (t476), (wrap64 (x5_1 + 1)), (by first | rfl | (simp; done) | (simp [*]; done)), H', ⟨by have := HK1.out; have := HK2.out; omega⟩, ⟨by (with_reducible repeat (first | apply Kd.R_alloc | apply Kd.R_drewN | apply Kd.R_drew)); exact Kd.R_mono HO474.out (fun _ hk => hk.2)⟩, ⟨by (with_reducible repeat (first | apply Kd.R_alloc | apply Kd.R_drewN | apply Kd.R_drew)); exact Kd.R_mono HO478.out (fun _ hk => hk.2)⟩, ⟨by repeat (first | (with_reducible first | exact HB.out | apply below_alloc | apply pw_below_drewN | apply below_drew1) | exact HB.out)⟩⟩
                      · rw [if_neg c18] at H
                        exact absurd H (by simp)
                    · rw [if_neg c17] at H
                      exact absurd H (by simp)
                  · rw [if_neg c14] at H
                    exact absurd H (by simp)
                · rw [if_neg c13] at H
                  exact absurd H (by simp)
        · rw [if_neg c4] at H
          have c4b0 : decide (x5_1 < (l0.length : Int)) = false := decide_eq_false c4
          clear c4
          replace H := Option.bind_eq_some_iff.mp H
          obtain ⟨t465, A240, H⟩ := H
          replace H : (if t465 = true then ((sextonref09_Same.f k1 x3_1 x4_1).bind fun t466 => (if t466 = true then ((node_Is.f k1 x3_1).bind fun t467 => (if t467 = true then (some ((x3_1.length : Int) == (l0.length : Int))) else (some false))) else (some false))) else (some false)) = some r := H
          have A24 := Aside0.mk A240
          clear A240
          by_cases c25 : t465 = true
          · subst c25
            have H1 : ((sextonref09_Same.f k1 x3_1 x4_1).bind fun t466 => (if t466 = true then ((node_Is.f k1 x3_1).bind fun t467 => (if t467 = true then (some ((x3_1.length : Int) == (l0.length : Int))) else (some false))) else (some false))) = some r := by rw [if_pos rfl] at H; exact H
            clear H
            have H := H1
            clear H1
            replace H := Option.bind_eq_some_iff.mp H
            obtain ⟨t466, A260, H⟩ := H
            replace H : (if t466 = true then ((node_Is.f k1 x3_1).bind fun t467 => (if t467 = true then (some ((x3_1.length : Int) == (l0.length : Int))) else (some false))) else (some false)) = some r := H
            have A26 := Aside0.mk A260
            clear A260
            by_cases c27 : t466 = true
            · subst c27
              have H1 : ((node_Is.f k1 x3_1).bind fun t467 => (if t467 = true then (some ((x3_1.length : Int) == (l0.length : Int))) else (some false))) = some r := by rw [if_pos rfl] at H; exact H
              clear H
              have H := H1
              clear H1
              replace H := Option.bind_eq_some_iff.mp H
              obtain ⟨t467, A280, H⟩ := H
              replace H : (if t467 = true then (some ((x3_1.length : Int) == (l0.length : Int))) else (some false)) = some r := H
              have A28 := Aside0.mk A280
              clear A280
              by_cases c29 : t467 = true
              · subst c29
                have H1 : (some ((x3_1.length : Int) == (l0.length : Int))) = some r := by rw [if_pos rfl] at H; exact H
                clear H
                have H := H1
                clear H1
                obtain rfl := Option.some.inj H
                go_wp2_with (first | (go_at_call 29; (with_reducible refine (sextonlaw09_nodes.calls  true _ A24.out).mono ?_); rintro e w30 ⟨rfl, hb⟩; have n0_ := Aside0.mk (Kd.R_below (by (with_reducible repeat (first | apply Kd.R_alloc | apply Kd.R_drewN | apply Kd.R_drew)); exact HO_3.out) hb); have n1_ := Aside0.mk (Kd.R_below (by (with_reducible repeat (first | apply Kd.R_alloc | apply Kd.R_drewN | apply Kd.R_drew)); exact HO_4.out) hb); have n2_ := Aside0.mk (below_step (by repeat (first | (with_reducible first | exact HB.out | apply below_alloc | apply pw_below_drewN | apply below_drew1) | exact HB.out)) hb); clear HO_3; clear HO_4; clear HB; have HO_3 := n0_; have HO_4 := n1_; have HB := n2_; clear n0_ n1_ n2_; (try clear hb); (try clear hb2); (try clear hk); (try clear hi); obtain ⟨Ao31, co31, eo31⟩ := Kd.R_slice HO_3.out; subst eo31; obtain ⟨Ao32, co32, eo32⟩ := Kd.R_slice HO_4.out; subst eo32) | (go_at_call 25; (with_reducible refine (sextonref09_Same.calls k1 _ _ x3_1 _ _ x4_1 true _ ?side1 ?side2 ?side3 ?side4 A26.out).mono ?_); (case side1 => repeat (first | exact (Kd.R_reads' HO_3.out).2.2 | (with_reducible refine Kd.C_alloc ?_ _) | (with_reducible refine Kd.C_drewN ?_ _) | (with_reducible refine Kd.C_drew ?_))); (case side2 => exact (Kd.R_reads' HO_3.out).2.1); (case side3 => repeat (first | exact (Kd.R_reads' HO_4.out).2.2 | (with_reducible refine Kd.C_alloc ?_ _) | (with_reducible refine Kd.C_drewN ?_ _) | (with_reducible refine Kd.C_drew ?_))); (case side4 => exact (Kd.R_reads' HO_4.out).2.1); rintro e w' ⟨rfl, ⟨nd, rfl⟩⟩; (try first | exact ⟨rfl, _, World.drewN_drewN _ _ _⟩ | exact ⟨rfl, _, Eq.trans (World.drewN_drewN _ _ _) (congrArg (World.drewN _) (Nat.add_assoc _ _ _))⟩)) | (go_at_call 26; (with_reducible refine (node_Is.calls k1 _ _ x3_1 true _ ?side1 ?side2 A28.out).mono ?_); (case side1 => repeat (first | exact (Kd.R_reads' HO_3.out).2.2 | (with_reducible refine Kd.C_alloc ?_ _) | (with_reducible refine Kd.C_drewN ?_ _) | (with_reducible refine Kd.C_drew ?_))); (case side2 => exact (Kd.R_reads' HO_3.out).2.1); rintro e w33 ⟨rfl, hb⟩; have n0_ := Aside0.mk (Kd.R_below (by (with_reducible repeat (first | apply Kd.R_alloc | apply Kd.R_drewN | apply Kd.R_drew)); exact HO_3.out) hb); have n1_ := Aside0.mk (Kd.R_below (by (with_reducible repeat (first | apply Kd.R_alloc | apply Kd.R_drewN | apply Kd.R_drew)); exact HO_4.out) hb); have n2_ := Aside0.mk (below_step (by repeat (first | (with_reducible first | exact HB.out | apply below_alloc | apply pw_below_drewN | apply below_drew1) | exact HB.out)) hb); clear HO_3; clear HO_4; clear HB; have HO_3 := n0_; have HO_4 := n1_; have HB := n2_; clear n0_ n1_ n2_; (try clear hb); (try clear hb2); (try clear hk); (try clear hi)))
                repeat (go_quiet (first | (go_at_call 29; (with_reducible refine (sextonlaw09_nodes.calls  true _ A24.out).mono ?_); rintro e w30 ⟨rfl, hb⟩; have n0_ := Aside0.mk (Kd.R_below (by (with_reducible repeat (first | apply Kd.R_alloc | apply Kd.R_drewN | apply Kd.R_drew)); exact HO_3.out) hb); have n1_ := Aside0.mk (Kd.R_below (by (with_reducible repeat (first | apply Kd.R_alloc | apply Kd.R_drewN | apply Kd.R_drew)); exact HO_4.out) hb); have n2_ := Aside0.mk (below_step (by repeat (first | (with_reducible first | exact HB.out | apply below_alloc | apply pw_below_drewN | apply below_drew1) | exact HB.out)) hb); clear HO_3; clear HO_4; clear HB; have HO_3 := n0_; have HO_4 := n1_; have HB := n2_; clear n0_ n1_ n2_; (try clear hb); (try clear hb2); (try clear hk); (try clear hi); obtain ⟨Ao31, co31, eo31⟩ := Kd.R_slice HO_3.out; subst eo31; obtain ⟨Ao32, co32, eo32⟩ := Kd.R_slice HO_4.out; subst eo32) | (go_at_call 25; (with_reducible refine (sextonref09_Same.calls k1 _ _ x3_1 _ _ x4_1 true _ ?side1 ?side2 ?side3 ?side4 A26.out).mono ?_); (case side1 => repeat (first | exact (Kd.R_reads' HO_3.out).2.2 | (with_reducible refine Kd.C_alloc ?_ _) | (with_reducible refine Kd.C_drewN ?_ _) | (with_reducible refine Kd.C_drew ?_))); (case side2 => exact (Kd.R_reads' HO_3.out).2.1); (case side3 => repeat (first | exact (Kd.R_reads' HO_4.out).2.2 | (with_reducible refine Kd.C_alloc ?_ _) | (with_reducible refine Kd.C_drewN ?_ _) | (with_reducible refine Kd.C_drew ?_))); (case side4 => exact (Kd.R_reads' HO_4.out).2.1); rintro e w' ⟨rfl, ⟨nd, rfl⟩⟩; (try first | exact ⟨rfl, _, World.drewN_drewN _ _ _⟩ | exact ⟨rfl, _, Eq.trans (World.drewN_drewN _ _ _) (congrArg (World.drewN _) (Nat.add_assoc _ _ _))⟩)) | (go_at_call 26; (with_reducible refine (node_Is.calls k1 _ _ x3_1 true _ ?side1 ?side2 A28.out).mono ?_); (case side1 => repeat (first | exact (Kd.R_reads' HO_3.out).2.2 | (with_reducible refine Kd.C_alloc ?_ _) | (with_reducible refine Kd.C_drewN ?_ _) | (with_reducible refine Kd.C_drew ?_))); (case side2 => exact (Kd.R_reads' HO_3.out).2.1); rintro e w33 ⟨rfl, hb⟩; have n0_ := Aside0.mk (Kd.R_below (by (with_reducible repeat (first | apply Kd.R_alloc | apply Kd.R_drewN | apply Kd.R_drew)); exact HO_3.out) hb); have n1_ := Aside0.mk (Kd.R_below (by (with_reducible repeat (first | apply Kd.R_alloc | apply Kd.R_drewN | apply Kd.R_drew)); exact HO_4.out) hb); have n2_ := Aside0.mk (below_step (by repeat (first | (with_reducible first | exact HB.out | apply below_alloc | apply pw_below_drewN | apply below_drew1) | exact HB.out)) hb); clear HO_3; clear HO_4; clear HB; have HO_3 := n0_; have HO_4 := n1_; have HB := n2_; clear n0_ n1_ n2_; (try clear hb); (try clear hb2); (try clear hk); (try clear hi))); try go_wp2_with (first | (go_at_call 29; (with_reducible refine (sextonlaw09_nodes.calls  true _ A24.out).mono ?_); rintro e w30 ⟨rfl, hb⟩; have n0_ := Aside0.mk (Kd.R_below (by (with_reducible repeat (first | apply Kd.R_alloc | apply Kd.R_drewN | apply Kd.R_drew)); exact HO_3.out) hb); have n1_ := Aside0.mk (Kd.R_below (by (with_reducible repeat (first | apply Kd.R_alloc | apply Kd.R_drewN | apply Kd.R_drew)); exact HO_4.out) hb); have n2_ := Aside0.mk (below_step (by repeat (first | (with_reducible first | exact HB.out | apply below_alloc | apply pw_below_drewN | apply below_drew1) | exact HB.out)) hb); clear HO_3; clear HO_4; clear HB; have HO_3 := n0_; have HO_4 := n1_; have HB := n2_; clear n0_ n1_ n2_; (try clear hb); (try clear hb2); (try clear hk); (try clear hi); obtain ⟨Ao31, co31, eo31⟩ := Kd.R_slice HO_3.out; subst eo31; obtain ⟨Ao32, co32, eo32⟩ := Kd.R_slice HO_4.out; subst eo32) | (go_at_call 25; (with_reducible refine (sextonref09_Same.calls k1 _ _ x3_1 _ _ x4_1 true _ ?side1 ?side2 ?side3 ?side4 A26.out).mono ?_); (case side1 => repeat (first | exact (Kd.R_reads' HO_3.out).2.2 | (with_reducible refine Kd.C_alloc ?_ _) | (with_reducible refine Kd.C_drewN ?_ _) | (with_reducible refine Kd.C_drew ?_))); (case side2 => exact (Kd.R_reads' HO_3.out).2.1); (case side3 => repeat (first | exact (Kd.R_reads' HO_4.out).2.2 | (with_reducible refine Kd.C_alloc ?_ _) | (with_reducible refine Kd.C_drewN ?_ _) | (with_reducible refine Kd.C_drew ?_))); (case side4 => exact (Kd.R_reads' HO_4.out).2.1); rintro e w' ⟨rfl, ⟨nd, rfl⟩⟩; (try first | exact ⟨rfl, _, World.drewN_drewN _ _ _⟩ | exact ⟨rfl, _, Eq.trans (World.drewN_drewN _ _ _) (congrArg (World.drewN _) (Nat.add_assoc _ _ _))⟩)) | (go_at_call 26; (with_reducible refine (node_Is.calls k1 _ _ x3_1 true _ ?side1 ?side2 A28.out).mono ?_); (case side1 => repeat (first | exact (Kd.R_reads' HO_3.out).2.2 | (with_reducible refine Kd.C_alloc ?_ _) | (with_reducible refine Kd.C_drewN ?_ _) | (with_reducible refine Kd.C_drew ?_))); (case side2 => exact (Kd.R_reads' HO_3.out).2.1); rintro e w33 ⟨rfl, hb⟩; have n0_ := Aside0.mk (Kd.R_below (by (with_reducible repeat (first | apply Kd.R_alloc | apply Kd.R_drewN | apply Kd.R_drew)); exact HO_3.out) hb); have n1_ := Aside0.mk (Kd.R_below (by (with_reducible repeat (first | apply Kd.R_alloc | apply Kd.R_drewN | apply Kd.R_drew)); exact HO_4.out) hb); have n2_ := Aside0.mk (below_step (by repeat (first | (with_reducible first | exact HB.out | apply below_alloc | apply pw_below_drewN | apply below_drew1) | exact HB.out)) hb); clear HO_3; clear HO_4; clear HB; have HO_3 := n0_; have HO_4 := n1_; have HB := n2_; clear n0_ n1_ n2_; (try clear hb); (try clear hb2); (try clear hk); (try clear hi))))
                go_ret
                exact ⟨by first | rfl | (simp [errW_none, errW_some] <;> rfl) | (simp [*, errW_none, errW_some] <;> rfl), by repeat (first | (with_reducible first | exact HB.out | apply below_alloc | apply pw_below_drewN | apply below_drew1) | exact HB.out)⟩
              · replace c29 := Bool.eq_false_iff.mpr c29
                subst c29
                have H1 : (some false) = some r := by rw [if_neg (show ¬ (false = true) by decide)] at H; exact H
                exact absurd (H1.trans (congrArg some HRT.out)) (by decide)
            · replace c27 := Bool.eq_false_iff.mpr c27
              subst c27
              have H1 : (some false) = some r := by rw [if_neg (show ¬ (false = true) by decide)] at H; exact H
              exact absurd (H1.trans (congrArg some HRT.out)) (by decide)
          · replace c25 := Bool.eq_false_iff.mpr c25
            subst c25
            have H1 : (some false) = some r := by rw [if_neg (show ¬ (false = true) by decide)] at H; exact H
            exact absurd (H1.trans (congrArg some HRT.out)) (by decide)

end Go.Proofs.Ytoiohlmiofplcaa.P
