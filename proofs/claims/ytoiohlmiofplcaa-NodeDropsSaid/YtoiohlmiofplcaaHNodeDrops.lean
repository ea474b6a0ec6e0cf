/-
  The walk of NodeDrops, by the print; the ways that would answer false are closed.
-/
import Derived.Test.YtoiohlmiofplcaaPx0
import Derived.Test.YtoiohlmiofplcaaFsextonref09Big
import Derived.Test.YtoiohlmiofplcaaFnodePut
import Derived.Test.YtoiohlmiofplcaaFnodeDrop
import Derived.Test.YtoiohlmiofplcaaFsextonref09Same
import Derived.Test.YtoiohlmiofplcaaFnodeIs
import Derived.Test.YtoiohlmiofplcaaHnodeFind
import Derived.Test.YtoiohlmiofplcaaHnodes
namespace Go.Proofs.Ytoiohlmiofplcaa.P
open Go.RowKit Go.Proofs.YtoiohlmiofplcaaW.PrintWords Go.Proofs.YtoiohlmiofplcaaW.PrintLast Go.Proofs.YtoiohlmiofplcaaW.PrintMore
attribute [local go_sem] max2_int min2_int max_two min_two max_three min_three max_four min_four   -- for this text's walks alone
set_option linter.unusedVariables false
set_option linter.unusedSimpArgs false

/-! ### sextonlaw09_NodeDrops: function 5 -/
def sextonlaw09_NodeDrops.j0 : Nat → List (S26) → Int → Bool → Option (Bool)
  | 0, _, _, _ => none
  | k + 1, x0, x1, x24 => if x24 = true then ((sextonlaw09_nodes.f).bind fun t407 => (some t407)) else (if 0 ≤ x1 then (if x1 < (x0.length : Int) then ((node_Drop.f k x0 ((rd_T26 x0 x1).f0.f0) ((rd_T26 x0 x1).f0.f1)).bind fun t409 => ((node_Find.f t409 ((rd_T26 x0 x1).f0.f0) ((rd_T26 x0 x1).f0.f1)).bind fun bt413 => ((sextonlaw09_nodes.f).bind fun t415 => (if t415 = true then ((node_Is.f k t409).bind fun t416 => (if t416 = true then (if bt413.2 = true then (some false) else (if (wrap64 ((t409.length : Int) + 1)) = (x0.length : Int) then ((node_Put.f k t409 ((rd_T26 x0 x1).f0.f0) ((rd_T26 x0 x1).f0.f1) ((rd_T26 x0 x1).f1)).bind fun t418 => ((sextonref09_Same.f k t418 x0).bind fun t421 => (if t421 = true then ((node_Drop.f k t409 ((rd_T26 x0 x1).f0.f0) ((rd_T26 x0 x1).f0.f1)).bind fun t423 => ((sextonref09_Same.f k t423 t409).bind fun t426 => (some t426))) else (some false)))) else (some false))) else (some false))) else (some false))))) else (none)) else (none))
def sextonlaw09_NodeDrops.f (k : Nat) (l0 : List (S26)) (a1 : Int) : Option (Bool) := (sextonref09_Big.f k l0).bind fun t405 => (if t405 = true then (sextonlaw09_NodeDrops.j0 k l0 a1 true) else ((node_Is.f k l0).bind fun t406 => (if t406 = true then (if a1 < 0 then (sextonlaw09_NodeDrops.j0 k l0 a1 true) else (sextonlaw09_NodeDrops.j0 k l0 a1 (decide (a1 ≥ (l0.length : Int))))) else (sextonlaw09_NodeDrops.j0 k l0 a1 true))))
theorem sextonlaw09_NodeDrops.mono_l : ∀ k, (∀ y0 y1 y2, LeO (sextonlaw09_NodeDrops.j0 k y0 y1 y2) (sextonlaw09_NodeDrops.j0 (k + 1) y0 y1 y2))
  | 0 => fun _ _ _ r h => by simp [sextonlaw09_NodeDrops.j0] at h
  | k + 1 => by
    have ih0 := sextonlaw09_NodeDrops.mono_l k
    · intro y0 y1 y2
      unfold sextonlaw09_NodeDrops.j0
      repeat' first
      | (with_reducible exact ih0 _ _ _)
      | (with_reducible exact node_Drop.mono _ _ _ _)
      | (with_reducible exact node_Is.mono _ _)
      | (with_reducible exact node_Put.mono _ _ _ _ _)
      | (with_reducible exact sextonref09_Big.mono _ _)
      | (with_reducible exact sextonref09_Same.mono _ _ _)
      | (with_reducible exact LeO.refl _)
      | (with_reducible exact LeO.none _)
      | (with_reducible refine LeO.ite ?_ ?_)
      | (with_reducible refine LeO.bind ?_ (fun _ => ?_))
      | exact ih0 _ _ _
      | exact node_Drop.mono _ _ _ _
      | exact node_Is.mono _ _
      | exact node_Put.mono _ _ _ _ _
      | exact sextonref09_Big.mono _ _
      | exact sextonref09_Same.mono _ _ _
      | exact LeO.none _
      | refine LeO.ite ?_ ?_
      | refine LeO.bind ?_ (fun _ => ?_)
theorem sextonlaw09_NodeDrops.mono : ∀ a0 a1 k, LeO (sextonlaw09_NodeDrops.f k a0 a1) (sextonlaw09_NodeDrops.f (k + 1) a0 a1) := by
  intro a0 a1 k
  have ih0 := sextonlaw09_NodeDrops.mono_l k
  unfold sextonlaw09_NodeDrops.f
  repeat' first
      | (with_reducible exact ih0 _ _ _)
      | (with_reducible exact node_Drop.mono _ _ _ _)
      | (with_reducible exact node_Is.mono _ _)
      | (with_reducible exact node_Put.mono _ _ _ _ _)
      | (with_reducible exact sextonref09_Big.mono _ _)
      | (with_reducible exact sextonref09_Same.mono _ _ _)
      | (with_reducible exact LeO.refl _)
      | (with_reducible exact LeO.none _)
      | (with_reducible refine LeO.ite ?_ ?_)
      | (with_reducible refine LeO.bind ?_ (fun _ => ?_))
      | exact ih0 _ _ _
      | exact node_Drop.mono _ _ _ _
      | exact node_Is.mono _ _
      | exact node_Put.mono _ _ _ _ _
      | exact sextonref09_Big.mono _ _
      | exact sextonref09_Same.mono _ _ _
      | exact LeO.none _
      | refine LeO.ite ?_ ?_
      | refine LeO.bind ?_ (fun _ => ?_)
set_option maxHeartbeats 8000000 in
set_option maxRecDepth 100000 in
theorem sextonlaw09_NodeDrops.calls (k : Nat) (A0 : Option Addr) (c0 : Nat) (l0 : List (S26)) (a1 : Int) (r : Bool) (hrt : r = true := by rfl) (w : World) (hr0 : Kd.C k26 w A0 l0.length l0) (hc0 : l0.length ≤ c0) (h : sextonlaw09_NodeDrops.f k l0 a1 = some r) :
    Calls Try.prog 5 #[.slice A0 l0.length c0, .int .i64 a1] w fun e w' => e = .returned (.bool r) ∧ Below w.heap.size w w' := by
  have HRT := Aside0.mk hrt
  have hu24 := Try.underlying24
  have hu26 := Try.underlying26
  have HR0 := Aside0.mk hr0
  have HC0 := Aside0.mk hc0
  clear hr0 hc0
  have HB := Aside0.mk (Below.refl w.heap.size w)
  have H : ((sextonref09_Big.f k l0).bind fun t405 => (if t405 = true then (sextonlaw09_NodeDrops.j0 k l0 a1 true) else ((node_Is.f k l0).bind fun t406 => (if t406 = true then (if a1 < 0 then (sextonlaw09_NodeDrops.j0 k l0 a1 true) else (sextonlaw09_NodeDrops.j0 k l0 a1 (decide (a1 ≥ (l0.length : Int))))) else (sextonlaw09_NodeDrops.j0 k l0 a1 true))))) = some r := h
  clear h
  have HC3 := Aside0.mk H
  clear H
  go_enter Try.func5, Try.ntmps5
  go_upto_region 1 with (fail)
  go_cut [24] (fun v24 wc => ∃ (kq : Nat) (x24_2 : Bool), v24 = .bool x24_2 ∧ Aside0 (sextonlaw09_NodeDrops.j0 kq l0 a1 x24_2 = some r) ∧ Aside0 (kq ≤ k) ∧ Aside0 (Below w.heap.size w wc))
  case first =>
    have H := HC3.out
    clear HC3
    replace H := Option.bind_eq_some_iff.mp H
    obtain ⟨t405, A40, H⟩ := H
    replace H : (if t405 = true then (sextonlaw09_NodeDrops.j0 k l0 a1 true) else ((node_Is.f k l0).bind fun t406 => (if t406 = true then (if a1 < 0 then (sextonlaw09_NodeDrops.j0 k l0 a1 true) else (sextonlaw09_NodeDrops.j0 k l0 a1 (decide (a1 ≥ (l0.length : Int))))) else (sextonlaw09_NodeDrops.j0 k l0 a1 true)))) = some r := H
    have A4 := Aside0.mk A40
    clear A40
    by_cases c5 : t405 = true
    · subst c5
      have H1 : (sextonlaw09_NodeDrops.j0 k l0 a1 true) = some r := by rw [if_pos rfl] at H; exact H
      clear H
      have H := H1
      clear H1
      have H' := Aside0.mk H
      clear H
      go_wp2_with (first | ((with_reducible refine gate_callee (f := 13) rfl ?_); refine goesL_ (some 9) rfl rfl Try.func13 (by kernel_rfl) rfl #[.slice A0 l0.length c0] rfl (by (try simp only [List.map_toArray, List.map_cons, List.map_nil]); first | done | rfl | (simp only [List.length_drop, List.length_take]; rfl)) ?_; (with_reducible refine (sextonref09_Big.calls k _ _ l0 true _ ?side1 ?side2 A4.out).mono ?_); (case side1 => repeat (first | exact (Kd.C_below HR0.out HB.out) | (with_reducible refine Kd.C_alloc ?_ _) | (with_reducible refine Kd.C_drewN ?_ _) | (with_reducible refine Kd.C_drew ?_))); (case side2 => exact HC0.out); rintro e w' ⟨rfl, ⟨nd, rfl⟩⟩; refine ⟨_, rfl, ?_⟩))
      go_meet
      case rel => exact ⟨_, (true), (by first | rfl | (simp; done) | (simp [*]; done)), H', ⟨by first | omega | exact Nat.le_refl _⟩, ⟨by repeat (first | (with_reducible first | exact HB.out | apply below_alloc | apply pw_below_drewN | apply below_drew1) | exact HB.out)⟩⟩
    · replace c5 := Bool.eq_false_iff.mpr c5
      subst c5
      have H1 : ((node_Is.f k l0).bind fun t406 => (if t406 = true then (if a1 < 0 then (sextonlaw09_NodeDrops.j0 k l0 a1 true) else (sextonlaw09_NodeDrops.j0 k l0 a1 (decide (a1 ≥ (l0.length : Int))))) else (sextonlaw09_NodeDrops.j0 k l0 a1 true))) = some r := by rw [if_neg (show ¬ (false = true) by decide)] at H; exact H
      clear H
      have H := H1
      clear H1
      replace H := Option.bind_eq_some_iff.mp H
      obtain ⟨t406, A60, H⟩ := H
      replace H : (if t406 = true then (if a1 < 0 then (sextonlaw09_NodeDrops.j0 k l0 a1 true) else (sextonlaw09_NodeDrops.j0 k l0 a1 (decide (a1 ≥ (l0.length : Int))))) else (sextonlaw09_NodeDrops.j0 k l0 a1 true)) = some r := H
      have A6 := Aside0.mk A60
      clear A60
      by_cases c7 : t406 = true
      · subst c7
        have H1 : (if a1 < 0 then (sextonlaw09_NodeDrops.j0 k l0 a1 true) else (sextonlaw09_NodeDrops.j0 k l0 a1 (decide (a1 ≥ (l0.length : Int))))) = some r := by rw [if_pos rfl] at H; exact H
        clear H
        have H := H1
        clear H1
        by_cases c8 : a1 < 0
        · rw [if_pos c8] at H
          have c8b0 : decide (a1 < 0) = true := decide_eq_true c8
          clear c8
          (first | rw [c8b0] | (simp only [i64_w, i32_w]; rw [c8b0]) | skip)
          have H' := Aside0.mk H
          clear H
          go_wp2_with (first | ((with_reducible refine gate_callee (f := 13) rfl ?_); refine goesL_ (some 9) rfl rfl Try.func13 (by kernel_rfl) rfl #[.slice A0 l0.length c0] rfl (by (try simp only [List.map_toArray, List.map_cons, List.map_nil]); first | done | rfl | (simp only [List.length_drop, List.length_take]; rfl)) ?_; (with_reducible refine (sextonref09_Big.calls k _ _ l0 false _ ?side1 ?side2 A4.out).mono ?_); (case side1 => repeat (first | exact (Kd.C_below HR0.out HB.out) | (with_reducible refine Kd.C_alloc ?_ _) | (with_reducible refine Kd.C_drewN ?_ _) | (with_reducible refine Kd.C_drew ?_))); (case side2 => exact HC0.out); rintro e w' ⟨rfl, ⟨nd, rfl⟩⟩; refine ⟨_, rfl, ?_⟩) | (go_at_call 26; (with_reducible refine (node_Is.calls k _ _ l0 true _ ?side1 ?side2 A6.out).mono ?_); (case side1 => repeat (first | exact (Kd.C_below HR0.out (by repeat (first | (with_reducible first | exact HB.out | apply below_alloc | apply pw_below_drewN | apply below_drew1) | exact HB.out))) | (with_reducible refine Kd.C_alloc ?_ _) | (with_reducible refine Kd.C_drewN ?_ _) | (with_reducible refine Kd.C_drew ?_))); (case side2 => exact HC0.out); rintro e w9 ⟨rfl, hb⟩; have n0_ := Aside0.mk (below_step (by repeat (first | (with_reducible first | exact HB.out | apply below_alloc | apply pw_below_drewN | apply below_drew1) | exact HB.out)) hb); clear HB; have HB := n0_; clear n0_; (try clear hb); (try clear hb2); (try clear hk); (try clear hi)))
          go_meet
          case rel => exact ⟨_, (true), (by first | rfl | (simp; done) | (simp [*]; done)), H', ⟨by first | omega | exact Nat.le_refl _⟩, ⟨by repeat (first | (with_reducible first | exact HB.out | apply below_alloc | apply pw_below_drewN | apply below_drew1) | exact HB.out)⟩⟩
        · rw [if_neg c8] at H
          have c8b0 : decide (a1 < 0) = false := decide_eq_false c8
          clear c8
          (first | rw [c8b0] | (simp only [i64_w, i32_w]; rw [c8b0]) | skip)
          have H' := Aside0.mk H
          clear H
          go_wp2_with (first | ((with_reducible refine gate_callee (f := 13) rfl ?_); refine goesL_ (some 9) rfl rfl Try.func13 (by kernel_rfl) rfl #[.slice A0 l0.length c0] rfl (by (try simp only [List.map_toArray, List.map_cons, List.map_nil]); first | done | rfl | (simp only [List.length_drop, List.length_take]; rfl)) ?_; (with_reducible refine (sextonref09_Big.calls k _ _ l0 false _ ?side1 ?side2 A4.out).mono ?_); (case side1 => repeat (first | exact (Kd.C_below HR0.out HB.out) | (with_reducible refine Kd.C_alloc ?_ _) | (with_reducible refine Kd.C_drewN ?_ _) | (with_reducible refine Kd.C_drew ?_))); (case side2 => exact HC0.out); rintro e w' ⟨rfl, ⟨nd, rfl⟩⟩; refine ⟨_, rfl, ?_⟩) | (go_at_call 26; (with_reducible refine (node_Is.calls k _ _ l0 true _ ?side1 ?side2 A6.out).mono ?_); (case side1 => repeat (first | exact (Kd.C_below HR0.out (by repeat (first | (with_reducible first | exact HB.out | apply below_alloc | apply pw_below_drewN | apply below_drew1) | exact HB.out))) | (with_reducible refine Kd.C_alloc ?_ _) | (with_reducible refine Kd.C_drewN ?_ _) | (with_reducible refine Kd.C_drew ?_))); (case side2 => exact HC0.out); rintro e w10 ⟨rfl, hb⟩; have n0_ := Aside0.mk (below_step (by repeat (first | (with_reducible first | exact HB.out | apply below_alloc | apply pw_below_drewN | apply below_drew1) | exact HB.out)) hb); clear HB; have HB := n0_; clear n0_; (try clear hb); (try clear hb2); (try clear hk); (try clear hi)))
          go_meet
          case rel => exact ⟨_, (decide (a1 ≥ (l0.length : Int))), (by first | rfl | (simp; done) | (simp [*]; done)), H', ⟨by first | omega | exact Nat.le_refl _⟩, ⟨by repeat (first | (with_reducible first | exact HB.out | apply below_alloc | apply pw_below_drewN | apply below_drew1) | exact HB.out)⟩⟩
      · replace c7 := Bool.eq_false_iff.mpr c7
        subst c7
        have H1 : (sextonlaw09_NodeDrops.j0 k l0 a1 true) = some r := by rw [if_neg (show ¬ (false = true) by decide)] at H; exact H
        clear H
        have H := H1
        clear H1
        have H' := Aside0.mk H
        clear H
        go_wp2_with (first | ((with_reducible refine gate_callee (f := 13) rfl ?_); refine goesL_ (some 9) rfl rfl Try.func13 (by kernel_rfl) rfl #[.slice A0 l0.length c0] rfl (by (try simp only [List.map_toArray, List.map_cons, List.map_nil]); first | done | rfl | (simp only [List.length_drop, List.length_take]; rfl)) ?_; (with_reducible refine (sextonref09_Big.calls k _ _ l0 false _ ?side1 ?side2 A4.out).mono ?_); (case side1 => repeat (first | exact (Kd.C_below HR0.out HB.out) | (with_reducible refine Kd.C_alloc ?_ _) | (with_reducible refine Kd.C_drewN ?_ _) | (with_reducible refine Kd.C_drew ?_))); (case side2 => exact HC0.out); rintro e w' ⟨rfl, ⟨nd, rfl⟩⟩; refine ⟨_, rfl, ?_⟩) | (go_at_call 26; (with_reducible refine (node_Is.calls k _ _ l0 false _ ?side1 ?side2 A6.out).mono ?_); (case side1 => repeat (first | exact (Kd.C_below HR0.out (by repeat (first | (with_reducible first | exact HB.out | apply below_alloc | apply pw_below_drewN | apply below_drew1) | exact HB.out))) | (with_reducible refine Kd.C_alloc ?_ _) | (with_reducible refine Kd.C_drewN ?_ _) | (with_reducible refine Kd.C_drew ?_))); (case side2 => exact HC0.out); rintro e w11 ⟨rfl, hb⟩; have n0_ := Aside0.mk (below_step (by repeat (first | (with_reducible first | exact HB.out | apply below_alloc | apply pw_below_drewN | apply below_drew1) | exact HB.out)) hb); clear HB; have HB := n0_; clear n0_; (try clear hb); (try clear hb2); (try clear hk); (try clear hi)))
        go_meet
        case rel => exact ⟨_, (true), (by first | rfl | (simp; done) | (simp [*]; done)), H', ⟨by first | omega | exact Nat.le_refl _⟩, ⟨by repeat (first | (with_reducible first | exact HB.out | apply below_alloc | apply pw_below_drewN | apply below_drew1) | exact HB.out)⟩⟩
  case rest =>
    clear HC3
    try clear c1
    try clear p2
    try clear c5
    try clear c7
    try clear c8
    try clear c8b0
    obtain ⟨kq, x24_2, rfl, HA, HJ2, HB⟩ := hcut
    cases kq with
    | zero => exact absurd HA.out (by simp [sextonlaw09_NodeDrops.j0])
    | succ kj2 =>
      have H := HA.out
      clear HA
      simp only [sextonlaw09_NodeDrops.j0] at H
      by_cases c12 : x24_2 = true
      · subst c12
        have H1 : ((sextonlaw09_nodes.f).bind fun t407 => (some t407)) = some r := by rw [if_pos rfl] at H; exact H
        clear H
        have H := H1
        clear H1
        replace H := Option.bind_eq_some_iff.mp H
        obtain ⟨t407, A130, H⟩ := H
        replace H : (some t407) = some r := H
        have A13 := Aside0.mk A130
        clear A130
        obtain rfl := Option.some.inj H
        go_wp2_with (first | ((with_reducible refine gate_callee (f := 29) rfl ?_); refine goesL_ (some 25) rfl rfl Try.func29 (by kernel_rfl) rfl #[] rfl (by (try simp only [List.map_toArray, List.map_cons, List.map_nil]); first | done | rfl | (simp only [List.length_drop, List.length_take]; rfl)) ?_; (with_reducible refine (sextonlaw09_nodes.calls  t407 _ A13.out).mono ?_); rintro e w14 ⟨rfl, hb⟩; refine ⟨_, rfl, ?_⟩; have n0_ := Aside0.mk (below_step (by repeat (first | (with_reducible first | exact HB.out | apply below_alloc | apply pw_below_drewN | apply below_drew1) | exact HB.out)) hb); clear HB; have HB := n0_; clear n0_; (try clear hb); (try clear hb2); (try clear hk); (try clear hi)))
        go_ret
        exact ⟨by first | rfl | (simp [errW_none, errW_some] <;> rfl) | (simp [*, errW_none, errW_some] <;> rfl), by repeat (first | (with_reducible first | exact HB.out | apply below_alloc | apply pw_below_drewN | apply below_drew1) | exact HB.out)⟩
      · replace c12 := Bool.eq_false_iff.mpr c12
        subst c12
        have H1 : (if 0 ≤ a1 then (if a1 < (l0.length : Int) then ((node_Drop.f kj2 l0 ((rd_T26 l0 a1).f0.f0) ((rd_T26 l0 a1).f0.f1)).bind fun t409 => ((node_Find.f t409 ((rd_T26 l0 a1).f0.f0) ((rd_T26 l0 a1).f0.f1)).bind fun bt413 => ((sextonlaw09_nodes.f).bind fun t415 => (if t415 = true then ((node_Is.f kj2 t409).bind fun t416 => (if t416 = true then (if bt413.2 = true then (some false) else (if (wrap64 ((t409.length : Int) + 1)) = (l0.length : Int) then ((node_Put.f kj2 t409 ((rd_T26 l0 a1).f0.f0) ((rd_T26 l0 a1).f0.f1) ((rd_T26 l0 a1).f1)).bind fun t418 => ((sextonref09_Same.f kj2 t418 l0).bind fun t421 => (if t421 = true then ((node_Drop.f kj2 t409 ((rd_T26 l0 a1).f0.f0) ((rd_T26 l0 a1).f0.f1)).bind fun t423 => ((sextonref09_Same.f kj2 t423 t409).bind fun t426 => (some t426))) else (some false)))) else (some false))) else (some false))) else (some false))))) else (none)) else (none)) = some r := by rw [if_neg (show ¬ (false = true) by decide)] at H; exact H
        clear H
        have H := H1
        clear H1
        by_cases c15 : 0 ≤ a1
        · rw [if_pos c15] at H
          have c15b0 : decide (0 ≤ a1) = true := decide_eq_true c15
          clear c15
          by_cases c16 : a1 < (l0.length : Int)
          · rw [if_pos c16] at H
            have c16b0 : decide (a1 < (l0.length : Int)) = true := decide_eq_true c16
            clear c16
            replace H := Option.bind_eq_some_iff.mp H
            obtain ⟨t409, A170, H⟩ := H
            replace H : ((node_Find.f t409 ((rd_T26 l0 a1).f0.f0) ((rd_T26 l0 a1).f0.f1)).bind fun bt413 => ((sextonlaw09_nodes.f).bind fun t415 => (if t415 = true then ((node_Is.f kj2 t409).bind fun t416 => (if t416 = true then (if bt413.2 = true then (some false) else (if (wrap64 ((t409.length : Int) + 1)) = (l0.length : Int) then ((node_Put.f kj2 t409 ((rd_T26 l0 a1).f0.f0) ((rd_T26 l0 a1).f0.f1) ((rd_T26 l0 a1).f1)).bind fun t418 => ((sextonref09_Same.f kj2 t418 l0).bind fun t421 => (if t421 = true then ((node_Drop.f kj2 t409 ((rd_T26 l0 a1).f0.f0) ((rd_T26 l0 a1).f0.f1)).bind fun t423 => ((sextonref09_Same.f kj2 t423 t409).bind fun t426 => (some t426))) else (some false)))) else (some false))) else (some false))) else (some false)))) = some r := H
            have A17 := Aside0.mk A170
            clear A170
            replace H := Option.bind_eq_some_iff.mp H
            obtain ⟨⟨t413, t414⟩, A180, H⟩ := H
            replace H : ((sextonlaw09_nodes.f).bind fun t415 => (if t415 = true then ((node_Is.f kj2 t409).bind fun t416 => (if t416 = true then (if t414 = true then (some false) else (if (wrap64 ((t409.length : Int) + 1)) = (l0.length : Int) then ((node_Put.f kj2 t409 ((rd_T26 l0 a1).f0.f0) ((rd_T26 l0 a1).f0.f1) ((rd_T26 l0 a1).f1)).bind fun t418 => ((sextonref09_Same.f kj2 t418 l0).bind fun t421 => (if t421 = true then ((node_Drop.f kj2 t409 ((rd_T26 l0 a1).f0.f0) ((rd_T26 l0 a1).f0.f1)).bind fun t423 => ((sextonref09_Same.f kj2 t423 t409).bind fun t426 => (some t426))) else (some false)))) else (some false))) else (some false))) else (some false))) = some r := H
            have A18 := Aside0.mk A180
            clear A180
            replace H := Option.bind_eq_some_iff.mp H
            obtain ⟨t415, A190, H⟩ := H
            replace H : (if t415 = true then ((node_Is.f kj2 t409).bind fun t416 => (if t416 = true then (if t414 = true then (some false) else (if (wrap64 ((t409.length : Int) + 1)) = (l0.length : Int) then ((node_Put.f kj2 t409 ((rd_T26 l0 a1).f0.f0) ((rd_T26 l0 a1).f0.f1) ((rd_T26 l0 a1).f1)).bind fun t418 => ((sextonref09_Same.f kj2 t418 l0).bind fun t421 => (if t421 = true then ((node_Drop.f kj2 t409 ((rd_T26 l0 a1).f0.f0) ((rd_T26 l0 a1).f0.f1)).bind fun t423 => ((sextonref09_Same.f kj2 t423 t409).bind fun t426 => (some t426))) else (some false)))) else (some false))) else (some false))) else (some false)) = some r := H
            have A19 := Aside0.mk A190
            clear A190
            by_cases c20 : t415 = true
            · subst c20
              have H1 : ((node_Is.f kj2 t409).bind fun t416 => (if t416 = true then (if t414 = true then (some false) else (if (wrap64 ((t409.length : Int) + 1)) = (l0.length : Int) then ((node_Put.f kj2 t409 ((rd_T26 l0 a1).f0.f0) ((rd_T26 l0 a1).f0.f1) ((rd_T26 l0 a1).f1)).bind fun t418 => ((sextonref09_Same.f kj2 t418 l0).bind fun t421 => (if t421 = true then ((node_Drop.f kj2 t409 ((rd_T26 l0 a1).f0.f0) ((rd_T26 l0 a1).f0.f1)).bind fun t423 => ((sextonref09_Same.f kj2 t423 t409).bind fun t426 => (some t426))) else (some false)))) else (some false))) else (some false))) = some r := by rw [if_pos rfl] at H; exact H
              clear H
              have H := H1
              clear H1
              replace H := Option.bind_eq_some_iff.mp H
              obtain ⟨t416, A210, H⟩ := H
              replace H : (if t416 = true then (if t414 = true then (some false) else (if (wrap64 ((t409.length : Int) + 1)) = (l0.length : Int) then ((node_Put.f kj2 t409 ((rd_T26 l0 a1).f0.f0) ((rd_T26 l0 a1).f0.f1) ((rd_T26 l0 a1).f1)).bind fun t418 => ((sextonref09_Same.f kj2 t418 l0).bind fun t421 => (if t421 = true then ((node_Drop.f kj2 t409 ((rd_T26 l0 a1).f0.f0) ((rd_T26 l0 a1).f0.f1)).bind fun t423 => ((sextonref09_Same.f kj2 t423 t409).bind fun t426 => (some t426))) else (some false)))) else (some false))) else (some false)) = some r := H
              have A21 := Aside0.mk A210
              clear A210
              by_cases c22 : t416 = true
              · subst c22
                have H1 : (if t414 = true then (some false) else (if (wrap64 ((t409.length : Int) + 1)) = (l0.length : Int) then ((node_Put.f kj2 t409 ((rd_T26 l0 a1).f0.f0) ((rd_T26 l0 a1).f0.f1) ((rd_T26 l0 a1).f1)).bind fun t418 => ((sextonref09_Same.f kj2 t418 l0).bind fun t421 => (if t421 = true then ((node_Drop.f kj2 t409 ((rd_T26 l0 a1).f0.f0) ((rd_T26 l0 a1).f0.f1)).bind fun t423 => ((sextonref09_Same.f kj2 t423 t409).bind fun t426 => (some t426))) else (some false)))) else (some false))) = some r := by rw [if_pos rfl] at H; exact H
                clear H
                have H := H1
                clear H1
                by_cases c23 : t414 = true
                · subst c23
                  have H1 : (some false) = some r := by rw [if_pos rfl] at H; exact H
                  exact absurd (H1.trans (congrArg some HRT.out)) (by decide)
                · replace c23 := Bool.eq_false_iff.mpr c23
                  subst c23
                  have H1 : (if (wrap64 ((t409.length : Int) + 1)) = (l0.length : Int) then ((node_Put.f kj2 t409 ((rd_T26 l0 a1).f0.f0) ((rd_T26 l0 a1).f0.f1) ((rd_T26 l0 a1).f1)).bind fun t418 => ((sextonref09_Same.f kj2 t418 l0).bind fun t421 => (if t421 = true then ((node_Drop.f kj2 t409 ((rd_T26 l0 a1).f0.f0) ((rd_T26 l0 a1).f0.f1)).bind fun t423 => ((sextonref09_Same.f kj2 t423 t409).bind fun t426 => (some t426))) else (some false)))) else (some false)) = some r := by rw [if_neg (show ¬ (false = true) by decide)] at H; exact H
                  clear H
                  have H := H1
                  clear H1
                  by_cases c29 : (wrap64 ((t409.length : Int) + 1)) = (l0.length : Int)
                  · rw [if_pos c29] at H
                    have c29b0 : ((wrap64 ((t409.length : Int) + 1)) == (l0.length : Int)) = true := beq_iff_eq.mpr c29
                    have c29b1 : ((wrap64 ((t409.length : Int) + 1)) != (l0.length : Int)) = false := bne_eq_false_iff_eq.mpr c29
                    clear c29
                    replace H := Option.bind_eq_some_iff.mp H
                    obtain ⟨t418, A300, H⟩ := H
                    replace H : ((sextonref09_Same.f kj2 t418 l0).bind fun t421 => (if t421 = true then ((node_Drop.f kj2 t409 ((rd_T26 l0 a1).f0.f0) ((rd_T26 l0 a1).f0.f1)).bind fun t423 => ((sextonref09_Same.f kj2 t423 t409).bind fun t426 => (some t426))) else (some false))) = some r := H
                    have A30 := Aside0.mk A300
                    clear A300
                    replace H := Option.bind_eq_some_iff.mp H
                    obtain ⟨t421, A310, H⟩ := H
                    replace H : (if t421 = true then ((node_Drop.f kj2 t409 ((rd_T26 l0 a1).f0.f0) ((rd_T26 l0 a1).f0.f1)).bind fun t423 => ((sextonref09_Same.f kj2 t423 t409).bind fun t426 => (some t426))) else (some false)) = some r := H
                    have A31 := Aside0.mk A310
                    clear A310
                    by_cases c32 : t421 = true
                    · subst c32
                      have H1 : ((node_Drop.f kj2 t409 ((rd_T26 l0 a1).f0.f0) ((rd_T26 l0 a1).f0.f1)).bind fun t423 => ((sextonref09_Same.f kj2 t423 t409).bind fun t426 => (some t426))) = some r := by rw [if_pos rfl] at H; exact H
                      clear H
                      have H := H1
                      clear H1
                      replace H := Option.bind_eq_some_iff.mp H
                      obtain ⟨t423, A330, H⟩ := H
                      replace H : ((sextonref09_Same.f kj2 t423 t409).bind fun t426 => (some t426)) = some r := H
                      have A33 := Aside0.mk A330
                      clear A330
                      replace H := Option.bind_eq_some_iff.mp H
                      obtain ⟨t426, A340, H⟩ := H
                      replace H : (some t426) = some r := H
                      have A34 := Aside0.mk A340
                      clear A340
                      obtain rfl := Option.some.inj H
                      have p408 : 0 ≤ (a1 : Int) := of_decide_eq_true (by first | (with_reducible assumption) | assumption)
                      have q408 : a1 < (l0.length : Int) := of_decide_eq_true (by first | (with_reducible assumption) | assumption)
                      obtain ⟨ad408, e408, hx408_0, hx408_1, hx408_2⟩ := at_T26 HR0.out a1 p408 q408
                      cases e408
                      replace hx408_0 := (HB.out.cell (World.block_lt_of_cell? w _ hx408_0)).trans hx408_0
                      replace hx408_1 := (HB.out.cell (World.block_lt_of_cell? w _ hx408_1)).trans hx408_1
                      replace hx408_2 := (HB.out.cell (World.block_lt_of_cell? w _ hx408_2)).trans hx408_2
                      replace p408 := eq_true p408
                      replace q408 := eq_true q408
                      go_wp2_with (first | ((with_reducible refine gate_callee (f := 19) rfl ?_); refine goesL_ (some 32) rfl rfl Try.func19 (by kernel_rfl) rfl #[.slice (some ad408) l0.length c0, .agg #[.string ((rd_T26 l0 a1).f0.f0), .int .i64 ((rd_T26 l0 a1).f0.f1)]] rfl (by (try simp only [List.map_toArray, List.map_cons, List.map_nil]); first | done | rfl | (simp only [List.length_drop, List.length_take]; rfl)) ?_; (with_reducible refine (node_Drop.calls kj2 (fun k_ => k_ < w.heap.size) _ _ l0 ((rd_T26 l0 a1).f0.f0) ((rd_T26 l0 a1).f0.f1) t409 _ ?side1 A17.out).mono ?_); (case side1 => exact Kd.V_mk HC0.out (Kd.F_below (Kd.C_F k26_heap HR0.out) (by repeat (first | (with_reducible first | exact HB.out | apply below_alloc | apply pw_below_drewN | apply below_drew1) | exact HB.out)))); rintro e w35 ⟨v410, rfl, ho0, hb⟩; refine ⟨_, rfl, ?_⟩; have n0_ := Aside0.mk (Kd.R_lower (Kd.R_mono (ok' := fun k_ => True) ho0 (fun _ hk_ => trivial)) (below_size (by repeat (first | (with_reducible first | exact HB.out | apply below_alloc | apply pw_below_drewN | apply below_drew1) | exact HB.out)))); have n1_ := Aside0.mk (below_step (by repeat (first | (with_reducible first | exact HB.out | apply below_alloc | apply pw_below_drewN | apply below_drew1) | exact HB.out)) hb); clear HB; have HO411 := n0_; have HB := n1_; clear n0_ n1_; (try clear hb); (try clear hb2); (try clear hk); (try clear hi); (try clear ho0); have p412 : 0 ≤ (a1 : Int) := of_decide_eq_true (by first | (with_reducible assumption) | assumption); have q412 : a1 < (l0.length : Int) := of_decide_eq_true (by first | (with_reducible assumption) | assumption); obtain ⟨ad412, e412, hx412_0, hx412_1, hx412_2⟩ := at_T26 HR0.out a1 p412 q412; obtain rfl : ad408 = ad412 := (by injection e412); replace hx412_0 := (HB.out.cell (World.block_lt_of_cell? w _ hx412_0)).trans hx412_0; replace hx412_1 := (HB.out.cell (World.block_lt_of_cell? w _ hx412_1)).trans hx412_1; replace hx412_2 := (HB.out.cell (World.block_lt_of_cell? w _ hx412_2)).trans hx412_2; replace p412 := eq_true p412; replace q412 := eq_true q412; obtain ⟨Ao36, co36, eo36⟩ := Kd.R_slice HO411.out; subst eo36) | ((with_reducible refine gate_callee (f := 15) rfl ?_); refine goesL_ (some 40) rfl rfl Try.func15 (by kernel_rfl) rfl #[.slice Ao36 t409.length co36, .agg #[.string ((rd_T26 l0 a1).f0.f0), .int .i64 ((rd_T26 l0 a1).f0.f1)]] rfl (by (try simp only [List.map_toArray, List.map_cons, List.map_nil]); first | done | rfl | (simp only [List.length_drop, List.length_take]; rfl)) ?_; (with_reducible refine (node_Find.calls _ _ t409 ((rd_T26 l0 a1).f0.f0) ((rd_T26 l0 a1).f0.f1) t413 false _ ?side1 ?side2 A18.out).mono ?_); (case side1 => repeat (first | exact (Kd.R_reads' HO411.out).2.2 | (with_reducible refine Kd.C_alloc ?_ _) | (with_reducible refine Kd.C_drewN ?_ _) | (with_reducible refine Kd.C_drew ?_))); (case side2 => exact (Kd.R_reads' HO411.out).2.1); rintro e w37 ⟨rfl, hb⟩; refine ⟨_, rfl, ?_⟩; have n0_ := Aside0.mk (Kd.R_below (by (with_reducible repeat (first | apply Kd.R_alloc | apply Kd.R_drewN | apply Kd.R_drew)); exact HO411.out) hb); have n1_ := Aside0.mk (below_step (by repeat (first | (with_reducible first | exact HB.out | apply below_alloc | apply pw_below_drewN | apply below_drew1) | exact HB.out)) hb); clear HO411; clear HB; have HO411 := n0_; have HB := n1_; clear n0_ n1_; (try clear hb); (try clear hb2); (try clear hk); (try clear hi)) | ((with_reducible refine gate_callee (f := 29) rfl ?_); refine goesL_ (some 43) rfl rfl Try.func29 (by kernel_rfl) rfl #[] rfl (by (try simp only [List.map_toArray, List.map_cons, List.map_nil]); first | done | rfl | (simp only [List.length_drop, List.length_take]; rfl)) ?_; (with_reducible refine (sextonlaw09_nodes.calls  true _ A19.out).mono ?_); rintro e w38 ⟨rfl, hb⟩; refine ⟨_, rfl, ?_⟩; have n0_ := Aside0.mk (Kd.R_below (by (with_reducible repeat (first | apply Kd.R_alloc | apply Kd.R_drewN | apply Kd.R_drew)); exact HO411.out) hb); have n1_ := Aside0.mk (below_step (by repeat (first | (with_reducible first | exact HB.out | apply below_alloc | apply pw_below_drewN | apply below_drew1) | exact HB.out)) hb); clear HO411; clear HB; have HO411 := n0_; have HB := n1_; clear n0_ n1_; (try clear hb); (try clear hb2); (try clear hk); (try clear hi)) | (go_at_call 26; (with_reducible refine (node_Is.calls kj2 _ _ t409 true _ ?side1 ?side2 A21.out).mono ?_); (case side1 => repeat (first | exact (Kd.R_reads' HO411.out).2.2 | (with_reducible refine Kd.C_alloc ?_ _) | (with_reducible refine Kd.C_drewN ?_ _) | (with_reducible refine Kd.C_drew ?_))); (case side2 => exact (Kd.R_reads' HO411.out).2.1); rintro e w39 ⟨rfl, hb⟩; have n0_ := Aside0.mk (Kd.R_below (by (with_reducible repeat (first | apply Kd.R_alloc | apply Kd.R_drewN | apply Kd.R_drew)); exact HO411.out) hb); have n1_ := Aside0.mk (below_step (by repeat (first | (with_reducible first | exact HB.out | apply below_alloc | apply pw_below_drewN | apply below_drew1) | exact HB.out)) hb); clear HO411; clear HB; have HO411 := n0_; have HB := n1_; clear n0_ n1_; (try clear hb); (try clear hb2); (try clear hk); (try clear hi); have p417 : 0 ≤ (a1 : Int) := of_decide_eq_true (by first | (with_reducible assumption) | assumption); have q417 : a1 < (l0.length : Int) := of_decide_eq_true (by first | (with_reducible assumption) | assumption); obtain ⟨ad417, e417, hx417_0, hx417_1, hx417_2⟩ := at_T26 HR0.out a1 p417 q417; obtain rfl : ad408 = ad417 := (by injection e417); replace hx417_0 := (HB.out.cell (World.block_lt_of_cell? w _ hx417_0)).trans hx417_0; replace hx417_1 := (HB.out.cell (World.block_lt_of_cell? w _ hx417_1)).trans hx417_1; replace hx417_2 := (HB.out.cell (World.block_lt_of_cell? w _ hx417_2)).trans hx417_2; replace p417 := eq_true p417; replace q417 := eq_true q417) | (go_at_call 17; (with_reducible refine (node_Put.calls kj2 (fun k_ => some k_ = (.slice Ao36 t409.length co36 : Value).ownBlock) _ _ t409 ((rd_T26 l0 a1).f0.f0) ((rd_T26 l0 a1).f0.f1) ((rd_T26 l0 a1).f1) t418 _ ?side1 A30.out).mono ?_); (case side1 => exact Kd.R_V (Kd.R_tight rfl (HO411.out))); rintro e w40 ⟨v419, rfl, ho0, hb⟩; have n0_ := Aside0.mk (Kd.R_elder' (by (with_reducible repeat (first | apply Kd.R_alloc | apply Kd.R_drewN | apply Kd.R_drew)); exact HO411.out) (Kd.R_base ho0) hb); have n1_ := Aside0.mk (Kd.R_lower (Kd.R_new' (Kd.R_mono (ok' := fun k_ => True) ho0 (fun _ hk_ => trivial)) (Kd.R_lt (by (with_reducible repeat (first | apply Kd.R_alloc | apply Kd.R_drewN | apply Kd.R_drew)); exact HO411.out))) (below_size (by repeat (first | (with_reducible first | exact HB.out | apply below_alloc | apply pw_below_drewN | apply below_drew1) | exact HB.out)))); have n2_ := Aside0.mk (below_step (by repeat (first | (with_reducible first | exact HB.out | apply below_alloc | apply pw_below_drewN | apply below_drew1) | exact HB.out)) hb); clear HO411; clear HB; have HO411 := n0_; have HO420 := n1_; have HB := n2_; clear n0_ n1_ n2_; (try clear hb); (try clear hb2); (try clear hk); (try clear hi); (try clear ho0); obtain ⟨Ao41, co41, eo41⟩ := Kd.R_slice HO420.out; subst eo41) | (go_at_call 25; (with_reducible refine (sextonref09_Same.calls kj2 _ _ t418 _ _ l0 true _ ?side1 ?side2 ?side3 ?side4 A31.out).mono ?_); (case side1 => repeat (first | exact (Kd.R_reads' HO420.out).2.2 | (with_reducible refine Kd.C_alloc ?_ _) | (with_reducible refine Kd.C_drewN ?_ _) | (with_reducible refine Kd.C_drew ?_))); (case side2 => exact (Kd.R_reads' HO420.out).2.1); (case side3 => repeat (first | exact (Kd.C_below HR0.out HB.out) | (with_reducible refine Kd.C_alloc ?_ _) | (with_reducible refine Kd.C_drewN ?_ _) | (with_reducible refine Kd.C_drew ?_))); (case side4 => exact HC0.out); rintro e w' ⟨rfl, ⟨nd, rfl⟩⟩; have p422 : 0 ≤ (a1 : Int) := of_decide_eq_true (by first | (with_reducible assumption) | assumption); have q422 : a1 < (l0.length : Int) := of_decide_eq_true (by first | (with_reducible assumption) | assumption); obtain ⟨ad422, e422, hx422_0, hx422_1, hx422_2⟩ := at_T26 HR0.out a1 p422 q422; obtain rfl : ad408 = ad422 := (by injection e422); replace hx422_0 := (HB.out.cell (World.block_lt_of_cell? w _ hx422_0)).trans hx422_0; replace hx422_1 := (HB.out.cell (World.block_lt_of_cell? w _ hx422_1)).trans hx422_1; replace hx422_2 := (HB.out.cell (World.block_lt_of_cell? w _ hx422_2)).trans hx422_2; replace p422 := eq_true p422; replace q422 := eq_true q422) | (go_at_call 19; (with_reducible refine (node_Drop.calls kj2 (fun k_ => some k_ = (.slice Ao36 t409.length co36 : Value).ownBlock) _ _ t409 ((rd_T26 l0 a1).f0.f0) ((rd_T26 l0 a1).f0.f1) t423 _ ?side1 A33.out).mono ?_); (case side1 => exact Kd.R_V (Kd.R_tight rfl (HO411.out))); rintro e w42 ⟨v424, rfl, ho0, hb⟩; have n0_ := Aside0.mk (Kd.R_elder' (by (with_reducible repeat (first | apply Kd.R_alloc | apply Kd.R_drewN | apply Kd.R_drew)); exact HO411.out) (Kd.R_base ho0) hb); have n1_ := Aside0.mk (Kd.R_elder' (by (with_reducible repeat (first | apply Kd.R_alloc | apply Kd.R_drewN | apply Kd.R_drew)); exact HO420.out) (Kd.R_base ho0) hb); have n2_ := Aside0.mk (Kd.R_lower (Kd.R_new' (Kd.R_new' (Kd.R_mono (ok' := fun k_ => True) ho0 (fun _ hk_ => trivial)) (Kd.R_lt (by (with_reducible repeat (first | apply Kd.R_alloc | apply Kd.R_drewN | apply Kd.R_drew)); exact HO411.out))) (Kd.R_lt (by (with_reducible repeat (first | apply Kd.R_alloc | apply Kd.R_drewN | apply Kd.R_drew)); exact HO420.out))) (below_size (by repeat (first | (with_reducible first | exact HB.out | apply below_alloc | apply pw_below_drewN | apply below_drew1) | exact HB.out)))); have n3_ := Aside0.mk (below_step (by repeat (first | (with_reducible first | exact HB.out | apply below_alloc | apply pw_below_drewN | apply below_drew1) | exact HB.out)) hb); clear HO411; clear HO420; clear HB; have HO411 := n0_; have HO420 := n1_; have HO425 := n2_; have HB := n3_; clear n0_ n1_ n2_ n3_; (try clear hb); (try clear hb2); (try clear hk); (try clear hi); (try clear ho0); obtain ⟨Ao43, co43, eo43⟩ := Kd.R_slice HO425.out; subst eo43) | (go_at_call 25; (with_reducible refine (sextonref09_Same.calls kj2 _ _ t423 _ _ t409 t426 _ ?side1 ?side2 ?side3 ?side4 A34.out).mono ?_); (case side1 => repeat (first | exact (Kd.R_reads' HO425.out).2.2 | (with_reducible refine Kd.C_alloc ?_ _) | (with_reducible refine Kd.C_drewN ?_ _) | (with_reducible refine Kd.C_drew ?_))); (case side2 => exact (Kd.R_reads' HO425.out).2.1); (case side3 => repeat (first | exact (Kd.R_reads' HO411.out).2.2 | (with_reducible refine Kd.C_alloc ?_ _) | (with_reducible refine Kd.C_drewN ?_ _) | (with_reducible refine Kd.C_drew ?_))); (case side4 => exact (Kd.R_reads' HO411.out).2.1); rintro e w' ⟨rfl, ⟨nd, rfl⟩⟩))
                      go_ret
                      exact ⟨by first | rfl | (simp [errW_none, errW_some] <;> rfl) | (simp [*, errW_none, errW_some] <;> rfl), by repeat (first | (with_reducible first | exact HB.out | apply below_alloc | apply pw_below_drewN | apply below_drew1) | exact HB.out)⟩
                    · replace c32 := Bool.eq_false_iff.mpr c32
                      subst c32
                      have H1 : (some false) = some r := by rw [if_neg (show ¬ (false = true) by decide)] at H; exact H
                      exact absurd (H1.trans (congrArg some HRT.out)) (by decide)
                  · rw [if_neg c29] at H
                    exact absurd (H.trans (congrArg some HRT.out)) (by decide)
              · replace c22 := Bool.eq_false_iff.mpr c22
                subst c22
                have H1 : (some false) = some r := by rw [if_neg (show ¬ (false = true) by decide)] at H; exact H
                exact absurd (H1.trans (congrArg some HRT.out)) (by decide)
            · replace c20 := Bool.eq_false_iff.mpr c20
              subst c20
              have H1 : (some false) = some r := by rw [if_neg (show ¬ (false = true) by decide)] at H; exact H
              exact absurd (H1.trans (congrArg some HRT.out)) (by decide)
          · rw [if_neg c16] at H
            exact absurd H (by simp)
        · rw [if_neg c15] at H
          exact absurd H (by simp)

end Go.Proofs.Ytoiohlmiofplcaa.P
