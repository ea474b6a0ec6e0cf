/-
  Texts that the claims of this chapter share, joined.
-/
import Derived.Test.YtoibofhmlokglaaPx0
import Derived.Test.YtoibofhmlokglaaC7dd
import Derived.Test.YtoibofhmlokglaaC7df
import Derived.Test.YtoibofhmlokglaaC7de
set_option linter.unusedVariables false
set_option linter.unusedSimpArgs false
-- Written by a program of this session (xprint.py) over the kit's print.py.
namespace Go.Proofs.Ytoibofhmlokglaa.P
open Go.RowKit Go.Proofs.YtoibofhmlokglaaW.PrintWords Go.Proofs.YtoibofhmlokglaaW.PrintLast Go.Proofs.YtoibofhmlokglaaW.PrintMore
attribute [local go_sem] max2_int min2_int max_two min_two max_three min_three max_four min_four   -- for this text's walks alone
set_option linter.unusedVariables false
set_option linter.unusedSimpArgs false

/-! ### sextonref07_All: function 34 -/
mutual
def sextonref07_All.j0 : Nat → Int → Int → List ByteArray → Int → Bool → List ByteArray → List (S40) → Option (List ByteArray × (List (S40)) × Bool × Int)
  | 0, _, _, _, _, _, _, _ => none
  | k + 1, x1, x2, x3, x4, x36, x487000, x487001 => if x36 = true then (sextonref07_All.j1 k x1 x2 x3 (wrap64 ((x3.length : Int) + 1)) x487000 x487001) else (sextonref07_All.j1 k x1 x2 x3 x4 x487000 x487001)
def sextonref07_All.j1 : Nat → Int → Int → List ByteArray → Int → List ByteArray → List (S40) → Option (List ByteArray × (List (S40)) × Bool × Int)
  | 0, _, _, _, _, _, _ => none
  | k + 1, x1, x2, x3, x4, x487000, x487001 => (sextonref04_Own.f x487000 x487001).bind fun bt489 => (sextonref07_All.l0 k x1 x2 x3 x4 0 bt489.1 bt489.2)
def sextonref07_All.l0 : Nat → Int → Int → List ByteArray → Int → Int → List ByteArray → List (S40) → Option (List ByteArray × (List (S40)) × Bool × Int)
  | 0, _, _, _, _, _, _, _ => none
  | k + 1, x1, x2, x3, x4, x15, x496000, x496001 => if x15 < (x3.length : Int) then (sextonref07_All.j3 k x1 x2 x3 x4 x15 (decide (x15 < x4)) x496000 x496001) else (sextonref07_All.j3 k x1 x2 x3 x4 x15 false x496000 x496001)
def sextonref07_All.j3 : Nat → Int → Int → List ByteArray → Int → Int → Bool → List ByteArray → List (S40) → Option (List ByteArray × (List (S40)) × Bool × Int)
  | 0, _, _, _, _, _, _, _, _ => none
  | k + 1, x1, x2, x3, x4, x15, x50, x496000, x496001 => if x50 = true then (if 0 ≤ x15 then (if x15 < (x3.length : Int) then ((sextonref07_Append.f k x496000 x496001 x1 x2 (rdOf ByteArray.empty x3 x15)).bind fun bt497 => (if bt497.2.2 = 0 then (sextonref07_All.l0 k x1 x2 x3 x4 (wrap64 (x15 + 1)) bt497.1 bt497.2.1) else (some (([] : List ByteArray), ([] : List (S40)), false, bt497.2.2)))) else (none)) else (none)) else (if x4 ≤ (x3.length : Int) then (some (x496000, x496001, false, 0)) else ((sextonref04_Sync.f k x496000 x496001).bind fun bt505 => (some (bt505.1, bt505.2.1, true, 0))))
end
def sextonref07_All.f (k : Nat) (l0_0 : List ByteArray) (l0_1 : List (S40)) (a1 : Int) (a2 : Int) (l3 : List ByteArray) (a4 : Int) : Option (List ByteArray × (List (S40)) × Bool × Int) := (sextonref07_open.f k l0_0 l0_1 a1 a2).bind fun t488 => (if t488 = 0 then (if a4 < 0 then (sextonref07_All.j0 k a1 a2 l3 a4 true l0_0 l0_1) else (sextonref07_All.j0 k a1 a2 l3 a4 (decide (a4 > (wrap64 ((l3.length : Int) + 1)))) l0_0 l0_1)) else (some (([] : List ByteArray), ([] : List (S40)), false, t488)))
def sextonref07_All.T10 : Bool × List (List Nat × List Nat) := (true, [([], []), ([], []), ([], []), ([], []), ([], []), ([3, 4], [3, 4]), ([5], [5]), ([0, 1, 2, 6], [0, 1, 2, 6]), ([7], [7]), ([8], [8]), ([8], [8]), ([], []), ([11, 9, 7, 0, 1, 2, 3, 4, 5, 6, 7, 8, 9, 11], [9, 11]), ([10, 12, 0, 1, 2, 3, 4, 5, 6, 7, 8, 9, 10, 11, 12], [10])])
def sextonref07_All.B10 : List Nat := [0, 0, 0, 0, 0, 24, 56, 127, 255, 511, 511, 0, 3071, 8191]
theorem sextonref07_All.tab10 : rtab .any (opsOf Try.f34 10) = sextonref07_All.T10 := by kernel_rfl
theorem sextonref07_All.bits10 : waitsOk sextonref07_All.T10.2 sextonref07_All.B10 = true := by kernel_rfl
set_option maxHeartbeats 8000000 in
set_option maxRecDepth 100000 in
theorem sextonref07_All.calls (k : Nat) (A0_0 : Option Addr) (c0_0 : Nat) (l0_0 : List ByteArray) (A0_1 : Option Addr) (c0_1 : Nat) (l0_1 : List (S40)) (a1 : Int) (a2 : Int) (A3 : Option Addr) (c3 : Nat) (l3 : List ByteArray) (a4 : Int) (r1 : List ByteArray) (r2 : List (S40)) (r3 : Bool) (r4 : Int) (w : World) (hr0_0 : Kd.C Kd.string w A0_0 l0_0.length l0_0) (hc0_0 : l0_0.length ≤ c0_0) (hr0_1 : Kd.C k40 w A0_1 l0_1.length l0_1) (hc0_1 : l0_1.length ≤ c0_1) (hr3 : Kd.C Kd.string w A3 l3.length l3) (hc3 : l3.length ≤ c3) (h : sextonref07_All.f k l0_0 l0_1 a1 a2 l3 a4 = some (r1, r2, r3, r4)) :
    Calls Try.prog 34 #[.agg #[.slice A0_0 l0_0.length c0_0, .slice A0_1 l0_1.length c0_1], .int .i64 a1, .int .i64 a2, .slice A3 l3.length c3, .int .i64 a4] w fun e w' => ∃ v0_ v1_ : Value, e = .returned (.tuple #[.agg #[v0_, v1_], .bool r3, .int .i64 r4]) ∧ Kd.R Kd.string 9 w' w.heap.size (fun _ => True) v0_ r1 ∧ Kd.R k40 40 w' w.heap.size (fun _ => True) v1_ r2 ∧ Below w.heap.size w w' := by
  have hu25 := Try.underlying25
  have HR0_0 := Aside0.mk hr0_0
  have HC0_0 := Aside0.mk hc0_0
  clear hr0_0 hc0_0
  have HR0_1 := Aside0.mk hr0_1
  have HC0_1 := Aside0.mk hc0_1
  clear hr0_1 hc0_1
  have HR3 := Aside0.mk hr3
  have HC3 := Aside0.mk hc3
  clear hr3 hc3
  have HB := Aside0.mk (Below.refl w.heap.size w)
  have H : ((sextonref07_open.f k l0_0 l0_1 a1 a2).bind fun t488 => (if t488 = 0 then (if a4 < 0 then (sextonref07_All.j0 k a1 a2 l3 a4 true l0_0 l0_1) else (sextonref07_All.j0 k a1 a2 l3 a4 (decide (a4 > (wrap64 ((l3.length : Int) + 1)))) l0_0 l0_1)) else (some (([] : List ByteArray), ([] : List (S40)), false, t488)))) = some (r1, r2, r3, r4) := h
  clear h
  replace H := Option.bind_eq_some_iff.mp H
  obtain ⟨t488, A60, H⟩ := H
  replace H : (if t488 = 0 then (if a4 < 0 then (sextonref07_All.j0 k a1 a2 l3 a4 true l0_0 l0_1) else (sextonref07_All.j0 k a1 a2 l3 a4 (decide (a4 > (wrap64 ((l3.length : Int) + 1)))) l0_0 l0_1)) else (some (([] : List ByteArray), ([] : List (S40)), false, t488))) = some (r1, r2, r3, r4) := H
  have A6 := Aside0.mk A60
  clear A60
  by_cases c7 : t488 = 0
  · rw [if_pos c7] at H
    have c7b0 : (t488 == 0) = true := beq_iff_eq.mpr c7
    have c7b1 : (t488 != 0) = false := bne_eq_false_iff_eq.mpr c7
    clear c7
    have HC8 := Aside0.mk H
    clear H
    go_enter Try.func34, Try.ntmps34
    go_upto_region 4 with (first | ((with_reducible refine gate_dst (N := 5) rfl ?_); (try (refine gate_guard (by rfl) ?_; dsimp only)); refine box_event ?hg (N := 5) ?hd (cs := #[.slice A0_0 l0_0.length c0_0, .slice A0_1 l0_1.length c0_1]) (t := 25) ?hr ?_; (case hd => rfl); (case hg => rfl); (case hr => first | (go_simp; done) | (go_simp; rfl)); intro gb486 hg w9 hbox hb; have n0_ := Aside0.mk (below_step (by repeat (first | (with_reducible first | exact HB.out | apply below_alloc | apply pw_below_drewN | apply below_drew1) | exact HB.out)) hb); have n1_ := Aside0.mk (hbox); have n2_ := Aside0.mk ((by rw [hg]; exact (below_size (by repeat (first | (with_reducible first | exact HB.out | apply below_alloc | apply pw_below_drewN | apply below_drew1) | exact HB.out))) : w.heap.size ≤ gb486)); have n3_ := Aside0.mk ((by rw [hg]; exact (below_size (by repeat (first | (with_reducible first | exact HB.out | apply below_alloc | apply pw_below_drewN | apply below_drew1) | exact HB.out))) : w.heap.size ≤ gb486)); clear HB; have HB := n0_; have BK486 := n1_; have GW486 := n2_; have GE486 := n3_; clear n0_ n1_ n2_ n3_; clear hb hbox hg) | ((with_reducible refine gate_dst (N := 10) rfl ?_); (try (refine gate_guard (by rfl) ?_; dsimp only)); refine box_event ?hg (N := 10) ?hd (cs := #[.slice none 0 0, .slice none 0 0]) (t := 25) ?hr ?_; (case hd => rfl); (case hg => rfl); (case hr => first | (go_simp; done) | (go_simp; rfl)); intro gb487 hg w10 hbox hb; have n0_ := Aside0.mk (blk_below (g := gb486) (o := .cells #[.slice A0_0 l0_0.length c0_0, .slice A0_1 l0_1.length c0_1] 25 (0, 0)) (by (with_reducible repeat (first | refine blk_drewN ?_ _ | refine blk_drew ?_ | refine blk_alloc ?_ _)); exact BK486.out) hb); have n1_ := Aside0.mk (below_step (by repeat (first | (with_reducible first | exact HB.out | apply below_alloc | apply pw_below_drewN | apply below_drew1 | refine below_set ?_ GE486.out) | exact HB.out)) hb); have n2_ := Aside0.mk (hbox); have n3_ := Aside0.mk ((by rw [hg]; exact (below_size (by repeat (first | (with_reducible first | exact HB.out | apply below_alloc | apply pw_below_drewN | apply below_drew1 | refine below_set ?_ GE486.out) | exact HB.out))) : w.heap.size ≤ gb487)); have n4_ := Aside0.mk ((by rw [hg]; exact (below_size (by repeat (first | (with_reducible first | exact HB.out | apply below_alloc | apply pw_below_drewN | apply below_drew1 | refine below_set ?_ GE486.out) | exact HB.out))) : w.heap.size ≤ gb487)); have n5_ := Aside0.mk ((by rw [hg]; exact Nat.ne_of_lt (blk_lt (g := gb486) (o := .cells #[.slice A0_0 l0_0.length c0_0, .slice A0_1 l0_1.length c0_1] 25 (0, 0)) (by (with_reducible repeat (first | refine blk_drewN ?_ _ | refine blk_drew ?_ | refine blk_alloc ?_ _)); exact BK486.out)) : gb486 ≠ gb487)); have n6_ := Aside0.mk ((by rw [hg]; exact Nat.ne_of_gt (blk_lt (g := gb486) (o := .cells #[.slice A0_0 l0_0.length c0_0, .slice A0_1 l0_1.length c0_1] 25 (0, 0)) (by (with_reducible repeat (first | refine blk_drewN ?_ _ | refine blk_drew ?_ | refine blk_alloc ?_ _)); exact BK486.out)) : gb487 ≠ gb486)); clear BK486; clear HB; have BK486 := n0_; have HB := n1_; have BK487 := n2_; have GW487 := n3_; have GE487 := n4_; have NB486_487 := n5_; have NB487_486 := n6_; clear n0_ n1_ n2_ n3_ n4_ n5_ n6_; clear hb hbox hg; have hnb11 := NB486_487.out; have hnc11 := NB487_486.out; have hcz12_0 : w10.cell? ⟨gb486, 0, none⟩ = some (.slice A0_0 l0_0.length c0_0) := (blk_cell BK486.out 0).trans rfl; have hcz12_1 : w10.cell? ⟨gb486, 1, none⟩ = some (.slice A0_1 l0_1.length c0_1) := (blk_cell BK486.out 1).trans rfl; have hfz12_0 := blk_frozen BK486.out 0; have hfz12_1 := blk_frozen BK486.out 1) | ((with_reducible refine gate_callee (f := 53) rfl ?_); refine goesL_ (some 23) rfl rfl Try.func53 (by kernel_rfl) rfl #[.agg #[.slice A0_0 l0_0.length c0_0, .slice A0_1 l0_1.length c0_1], .int .i64 a1, .int .i64 a2] rfl (by (try simp only [List.map_toArray, List.map_cons, List.map_nil]); first | done | rfl | (simp only [List.length_drop, List.length_take]; rfl)) ?_; (with_reducible refine (sextonref07_open.calls k _ _ l0_0 _ _ l0_1 a1 a2 t488 _ ?side1 ?side2 ?side3 ?side4 A6.out).mono ?_); (case side1 => repeat (first | exact (Kd.C_below HR0_0.out HB.out) | (with_reducible refine Kd.C_alloc ?_ _) | (with_reducible refine Kd.C_drewN ?_ _) | (with_reducible refine Kd.C_drew ?_))); (case side2 => exact HC0_0.out); (case side3 => repeat (first | exact (Kd.C_below HR0_1.out HB.out) | (with_reducible refine Kd.C_alloc ?_ _) | (with_reducible refine Kd.C_drewN ?_ _) | (with_reducible refine Kd.C_drew ?_))); (case side4 => exact HC0_1.out); rintro e w13 ⟨rfl, hb⟩; refine ⟨_, rfl, ?_⟩; have n0_ := Aside0.mk (blk_below (g := gb486) (o := .cells #[.slice A0_0 l0_0.length c0_0, .slice A0_1 l0_1.length c0_1] 25 (0, 0)) (by (with_reducible repeat (first | refine blk_drewN ?_ _ | refine blk_drew ?_ | refine blk_alloc ?_ _)); exact BK486.out) hb); have n1_ := Aside0.mk (blk_below (g := gb487) (o := .cells #[.slice none 0 0, .slice none 0 0] 25 (0, 0)) (by (with_reducible repeat (first | refine blk_drewN ?_ _ | refine blk_drew ?_ | refine blk_alloc ?_ _)); exact BK487.out) hb); have n2_ := Aside0.mk (below_step (by repeat (first | (with_reducible first | exact HB.out | apply below_alloc | apply pw_below_drewN | apply below_drew1 | refine below_set ?_ GE486.out | refine below_set ?_ GE487.out) | exact HB.out)) hb); clear BK486; clear BK487; clear HB; have BK486 := n0_; have BK487 := n1_; have HB := n2_; clear n0_ n1_ n2_; (try clear hb); (try clear hb2); (try clear hk); (try clear hi)))
    (try simp only [Act.put, List.setIfInBounds_toArray, List.set_cons_zero, List.set_cons_succ])
    go_cut [36] (fun v36 wc => ∃ (kq : Nat) (x36_7 : Bool), v36 = .bool x36_7 ∧ Aside0 (sextonref07_All.j0 kq a1 a2 l3 a4 x36_7 l0_0 l0_1 = some (r1, r2, r3, r4)) ∧ Aside0 (kq ≤ k) ∧ Aside0 (wc.heap[gb486]? = some (.cells #[(.slice A0_0 l0_0.length c0_0), (.slice A0_1 l0_1.length c0_1)] 25 (0, 0))) ∧ Aside0 (wc.heap[gb487]? = some (.cells #[(.slice none 0 0), (.slice none 0 0)] 25 (0, 0))) ∧ Aside0 (Below w.heap.size w wc))
    case first =>
      have H := HC8.out
      clear HC8
      by_cases c14 : a4 < 0
      · rw [if_pos c14] at H
        have c14b0 : decide (a4 < 0) = true := decide_eq_true c14
        clear c14
        (first | rw [c14b0] | (simp only [i64_w, i32_w]; rw [c14b0]) | skip)
        have H' := Aside0.mk H
        clear H
        go_wp2
        go_meet
        case rel => exact ⟨_, (true), (by first | rfl | (simp; done) | (simp [*]; done)), H', ⟨by first | omega | exact Nat.le_refl _⟩, ⟨by (with_reducible repeat (first | refine blk_drewN ?_ _ | refine blk_drew ?_ | refine blk_alloc ?_ _)); exact BK486.out⟩, ⟨by (with_reducible repeat (first | refine blk_drewN ?_ _ | refine blk_drew ?_ | refine blk_alloc ?_ _)); exact BK487.out⟩, ⟨by repeat (first | (with_reducible first | exact HB.out | apply below_alloc | apply pw_below_drewN | apply below_drew1 | refine below_set ?_ GE486.out | refine below_set ?_ GE487.out) | exact HB.out)⟩⟩
      · rw [if_neg c14] at H
        have c14b0 : decide (a4 < 0) = false := decide_eq_false c14
        clear c14
        (first | rw [c14b0] | (simp only [i64_w, i32_w]; rw [c14b0]) | skip)
        have H' := Aside0.mk H
        clear H
        go_wp2
        go_meet
        case rel => exact ⟨_, (decide (a4 > (wrap64 ((l3.length : Int) + 1)))), (by first | rfl | (simp; done) | (simp [*]; done)), H', ⟨by first | omega | exact Nat.le_refl _⟩, ⟨by (with_reducible repeat (first | refine blk_drewN ?_ _ | refine blk_drew ?_ | refine blk_alloc ?_ _)); exact BK486.out⟩, ⟨by (with_reducible repeat (first | refine blk_drewN ?_ _ | refine blk_drew ?_ | refine blk_alloc ?_ _)); exact BK487.out⟩, ⟨by repeat (first | (with_reducible first | exact HB.out | apply below_alloc | apply pw_below_drewN | apply below_drew1 | refine below_set ?_ GE486.out | refine below_set ?_ GE487.out) | exact HB.out)⟩⟩
    case rest =>
      clear HC8
      try clear c1
      try clear p2
      try clear c3
      try clear c5
      try clear p6
      try clear c7
      try clear c7b0
      try clear c7b1
      try clear c11
      try clear c14
      try clear c14b0
      try clear hcz12_0
      try clear hcz12_1
      try clear hfz12_0
      try clear hfz12_1
      obtain ⟨kq, x36_7, rfl, HA, HJ7, BK486, BK487, HB⟩ := hcut
      cases kq with
      | zero => exact absurd HA.out (by simp [sextonref07_All.j0])
      | succ kj7 =>
        have H := HA.out
        clear HA
        simp only [sextonref07_All.j0] at H
        have HC15 := Aside0.mk H
        clear H
        go_upto_if 36 with (fail)
        go_cut [4] (fun v4 wc => ∃ (kq : Nat) (x4_14 : Int), v4 = .int .i64 x4_14 ∧ Aside0 (sextonref07_All.j1 kq a1 a2 l3 x4_14 l0_0 l0_1 = some (r1, r2, r3, r4)) ∧ Aside0 (kq ≤ kj7) ∧ Aside0 (wc.heap[gb486]? = some (.cells #[(.slice A0_0 l0_0.length c0_0), (.slice A0_1 l0_1.length c0_1)] 25 (0, 0))) ∧ Aside0 (wc.heap[gb487]? = some (.cells #[(.slice none 0 0), (.slice none 0 0)] 25 (0, 0))) ∧ Aside0 (Below w.heap.size w wc))
        case first =>
          have H := HC15.out
          clear HC15
          by_cases c16 : x36_7 = true
          · subst c16
            have H1 : (sextonref07_All.j1 kj7 a1 a2 l3 (wrap64 ((l3.length : Int) + 1)) l0_0 l0_1) = some (r1, r2, r3, r4) := by rw [if_pos rfl] at H; exact H
            clear H
            have H := H1
            clear H1
            have H' := Aside0.mk H
            clear H
            go_wp2
            go_meet
            case rel => exact ⟨_, (wrap64 ((l3.length : Int) + 1)), (by first | rfl | (simp; done) | (simp [*]; done)), H', ⟨by have := HJ7.out; first | omega | exact Nat.le_refl _⟩, ⟨by (with_reducible repeat (first | refine blk_drewN ?_ _ | refine blk_drew ?_ | refine blk_alloc ?_ _)); exact BK486.out⟩, ⟨by (with_reducible repeat (first | refine blk_drewN ?_ _ | refine blk_drew ?_ | refine blk_alloc ?_ _)); exact BK487.out⟩, ⟨by repeat (first | (with_reducible first | exact HB.out | apply below_alloc | apply pw_below_drewN | apply below_drew1 | refine below_set ?_ GE486.out | refine below_set ?_ GE487.out) | exact HB.out)⟩⟩
          · replace c16 := Bool.eq_false_iff.mpr c16
            subst c16
            have H1 : (sextonref07_All.j1 kj7 a1 a2 l3 a4 l0_0 l0_1) = some (r1, r2, r3, r4) := by rw [if_neg (show ¬ (false = true) by decide)] at H; exact H
            clear H
            have H := H1
            clear H1
            have H' := Aside0.mk H
            clear H
            go_wp2
            go_meet
            case rel => exact ⟨_, (a4), (by first | rfl | (simp; done) | (simp [*]; done)), H', ⟨by have := HJ7.out; first | omega | exact Nat.le_refl _⟩, ⟨by (with_reducible repeat (first | refine blk_drewN ?_ _ | refine blk_drew ?_ | refine blk_alloc ?_ _)); exact BK486.out⟩, ⟨by (with_reducible repeat (first | refine blk_drewN ?_ _ | refine blk_drew ?_ | refine blk_alloc ?_ _)); exact BK487.out⟩, ⟨by repeat (first | (with_reducible first | exact HB.out | apply below_alloc | apply pw_below_drewN | apply below_drew1 | refine below_set ?_ GE486.out | refine below_set ?_ GE487.out) | exact HB.out)⟩⟩
        case rest =>
          clear HC15
          try clear c1
          try clear p2
          try clear c3
          try clear c5
          try clear p6
          try clear c7
          try clear c7b0
          try clear c7b1
          try clear c11
          try clear c14
          try clear c14b0
          try clear c16
          try clear hcz12_0
          try clear hcz12_1
          try clear hfz12_0
          try clear hfz12_1
          try clear p2
          try clear p6
          obtain ⟨kq, x4_14, rfl, HA, HJ14, BK486, BK487, HB⟩ := hcut
          cases kq with
          | zero => exact absurd HA.out (by simp [sextonref07_All.j1])
          | succ kj14 =>
            have H := HA.out
            clear HA
            simp only [sextonref07_All.j1] at H
            replace H := Option.bind_eq_some_iff.mp H
            obtain ⟨⟨t489, t492⟩, A170, H⟩ := H
            replace H : (sextonref07_All.l0 kj14 a1 a2 l3 x4_14 0 t489 t492) = some (r1, r2, r3, r4) := H
            have A17 := Aside0.mk A170
            clear A170
            have H' := Aside0.mk H
            clear H
            have hnb18 := NB486_487.out
            have hnc18 := NB487_486.out
            have hcz19_0 : wc.cell? ⟨gb486, 0, none⟩ = some (.slice A0_0 l0_0.length c0_0) := (blk_cell BK486.out 0).trans rfl
            have hcz19_1 : wc.cell? ⟨gb486, 1, none⟩ = some (.slice A0_1 l0_1.length c0_1) := (blk_cell BK486.out 1).trans rfl
            have hfz19_0 := blk_frozen BK486.out 0
            have hfz19_1 := blk_frozen BK486.out 1
            go_wp2_with (first | ((with_reducible refine gate_callee (f := 12) rfl ?_); refine goesL_ (some 41) rfl rfl Try.func12 (by kernel_rfl) rfl #[.agg #[.slice A0_0 l0_0.length c0_0, .slice A0_1 l0_1.length c0_1]] rfl (by (try simp only [List.map_toArray, List.map_cons, List.map_nil]); first | done | rfl | (simp only [List.length_drop, List.length_take]; rfl)) ?_; (with_reducible refine (sextonref04_Own.calls _ _ l0_0 _ _ l0_1 t489 t492 _ ?side1 ?side2 ?side3 ?side4 A17.out).mono ?_); (case side1 => repeat (first | exact (Kd.C_below HR0_0.out HB.out) | (with_reducible refine Kd.C_alloc ?_ _) | (with_reducible refine Kd.C_drewN ?_ _) | (with_reducible refine Kd.C_drew ?_))); (case side2 => exact HC0_0.out); (case side3 => repeat (first | exact (Kd.C_below HR0_1.out HB.out) | (with_reducible refine Kd.C_alloc ?_ _) | (with_reducible refine Kd.C_drewN ?_ _) | (with_reducible refine Kd.C_drew ?_))); (case side4 => exact HC0_1.out); rintro e w20 ⟨v490, v493, rfl, ho0, ho1, hb⟩; refine ⟨_, rfl, ?_⟩; have n0_ := Aside0.mk (Kd.R_lower ho0 (below_size (by repeat (first | (with_reducible first | exact HB.out | apply below_alloc | apply pw_below_drewN | apply below_drew1 | refine below_set ?_ GE486.out | refine below_set ?_ GE487.out) | exact HB.out)))); have n1_ := Aside0.mk (Kd.R_lower ho1 (below_size (by repeat (first | (with_reducible first | exact HB.out | apply below_alloc | apply pw_below_drewN | apply below_drew1 | refine below_set ?_ GE486.out | refine below_set ?_ GE487.out) | exact HB.out)))); have n2_ := Aside0.mk (blk_below (g := gb486) (o := .cells #[.slice A0_0 l0_0.length c0_0, .slice A0_1 l0_1.length c0_1] 25 (0, 0)) (by (with_reducible repeat (first | refine blk_drewN ?_ _ | refine blk_drew ?_ | refine blk_alloc ?_ _)); exact BK486.out) hb); have n3_ := Aside0.mk (blk_below (g := gb487) (o := .cells #[.slice none 0 0, .slice none 0 0] 25 (0, 0)) (by (with_reducible repeat (first | refine blk_drewN ?_ _ | refine blk_drew ?_ | refine blk_alloc ?_ _)); exact BK487.out) hb); have n4_ := Aside0.mk (below_step (by repeat (first | (with_reducible first | exact HB.out | apply below_alloc | apply pw_below_drewN | apply below_drew1 | refine below_set ?_ GE486.out | refine below_set ?_ GE487.out) | exact HB.out)) hb); clear BK486; clear BK487; clear HB; have HO491 := n0_; have HO494 := n1_; have BK486 := n2_; have BK487 := n3_; have HB := n4_; clear n0_ n1_ n2_ n3_ n4_; (try clear hb); (try clear hb2); (try clear hk); (try clear hi); (try clear ho0); (try clear ho1)) | ((with_reducible refine gate_dst (N := 14) rfl ?_); (try (refine gate_guard (by rfl) ?_; dsimp only)); refine box_event ?hg (N := 14) ?hd (cs := #[.slice none 0 0, .slice none 0 0]) (t := 25) ?hr ?_; (case hd => rfl); (case hg => rfl); (case hr => first | (go_simp; done) | (go_simp; rfl)); intro gb495 hg w21 hbox hb; have n0_ := Aside0.mk (Kd.R_below (by (with_reducible repeat (first | apply Kd.R_alloc | apply Kd.R_drewN | apply Kd.R_drew)); exact HO491.out) hb); have n1_ := Aside0.mk (Kd.R_below (by (with_reducible repeat (first | apply Kd.R_alloc | apply Kd.R_drewN | apply Kd.R_drew)); exact HO494.out) hb); have n2_ := Aside0.mk (blk_below (g := gb486) (o := .cells #[.slice A0_0 l0_0.length c0_0, .slice A0_1 l0_1.length c0_1] 25 (0, 0)) (by (with_reducible repeat (first | refine blk_drewN ?_ _ | refine blk_drew ?_ | refine blk_alloc ?_ _)); exact BK486.out) hb); have n3_ := Aside0.mk (blk_below (g := gb487) (o := .cells #[.slice none 0 0, .slice none 0 0] 25 (0, 0)) (by (with_reducible repeat (first | refine blk_drewN ?_ _ | refine blk_drew ?_ | refine blk_alloc ?_ _)); exact BK487.out) hb); have n4_ := Aside0.mk (below_step (by repeat (first | (with_reducible first | exact HB.out | apply below_alloc | apply pw_below_drewN | apply below_drew1 | refine below_set ?_ GE486.out | refine below_set ?_ GE487.out) | exact HB.out)) hb); have n5_ := Aside0.mk (hbox); have n6_ := Aside0.mk ((by rw [hg]; exact (below_size (by repeat (first | (with_reducible first | exact HB.out | apply below_alloc | apply pw_below_drewN | apply below_drew1 | refine below_set ?_ GE486.out | refine below_set ?_ GE487.out) | exact HB.out))) : w.heap.size ≤ gb495)); have n7_ := Aside0.mk ((by rw [hg]; exact (below_size (by repeat (first | (with_reducible first | exact HB.out | apply below_alloc | apply pw_below_drewN | apply below_drew1 | refine below_set ?_ GE486.out | refine below_set ?_ GE487.out) | exact HB.out))) : w.heap.size ≤ gb495)); have n8_ := Aside0.mk ((by rw [hg]; exact Nat.ne_of_lt (blk_lt (g := gb486) (o := .cells #[.slice A0_0 l0_0.length c0_0, .slice A0_1 l0_1.length c0_1] 25 (0, 0)) (by (with_reducible repeat (first | refine blk_drewN ?_ _ | refine blk_drew ?_ | refine blk_alloc ?_ _)); exact BK486.out)) : gb486 ≠ gb495)); have n9_ := Aside0.mk ((by rw [hg]; exact Nat.ne_of_gt (blk_lt (g := gb486) (o := .cells #[.slice A0_0 l0_0.length c0_0, .slice A0_1 l0_1.length c0_1] 25 (0, 0)) (by (with_reducible repeat (first | refine blk_drewN ?_ _ | refine blk_drew ?_ | refine blk_alloc ?_ _)); exact BK486.out)) : gb495 ≠ gb486)); have n10_ := Aside0.mk ((by rw [hg]; exact Nat.ne_of_lt (blk_lt (g := gb487) (o := .cells #[.slice none 0 0, .slice none 0 0] 25 (0, 0)) (by (with_reducible repeat (first | refine blk_drewN ?_ _ | refine blk_drew ?_ | refine blk_alloc ?_ _)); exact BK487.out)) : gb487 ≠ gb495)); have n11_ := Aside0.mk ((by rw [hg]; exact Nat.ne_of_gt (blk_lt (g := gb487) (o := .cells #[.slice none 0 0, .slice none 0 0] 25 (0, 0)) (by (with_reducible repeat (first | refine blk_drewN ?_ _ | refine blk_drew ?_ | refine blk_alloc ?_ _)); exact BK487.out)) : gb495 ≠ gb487)); clear HO491; clear HO494; clear BK486; clear BK487; clear HB; have HO491 := n0_; have HO494 := n1_; have BK486 := n2_; have BK487 := n3_; have HB := n4_; have BK495 := n5_; have GW495 := n6_; have GE495 := n7_; have NB486_495 := n8_; have NB495_486 := n9_; have NB487_495 := n10_; have NB495_487 := n11_; clear n0_ n1_ n2_ n3_ n4_ n5_ n6_ n7_ n8_ n9_ n10_ n11_; clear hb hbox hg; obtain ⟨Ao22, co22, eo22⟩ := Kd.R_slice HO491.out; subst eo22; have hnb23 := NB495_486.out; have hnc23 := NB486_495.out; have hnb24 := NB495_487.out; have hnc24 := NB487_495.out; have hcz25_0 : w21.cell? ⟨gb495, 0, none⟩ = some (.slice none 0 0) := (blk_cell BK495.out 0).trans rfl; have hcz25_1 : w21.cell? ⟨gb495, 1, none⟩ = some (.slice none 0 0) := (blk_cell BK495.out 1).trans rfl; have hfz25_0 := blk_frozen BK495.out 0; have hfz25_1 := blk_frozen BK495.out 1; obtain ⟨Ao26, co26, eo26⟩ := Kd.R_slice HO494.out; subst eo26))
            go_loopg [15] kj14 (fun kq v15 w' => ∃ (x15_3 : Int) (x496000_3 : List ByteArray) (x496001_3 : List (S40)) (u496000 : Value) (u496001 : Value), v15 = .int .i64 x15_3 ∧ Aside0 (sextonref07_All.l0 kq a1 a2 l3 x4_14 x15_3 x496000_3 x496001_3 = some (r1, r2, r3, r4)) ∧ Aside0 (kq ≤ kj14) ∧ Aside0 (Kd.R Kd.string 9 w' w.heap.size (fun _ => True) u496000 x496000_3) ∧ Aside0 (Kd.R k40 40 w' w.heap.size (fun _ => True) u496001 x496001_3) ∧ Aside0 (w'.heap[gb486]? = some (.cells #[(.slice A0_0 l0_0.length c0_0), (.slice A0_1 l0_1.length c0_1)] 25 (0, 0))) ∧ Aside0 (w'.heap[gb487]? = some (.cells #[(.slice none 0 0), (.slice none 0 0)] 25 (0, 0))) ∧ Aside0 (w'.heap[gb495]? = some (.cells #[u496000, u496001] 25 (0, 0))) ∧ Aside0 (Below w.heap.size w w'))
            case atStart => exact ⟨(0), (t489), (t492), (.slice Ao22 t489.length co22), (.slice Ao26 t492.length co26), (by first | rfl | (simp; done) | (simp [*]; done)), H', ⟨Nat.le_refl _⟩, ⟨by (with_reducible repeat (first | apply Kd.R_alloc | apply Kd.R_drewN | apply Kd.R_drew)); exact Kd.R_mono (Kd.R_far (p := ⟨gb495, 1, none⟩) (Kd.R_far (p := ⟨gb495, 0, none⟩) (Kd.R_types HO491.out BK495.out (by decide)) (fun _ hk => hk.2) (.slice Ao22 t489.length co22)) (fun _ hk => hk.2) (.slice Ao26 t492.length co26)) (fun _ hk => trivial)⟩, ⟨by (with_reducible repeat (first | apply Kd.R_alloc | apply Kd.R_drewN | apply Kd.R_drew)); exact Kd.R_mono (Kd.R_far (p := ⟨gb495, 1, none⟩) (Kd.R_far (p := ⟨gb495, 0, none⟩) (Kd.R_types HO494.out BK495.out (by decide)) (fun _ hk => hk.2) (.slice Ao22 t489.length co22)) (fun _ hk => hk.2) (.slice Ao26 t492.length co26)) (fun _ hk => trivial)⟩, ⟨by (with_reducible repeat (first | refine blk_drewN ?_ _ | refine blk_drew ?_ | refine blk_alloc ?_ _)); refine blk_far ?_ NB486_495.out _; (with_reducible repeat (first | refine blk_drewN ?_ _ | refine blk_drew ?_ | refine blk_alloc ?_ _)); refine blk_far ?_ NB486_495.out _; (with_reducible repeat (first | refine blk_drewN ?_ _ | refine blk_drew ?_ | refine blk_alloc ?_ _)); exact BK486.out⟩, ⟨by (with_reducible repeat (first | refine blk_drewN ?_ _ | refine blk_drew ?_ | refine blk_alloc ?_ _)); refine blk_far ?_ NB487_495.out _; (with_reducible repeat (first | refine blk_drewN ?_ _ | refine blk_drew ?_ | refine blk_alloc ?_ _)); refine blk_far ?_ NB487_495.out _; (with_reducible repeat (first | refine blk_drewN ?_ _ | refine blk_drew ?_ | refine blk_alloc ?_ _)); exact BK487.out⟩, ⟨by (with_reducible repeat (first | refine blk_drewN ?_ _ | refine blk_drew ?_ | refine blk_alloc ?_ _)); refine blk_put (cs := #[.slice Ao22 t489.length co22, .slice none 0 0]) ?_ 1 _ rfl; (with_reducible repeat (first | refine blk_drewN ?_ _ | refine blk_drew ?_ | refine blk_alloc ?_ _)); refine blk_put (cs := #[.slice none 0 0, .slice none 0 0]) ?_ 0 _ rfl; (with_reducible repeat (first | refine blk_drewN ?_ _ | refine blk_drew ?_ | refine blk_alloc ?_ _)); exact BK495.out⟩, ⟨by repeat (first | (with_reducible first | exact HB.out | apply below_alloc | apply pw_below_drewN | apply below_drew1 | refine below_set ?_ GE486.out | refine below_set ?_ GE487.out | refine below_set ?_ GE495.out) | exact HB.out)⟩⟩
            case round =>
              clear H'
              try clear c1
              try clear c2
              try clear p2
              try clear c3
              try clear c5
              try clear p6
              try clear c7
              try clear c7b0
              try clear c7b1
              try clear c11
              try clear c12
              try clear c14
              try clear c14b0
              try clear c16
              try clear c18
              try clear c23
              try clear c24
              try clear hcz12_0
              try clear hcz12_1
              try clear hcz19_0
              try clear hcz19_1
              try clear hcz25_0
              try clear hcz25_1
              try clear hfz12_0
              try clear hfz12_1
              try clear hfz19_0
              try clear hfz19_1
              try clear hfz25_0
              try clear hfz25_1
              try clear p2
              try clear p6
              obtain ⟨x15_3, x496000_3, x496001_3, u496000, u496001, rfl, HA, HK3, HO_496000, HO_496001, BK486, BK487, BK495, HB⟩ := hrel
              cases gk with
              | zero => exact absurd HA.out (by simp [sextonref07_All.l0])
              | succ k3 =>
                have H := HA.out
                clear HA
                simp only [sextonref07_All.l0] at H
                have HC27 := Aside0.mk H
                clear H
                go_upto_region 8 with (fail)
                go_cut [50] (fun v50 wc => ∃ (kq : Nat) (x50_26 : Bool), v50 = .bool x50_26 ∧ Aside0 (sextonref07_All.j3 kq a1 a2 l3 x4_14 x15_3 x50_26 x496000_3 x496001_3 = some (r1, r2, r3, r4)) ∧ Aside0 (kq ≤ k3) ∧ Aside0 (Kd.R Kd.string 9 wc w.heap.size (fun _ => True) u496000 x496000_3) ∧ Aside0 (Kd.R k40 40 wc w.heap.size (fun _ => True) u496001 x496001_3) ∧ Aside0 (wc.heap[gb486]? = some (.cells #[(.slice A0_0 l0_0.length c0_0), (.slice A0_1 l0_1.length c0_1)] 25 (0, 0))) ∧ Aside0 (wc.heap[gb487]? = some (.cells #[(.slice none 0 0), (.slice none 0 0)] 25 (0, 0))) ∧ Aside0 (wc.heap[gb495]? = some (.cells #[u496000, u496001] 25 (0, 0))) ∧ Aside0 (Below w.heap.size w wc))
                case first =>
                  have H := HC27.out
                  clear HC27
                  by_cases c28 : x15_3 < (l3.length : Int)
                  · rw [if_pos c28] at H
                    have c28b0 : decide (x15_3 < (l3.length : Int)) = true := decide_eq_true c28
                    clear c28
                    (first | rw [c28b0] | (simp only [i64_w, i32_w]; rw [c28b0]) | skip)
                    have H' := Aside0.mk H
                    clear H
                    go_wp2
                    go_meet
                    case rel => exact ⟨_, (decide (x15_3 < x4_14)), (by first | rfl | (simp; done) | (simp [*]; done)), H', ⟨by have := HJ7.out; have := HJ14.out; have := HK3.out; first | omega | exact Nat.le_refl _⟩, ⟨by (with_reducible repeat (first | apply Kd.R_alloc | apply Kd.R_drewN | apply Kd.R_drew)); exact HO_496000.out⟩, ⟨by (with_reducible repeat (first | apply Kd.R_alloc | apply Kd.R_drewN | apply Kd.R_drew)); exact HO_496001.out⟩, ⟨by (with_reducible repeat (first | refine blk_drewN ?_ _ | refine blk_drew ?_ | refine blk_alloc ?_ _)); exact BK486.out⟩, ⟨by (with_reducible repeat (first | refine blk_drewN ?_ _ | refine blk_drew ?_ | refine blk_alloc ?_ _)); exact BK487.out⟩, ⟨by (with_reducible repeat (first | refine blk_drewN ?_ _ | refine blk_drew ?_ | refine blk_alloc ?_ _)); exact BK495.out⟩, ⟨by repeat (first | (with_reducible first | exact HB.out | apply below_alloc | apply pw_below_drewN | apply below_drew1 | refine below_set ?_ GE486.out | refine below_set ?_ GE487.out | refine below_set ?_ GE495.out) | exact HB.out)⟩⟩
                  · rw [if_neg c28] at H
                    have c28b0 : decide (x15_3 < (l3.length : Int)) = false := decide_eq_false c28
                    clear c28
                    (first | rw [c28b0] | (simp only [i64_w, i32_w]; rw [c28b0]) | skip)
                    have H' := Aside0.mk H
                    clear H
                    go_wp2
                    go_meet
                    case rel => exact ⟨_, (false), (by first | rfl | (simp; done) | (simp [*]; done)), H', ⟨by have := HJ7.out; have := HJ14.out; have := HK3.out; first | omega | exact Nat.le_refl _⟩, ⟨by (with_reducible repeat (first | apply Kd.R_alloc | apply Kd.R_drewN | apply Kd.R_drew)); exact HO_496000.out⟩, ⟨by (with_reducible repeat (first | apply Kd.R_alloc | apply Kd.R_drewN | apply Kd.R_drew)); exact HO_496001.out⟩, ⟨by (with_reducible repeat (first | refine blk_drewN ?_ _ | refine blk_drew ?_ | refine blk_alloc ?_ _)); exact BK486.out⟩, ⟨by (with_reducible repeat (first | refine blk_drewN ?_ _ | refine blk_drew ?_ | refine blk_alloc ?_ _)); exact BK487.out⟩, ⟨by (with_reducible repeat (first | refine blk_drewN ?_ _ | refine blk_drew ?_ | refine blk_alloc ?_ _)); exact BK495.out⟩, ⟨by repeat (first | (with_reducible first | exact HB.out | apply below_alloc | apply pw_below_drewN | apply below_drew1 | refine below_set ?_ GE486.out | refine below_set ?_ GE487.out | refine below_set ?_ GE495.out) | exact HB.out)⟩⟩
                case rest =>
                  clear HC27
                  try clear c1
                  try clear c2
                  try clear p2
                  try clear c3
                  try clear c5
                  try clear p6
                  try clear c7
                  try clear c7b0
                  try clear c7b1
                  try clear c11
                  try clear c12
                  try clear c14
                  try clear c14b0
                  try clear c16
                  try clear c18
                  try clear c23
                  try clear c24
                  try clear c28
                  try clear c28b0
                  try clear hcz12_0
                  try clear hcz12_1
                  try clear hcz19_0
                  try clear hcz19_1
                  try clear hcz25_0
                  try clear hcz25_1
                  try clear hfz12_0
                  try clear hfz12_1
                  try clear hfz19_0
                  try clear hfz19_1
                  try clear hfz25_0
                  try clear hfz25_1
                  try clear p2
                  try clear p6
                  obtain ⟨kq, x50_26, rfl, HA, HJ26, HO_496000, HO_496001, BK486, BK487, BK495, HB⟩ := hcut
                  cases kq with
                  | zero => exact absurd HA.out (by simp [sextonref07_All.j3])
                  | succ kj26 =>
                    have H := HA.out
                    clear HA
                    simp only [sextonref07_All.j3] at H
                    by_cases c29 : x50_26 = true
                    · subst c29
                      have H1 : (if 0 ≤ x15_3 then (if x15_3 < (l3.length : Int) then ((sextonref07_Append.f kj26 x496000_3 x496001_3 a1 a2 (rdOf ByteArray.empty l3 x15_3)).bind fun bt497 => (if bt497.2.2 = 0 then (sextonref07_All.l0 kj26 a1 a2 l3 x4_14 (wrap64 (x15_3 + 1)) bt497.1 bt497.2.1) else (some (([] : List ByteArray), ([] : List (S40)), false, bt497.2.2)))) else (none)) else (none)) = some (r1, r2, r3, r4) := by rw [if_pos rfl] at H; exact H
                      clear H
                      have H := H1
                      clear H1
                      by_cases c30 : 0 ≤ x15_3
                      · rw [if_pos c30] at H
                        have c30b0 : decide (0 ≤ x15_3) = true := decide_eq_true c30
                        clear c30
                        by_cases c31 : x15_3 < (l3.length : Int)
                        · rw [if_pos c31] at H
                          have c31b0 : decide (x15_3 < (l3.length : Int)) = true := decide_eq_true c31
                          clear c31
                          replace H := Option.bind_eq_some_iff.mp H
                          obtain ⟨⟨t497, t500, t503⟩, A320, H⟩ := H
                          replace H : (if t503 = 0 then (sextonref07_All.l0 kj26 a1 a2 l3 x4_14 (wrap64 (x15_3 + 1)) t497 t500) else (some (([] : List ByteArray), ([] : List (S40)), false, t503))) = some (r1, r2, r3, r4) := H
                          have A32 := Aside0.mk A320
                          clear A320
                          by_cases c33 : t503 = 0
                          · rw [if_pos c33] at H
                            have c33b0 : (t503 == 0) = true := beq_iff_eq.mpr c33
                            have c33b1 : (t503 != 0) = false := bne_eq_false_iff_eq.mpr c33
                            clear c33
                            have H' := Aside0.mk H
                            clear H
                            obtain ⟨Ao34, co34, eo34⟩ := Kd.R_slice HO_496000.out
                            subst eo34
                            obtain ⟨Ao35, co35, eo35⟩ := Kd.R_slice HO_496001.out
                            subst eo35
                            try go_wp2
                            have n0_ := Aside0.mk (Kd.R_drew HO_496000.out)
                            have n1_ := Aside0.mk (Kd.R_drew HO_496001.out)
                            have n2_ := Aside0.mk (blk_drew BK486.out)
                            have n3_ := Aside0.mk (blk_drew BK487.out)
                            have n4_ := Aside0.mk (blk_drew BK495.out)
                            have n5_ := Aside0.mk (below_drew1 HB.out)
                            clear HO_496000
                            clear HO_496001
                            clear BK486
                            clear BK487
                            clear BK495
                            clear HB
                            have HO_496000 := n0_
                            have HO_496001 := n1_
                            have BK486 := n2_
                            have BK487 := n3_
                            have BK495 := n4_
                            have HB := n5_
                            clear n0_ n1_ n2_ n3_ n4_ n5_
                            have p496 : 0 ≤ (x15_3 : Int) := of_decide_eq_true (by first | (with_reducible assumption) | assumption)
                            have q496 : x15_3 < (l3.length : Int) := of_decide_eq_true (by first | (with_reducible assumption) | assumption)
                            obtain ⟨ad496, e496, hx496_0⟩ := Kd.at_string HR3.out x15_3 p496 q496
                            have hw496_0 := hx496_0
                            cases e496
                            replace hx496_0 := (HB.out.cell (World.block_lt_of_cell? w _ hx496_0)).trans hx496_0
                            replace p496 := eq_true p496
                            replace q496 := eq_true q496
                            refine start_ (n := 14) (S := fun w' => w'.cell? ⟨gb495, 0, none⟩ = some (.slice Ao34 x496000_3.length co34) ∧ w'.cell? ⟨gb495, 1, none⟩ = some (.slice Ao35 x496001_3.length co35) ∧ w'.cell? (ad496.add (x15_3).toNat) = some (.string (rdOf ByteArray.empty l3 x15_3))) (ds := []) #[false, false, false, false, false, false, false, false, false, false, false, false, false, false] (by kernel_rfl) rfl rfl ⟨(blk_cell BK495.out 0).trans rfl, (blk_cell BK495.out 1).trans rfl, ((HB.out.cell (World.block_lt_of_cell? w _ hw496_0)).trans hw496_0)⟩ (fun hHeld => ?_); refine with_tabW sextonref07_All.tab10 sextonref07_All.bits10 (fun HT_ HW_ => ?_)
                            generalize wc.drew = w36 at HO_496000 HO_496001 BK486 BK487 BK495 HB hx496_0 hHeld ⊢
                            refine pure_ (i := 1) (N := some 55) (v := ?_) (a' := ?_) #[false, true, false, false, false, false, false, false, false, false, false, false, false, false] rfl rfl (any_of HT_.out (by kernel_rfl)) (fun _ _ _ h => h) (Or.inl ⟨by rfl, ?_⟩) ?_ ?_
                            rotate_left
                            · intro w'
                              go_simp
                              with_reducible rfl
                            rotate_left
                            · simp only [Act.put, List.setIfInBounds_toArray, List.set_cons_zero, List.set_cons_succ, i64_w, i32_w]
                              rfl
                            refine pure_ (i := 2) (N := some 56) (v := ?_) (a' := ?_) #[false, true, true, false, false, false, false, false, false, false, false, false, false, false] rfl rfl (any_of HT_.out (by kernel_rfl)) (fun _ _ _ h => h) (Or.inl ⟨by rfl, ?_⟩) ?_ ?_
                            rotate_left
                            · intro w'
                              go_simp
                              with_reducible rfl
                            rotate_left
                            · simp only [Act.put, List.setIfInBounds_toArray, List.set_cons_zero, List.set_cons_succ, i64_w, i32_w]
                              rfl
                            refine pure_ (i := 3) (N := some 57) (v := ?_) (a' := ?_) #[false, true, true, true, false, false, false, false, false, false, false, false, false, false] rfl rfl (any_of HT_.out (by kernel_rfl)) (fun _ _ _ h => h) (Or.inl ⟨by rfl, ?_⟩) ?_ ?_
                            rotate_left
                            · intro w'
                              go_simp
                              with_reducible rfl
                            rotate_left
                            · simp only [Act.put, List.setIfInBounds_toArray, List.set_cons_zero, List.set_cons_succ, i64_w, i32_w]
                              rfl
                            refine pure_ (i := 4) (N := some 58) (v := ?_) (a' := ?_) #[false, true, true, true, true, false, false, false, false, false, false, false, false, false] rfl rfl (any_of HT_.out (by kernel_rfl)) (fun _ _ _ h => h) (Or.inl ⟨by rfl, ?_⟩) ?_ ?_
                            rotate_left
                            · intro w'
                              go_simp
                              with_reducible rfl
                            rotate_left
                            · simp only [Act.put, List.setIfInBounds_toArray, List.set_cons_zero, List.set_cons_succ, i64_w, i32_w]
                              rfl
                            refine pure_ (i := 5) (N := some 59) (v := ?_) (a' := ?_) #[false, true, true, true, true, true, false, false, false, false, false, false, false, false] rfl rfl (any_of HT_.out (by kernel_rfl)) (fun _ _ _ h => h) (Or.inl ⟨by rfl, ?_⟩) ?_ ?_
                            rotate_left
                            · intro w'
                              go_simp
                              with_reducible rfl
                            rotate_left
                            · simp only [Act.put, List.setIfInBounds_toArray, List.set_cons_zero, List.set_cons_succ, i64_w, i32_w]
                              rfl
                            refine take_ (i := 0) (N := some 54) (v := ?_) (a' := ?_) #[true, true, true, true, true, true, false, false, false, false, false, false, false, false] rfl rfl (take_ofW HT_.out HW_.out (by kernel_rfl)) (fun _ _ _ h => h) (Or.inl ⟨by rfl, ?_⟩) hHeld ?_ ?_
                            rotate_left
                            · rintro w' ⟨s0, s1, s2⟩
                              go_simp
                              with_reducible rfl
                            rotate_left
                            · simp only [Act.put, List.setIfInBounds_toArray, List.set_cons_zero, List.set_cons_succ, i64_w, i32_w]
                              rfl
                            refine take_ (i := 6) (N := some 60) (v := ?_) (a' := ?_) #[true, true, true, true, true, true, true, false, false, false, false, false, false, false] rfl rfl (take_ofW HT_.out HW_.out (by kernel_rfl)) (fun _ _ _ h => h) (Or.inl ⟨by rfl, ?_⟩) hHeld ?_ ?_
                            rotate_left
                            · rintro w' ⟨s0, s1, s2⟩
                              go_simp
                              with_reducible rfl
                            rotate_left
                            · simp only [Act.put, List.setIfInBounds_toArray, List.set_cons_zero, List.set_cons_succ, i64_w, i32_w]
                              rfl
                            refine join_ (σ := Value × Value × Nat) 2 #[true, true, true, true, true, true, true, true, true, true, true, true, false, false] (fun s_ => [(61, .tuple #[.agg #[s_.1, s_.2.1], .int .i64 t503]), (16, .pointer (some ⟨s_.2.2, 0, none⟩)), (53, .tuple #[.agg #[s_.1, s_.2.1], .int .i64 t503]), (62, .agg #[s_.1, s_.2.1]), (63, .int .i64 t503)]) (fun s_ w' => (w'.cell? ⟨gb495, 0, none⟩ = some (.slice Ao34 x496000_3.length co34) ∧ w'.cell? ⟨gb495, 1, none⟩ = some (.slice Ao35 x496001_3.length co35) ∧ w'.cell? (ad496.add (x15_3).toNat) = some (.string (rdOf ByteArray.empty l3 x15_3))) ∧ (Kd.R Kd.string 9 w' w.heap.size (fun k_ => some k_ ≠ (.slice Ao34 x496000_3.length co34 : Value).ownBlock) s_.1 t497) ∧ (Kd.R k40 40 w' w.heap.size (fun k_ => some k_ ≠ (.slice Ao35 x496001_3.length co35 : Value).ownBlock) s_.2.1 t500) ∧ (Kd.R Kd.string 9 w' w.heap.size (fun k_ => some k_ ≠ (s_.1 : Value).ownBlock) (.slice Ao34 x496000_3.length co34) x496000_3) ∧ (Kd.R k40 40 w' w.heap.size (fun k_ => some k_ ≠ (s_.2.1 : Value).ownBlock) (.slice Ao35 x496001_3.length co35) x496001_3) ∧ (w'.heap[gb486]? = some (.cells #[.slice A0_0 l0_0.length c0_0, .slice A0_1 l0_1.length c0_1] 25 (0, 0))) ∧ (w'.heap[gb487]? = some (.cells #[.slice none 0 0, .slice none 0 0] 25 (0, 0))) ∧ (w'.heap[gb495]? = some (.cells #[.slice Ao34 x496000_3.length co34, .slice Ao35 x496001_3.length co35] 25 (0, 0))) ∧ (w'.heap[s_.2.2]? = some (.cells #[.slice none 0 0, .slice none 0 0] 25 (0, 0))) ∧ (w.heap.size ≤ s_.2.2) ∧ (w.heap.size ≤ s_.2.2) ∧ (gb486 ≠ s_.2.2) ∧ (s_.2.2 ≠ gb486) ∧ (gb487 ≠ s_.2.2) ∧ (s_.2.2 ≠ gb487) ∧ (gb495 ≠ s_.2.2) ∧ (s_.2.2 ≠ gb495) ∧ (Below w.heap.size w w')) ?_ ?_
                            rotate_left
                            · intro hCont
                              refine two_ (i := 7) (j := 11) (Ni := some 61) (Nj := some 16) #[true, true, true, true, true, true, true, true, false, false, false, false, false, false] #[true, true, true, true, true, true, true, false, false, false, false, true, false, false] rfl rfl rfl rfl (two_of HT_.out (by kernel_rfl)) (by decide) (by decide) (fun K hK => ?_) (fun K hK => ?_)
                              · skip
                                refine goes_ Try.func32 (by kernel_rfl) rfl #[.agg #[.slice Ao34 x496000_3.length co34, .slice Ao35 x496001_3.length co35], .int .i64 a1, .int .i64 a2, .string (rdOf ByteArray.empty l3 x15_3)] (by rfl) rfl rfl (by (try simp only [List.map_toArray, List.map_cons, List.map_nil]); first | done | rfl | (simp only [List.length_drop, List.length_take]; rfl)) ?_
                                with_reducible refine (sextonref07_Append.calls kj26 _ _ x496000_3 _ _ x496001_3 a1 a2 (rdOf ByteArray.empty l3 x15_3) t497 t500 t503 _ ?side1 ?side2 ?side3 ?side4 A32.out).mono ?_
                                (case side1 => repeat (first | exact (Kd.R_reads' HO_496000.out).2.2 | (with_reducible refine Kd.C_alloc ?_ _) | (with_reducible refine Kd.C_drewN ?_ _) | (with_reducible refine Kd.C_drew ?_)))
                                (case side2 => exact (Kd.R_reads' HO_496000.out).2.1)
                                (case side3 => repeat (first | exact (Kd.R_reads' HO_496001.out).2.2 | (with_reducible refine Kd.C_alloc ?_ _) | (with_reducible refine Kd.C_drewN ?_ _) | (with_reducible refine Kd.C_drew ?_)))
                                (case side4 => exact (Kd.R_reads' HO_496001.out).2.1)
                                rintro e w37 ⟨v498, v501, rfl, ho0, ho1, hb⟩
                                refine ⟨_, rfl, ?_⟩
                                have n0_ := Aside0.mk (Kd.R_elder' (by (with_reducible repeat (first | apply Kd.R_alloc | apply Kd.R_drewN | apply Kd.R_drew)); exact HO_496000.out) (Kd.R_base ho0) hb)
                                have n1_ := Aside0.mk (Kd.R_elder' (by (with_reducible repeat (first | apply Kd.R_alloc | apply Kd.R_drewN | apply Kd.R_drew)); exact HO_496001.out) (Kd.R_base ho1) hb)
                                have n2_ := Aside0.mk (Kd.R_lower (Kd.R_new' ho0 (Kd.R_lt (by (with_reducible repeat (first | apply Kd.R_alloc | apply Kd.R_drewN | apply Kd.R_drew)); exact HO_496000.out))) (below_size (by repeat (first | (with_reducible first | exact HB.out | apply below_alloc | apply pw_below_drewN | apply below_drew1 | refine below_set ?_ GE486.out | refine below_set ?_ GE487.out | refine below_set ?_ GE495.out) | exact HB.out))))
                                have n3_ := Aside0.mk (Kd.R_lower (Kd.R_new' ho1 (Kd.R_lt (by (with_reducible repeat (first | apply Kd.R_alloc | apply Kd.R_drewN | apply Kd.R_drew)); exact HO_496001.out))) (below_size (by repeat (first | (with_reducible first | exact HB.out | apply below_alloc | apply pw_below_drewN | apply below_drew1 | refine below_set ?_ GE486.out | refine below_set ?_ GE487.out | refine below_set ?_ GE495.out) | exact HB.out))))
                                have n4_ := Aside0.mk (blk_below (g := gb486) (o := .cells #[.slice A0_0 l0_0.length c0_0, .slice A0_1 l0_1.length c0_1] 25 (0, 0)) (by (with_reducible repeat (first | refine blk_drewN ?_ _ | refine blk_drew ?_ | refine blk_alloc ?_ _)); exact BK486.out) hb)
                                have n5_ := Aside0.mk (blk_below (g := gb487) (o := .cells #[.slice none 0 0, .slice none 0 0] 25 (0, 0)) (by (with_reducible repeat (first | refine blk_drewN ?_ _ | refine blk_drew ?_ | refine blk_alloc ?_ _)); exact BK487.out) hb)
                                have n6_ := Aside0.mk (blk_below (g := gb495) (o := .cells #[.slice Ao34 x496000_3.length co34, .slice Ao35 x496001_3.length co35] 25 (0, 0)) (by (with_reducible repeat (first | refine blk_drewN ?_ _ | refine blk_drew ?_ | refine blk_alloc ?_ _)); exact BK495.out) hb)
                                have n7_ := Aside0.mk (below_step (by repeat (first | (with_reducible first | exact HB.out | apply below_alloc | apply pw_below_drewN | apply below_drew1 | refine below_set ?_ GE486.out | refine below_set ?_ GE487.out | refine below_set ?_ GE495.out) | exact HB.out)) hb)
                                clear HO_496000
                                clear HO_496001
                                clear BK486
                                clear BK487
                                clear BK495
                                clear HB
                                have HO_496000 := n0_
                                have HO_496001 := n1_
                                have HO499 := n2_
                                have HO502 := n3_
                                have BK486 := n4_
                                have BK487 := n5_
                                have BK495 := n6_
                                have HB := n7_
                                clear n0_ n1_ n2_ n3_ n4_ n5_ n6_ n7_
                                (try clear hb)
                                (try clear hb2)
                                (try clear hk)
                                (try clear hi)
                                (try clear ho0)
                                (try clear ho1)
                                refine hK.out _ _ ⟨(blk_cell BK495.out 0).trans rfl, (blk_cell BK495.out 1).trans rfl, ((HB.out.cell (World.block_lt_of_cell? w _ hw496_0)).trans hw496_0)⟩ (fun hHeld => ?_)
                                clear hK K
                                refine norm_ (a' := ?_) ?_ ?_
                                rotate_left
                                · show Act.put _ (some 61) _ = _
                                  simp only [Act.put, List.setIfInBounds_toArray, List.set_cons_zero, List.set_cons_succ, i64_w, i32_w]
                                  rfl
                                refine pure_ (i := 8) (N := some 53) (v := ?_) (a' := ?_) #[true, true, true, true, true, true, true, true, true, false, false, false, false, false] rfl rfl (any_of HT_.out (by kernel_rfl)) (fun _ _ _ h => h) (Or.inl ⟨by rfl, ?_⟩) ?_ ?_
                                rotate_left
                                · intro w'
                                  go_simp
                                  with_reducible rfl
                                rotate_left
                                · simp only [Act.put, List.setIfInBounds_toArray, List.set_cons_zero, List.set_cons_succ, i64_w, i32_w]
                                  rfl
                                refine pure_ (i := 9) (N := some 62) (v := ?_) (a' := ?_) #[true, true, true, true, true, true, true, true, true, true, false, false, false, false] rfl rfl (any_of HT_.out (by kernel_rfl)) (fun _ _ _ h => h) (Or.inl ⟨by rfl, ?_⟩) ?_ ?_
                                rotate_left
                                · intro w'
                                  go_simp
                                  with_reducible rfl
                                rotate_left
                                · simp only [Act.put, List.setIfInBounds_toArray, List.set_cons_zero, List.set_cons_succ, i64_w, i32_w]
                                  rfl
                                refine pure_ (i := 10) (N := some 63) (v := ?_) (a' := ?_) #[true, true, true, true, true, true, true, true, true, true, true, false, false, false] rfl rfl (any_of HT_.out (by kernel_rfl)) (fun _ _ _ h => h) (Or.inl ⟨by rfl, ?_⟩) ?_ ?_
                                rotate_left
                                · intro w'
                                  go_simp
                                  with_reducible rfl
                                rotate_left
                                · simp only [Act.put, List.setIfInBounds_toArray, List.set_cons_zero, List.set_cons_succ, i64_w, i32_w]
                                  rfl
                                refine one_ (i := 11) (N := some 16) #[true, true, true, true, true, true, true, true, true, true, true, true, false, false] rfl rfl (one_of HT_.out (by kernel_rfl)) (by decide) (fun K hK => ?_)
                                refine box_step ?hg (N := 16) ?hd (cs := #[.slice none 0 0, .slice none 0 0]) (t := 25) ?hr ?_; (case hd => rfl); (case hg => rfl); (case hr => first | (go_simp; done) | (go_simp; rfl))
                                intro gb504 hg w38 hbox hb
                                have n0_ := Aside0.mk (Kd.R_below (by (with_reducible repeat (first | apply Kd.R_alloc | apply Kd.R_drewN | apply Kd.R_drew)); exact HO_496000.out) hb)
                                have n1_ := Aside0.mk (Kd.R_below (by (with_reducible repeat (first | apply Kd.R_alloc | apply Kd.R_drewN | apply Kd.R_drew)); exact HO_496001.out) hb)
                                have n2_ := Aside0.mk (Kd.R_below (by (with_reducible repeat (first | apply Kd.R_alloc | apply Kd.R_drewN | apply Kd.R_drew)); exact HO499.out) hb)
                                have n3_ := Aside0.mk (Kd.R_below (by (with_reducible repeat (first | apply Kd.R_alloc | apply Kd.R_drewN | apply Kd.R_drew)); exact HO502.out) hb)
                                have n4_ := Aside0.mk (blk_below (g := gb486) (o := .cells #[.slice A0_0 l0_0.length c0_0, .slice A0_1 l0_1.length c0_1] 25 (0, 0)) (by (with_reducible repeat (first | refine blk_drewN ?_ _ | refine blk_drew ?_ | refine blk_alloc ?_ _)); exact BK486.out) hb)
                                have n5_ := Aside0.mk (blk_below (g := gb487) (o := .cells #[.slice none 0 0, .slice none 0 0] 25 (0, 0)) (by (with_reducible repeat (first | refine blk_drewN ?_ _ | refine blk_drew ?_ | refine blk_alloc ?_ _)); exact BK487.out) hb)
                                have n6_ := Aside0.mk (blk_below (g := gb495) (o := .cells #[.slice Ao34 x496000_3.length co34, .slice Ao35 x496001_3.length co35] 25 (0, 0)) (by (with_reducible repeat (first | refine blk_drewN ?_ _ | refine blk_drew ?_ | refine blk_alloc ?_ _)); exact BK495.out) hb)
                                have n7_ := Aside0.mk (below_step (by repeat (first | (with_reducible first | exact HB.out | apply below_alloc | apply pw_below_drewN | apply below_drew1 | refine below_set ?_ GE486.out | refine below_set ?_ GE487.out | refine below_set ?_ GE495.out) | exact HB.out)) hb)
                                have n8_ := Aside0.mk (hbox)
                                have n9_ := Aside0.mk ((by rw [hg]; exact (below_size (by repeat (first | (with_reducible first | exact HB.out | apply below_alloc | apply pw_below_drewN | apply below_drew1 | refine below_set ?_ GE486.out | refine below_set ?_ GE487.out | refine below_set ?_ GE495.out) | exact HB.out))) : w.heap.size ≤ gb504))
                                have n10_ := Aside0.mk ((by rw [hg]; exact (below_size (by repeat (first | (with_reducible first | exact HB.out | apply below_alloc | apply pw_below_drewN | apply below_drew1 | refine below_set ?_ GE486.out | refine below_set ?_ GE487.out | refine below_set ?_ GE495.out) | exact HB.out))) : w.heap.size ≤ gb504))
                                have n11_ := Aside0.mk ((by rw [hg]; exact Nat.ne_of_lt (blk_lt (g := gb486) (o := .cells #[.slice A0_0 l0_0.length c0_0, .slice A0_1 l0_1.length c0_1] 25 (0, 0)) (by (with_reducible repeat (first | refine blk_drewN ?_ _ | refine blk_drew ?_ | refine blk_alloc ?_ _)); exact BK486.out)) : gb486 ≠ gb504))
                                have n12_ := Aside0.mk ((by rw [hg]; exact Nat.ne_of_gt (blk_lt (g := gb486) (o := .cells #[.slice A0_0 l0_0.length c0_0, .slice A0_1 l0_1.length c0_1] 25 (0, 0)) (by (with_reducible repeat (first | refine blk_drewN ?_ _ | refine blk_drew ?_ | refine blk_alloc ?_ _)); exact BK486.out)) : gb504 ≠ gb486))
                                have n13_ := Aside0.mk ((by rw [hg]; exact Nat.ne_of_lt (blk_lt (g := gb487) (o := .cells #[.slice none 0 0, .slice none 0 0] 25 (0, 0)) (by (with_reducible repeat (first | refine blk_drewN ?_ _ | refine blk_drew ?_ | refine blk_alloc ?_ _)); exact BK487.out)) : gb487 ≠ gb504))
                                have n14_ := Aside0.mk ((by rw [hg]; exact Nat.ne_of_gt (blk_lt (g := gb487) (o := .cells #[.slice none 0 0, .slice none 0 0] 25 (0, 0)) (by (with_reducible repeat (first | refine blk_drewN ?_ _ | refine blk_drew ?_ | refine blk_alloc ?_ _)); exact BK487.out)) : gb504 ≠ gb487))
                                have n15_ := Aside0.mk ((by rw [hg]; exact Nat.ne_of_lt (blk_lt (g := gb495) (o := .cells #[.slice Ao34 x496000_3.length co34, .slice Ao35 x496001_3.length co35] 25 (0, 0)) (by (with_reducible repeat (first | refine blk_drewN ?_ _ | refine blk_drew ?_ | refine blk_alloc ?_ _)); exact BK495.out)) : gb495 ≠ gb504))
                                have n16_ := Aside0.mk ((by rw [hg]; exact Nat.ne_of_gt (blk_lt (g := gb495) (o := .cells #[.slice Ao34 x496000_3.length co34, .slice Ao35 x496001_3.length co35] 25 (0, 0)) (by (with_reducible repeat (first | refine blk_drewN ?_ _ | refine blk_drew ?_ | refine blk_alloc ?_ _)); exact BK495.out)) : gb504 ≠ gb495))
                                clear HO_496000
                                clear HO_496001
                                clear HO499
                                clear HO502
                                clear BK486
                                clear BK487
                                clear BK495
                                clear HB
                                have HO_496000 := n0_
                                have HO_496001 := n1_
                                have HO499 := n2_
                                have HO502 := n3_
                                have BK486 := n4_
                                have BK487 := n5_
                                have BK495 := n6_
                                have HB := n7_
                                have BK504 := n8_
                                have GW504 := n9_
                                have GE504 := n10_
                                have NB486_504 := n11_
                                have NB504_486 := n12_
                                have NB487_504 := n13_
                                have NB504_487 := n14_
                                have NB495_504 := n15_
                                have NB504_495 := n16_
                                clear n0_ n1_ n2_ n3_ n4_ n5_ n6_ n7_ n8_ n9_ n10_ n11_ n12_ n13_ n14_ n15_ n16_
                                clear hb hbox hg
                                refine hK.out _ _ ⟨(blk_cell BK495.out 0).trans rfl, (blk_cell BK495.out 1).trans rfl, ((HB.out.cell (World.block_lt_of_cell? w _ hw496_0)).trans hw496_0)⟩ (fun hHeld => ?_)
                                clear hK K
                                refine norm_ (a' := ?_) ?_ ?_
                                rotate_left
                                · show Act.put _ (some 16) _ = _
                                  simp only [Act.put, List.setIfInBounds_toArray, List.set_cons_zero, List.set_cons_succ, i64_w, i32_w]
                                  rfl
                                exact norm_ (by simp only [putAll, Act.put, List.setIfInBounds_toArray, List.set_cons_zero, List.set_cons_succ]) (hCont (v498, v501, gb504) _ ⟨hHeld, (by (with_reducible repeat (first | apply Kd.R_alloc | apply Kd.R_drewN | apply Kd.R_drew)); exact Kd.R_mono HO499.out (fun _ hk => hk.2)), (by (with_reducible repeat (first | apply Kd.R_alloc | apply Kd.R_drewN | apply Kd.R_drew)); exact Kd.R_mono HO502.out (fun _ hk => hk.2)), (by (with_reducible repeat (first | apply Kd.R_alloc | apply Kd.R_drewN | apply Kd.R_drew)); exact Kd.R_mono HO_496000.out (fun _ hk => hk.2)), (by (with_reducible repeat (first | apply Kd.R_alloc | apply Kd.R_drewN | apply Kd.R_drew)); exact Kd.R_mono HO_496001.out (fun _ hk => hk.2)), (by (with_reducible repeat (first | refine blk_drewN ?_ _ | refine blk_drew ?_ | refine blk_alloc ?_ _)); exact BK486.out), (by (with_reducible repeat (first | refine blk_drewN ?_ _ | refine blk_drew ?_ | refine blk_alloc ?_ _)); exact BK487.out), (by (with_reducible repeat (first | refine blk_drewN ?_ _ | refine blk_drew ?_ | refine blk_alloc ?_ _)); exact BK495.out), (by (with_reducible repeat (first | refine blk_drewN ?_ _ | refine blk_drew ?_ | refine blk_alloc ?_ _)); exact BK504.out), GW504.out, GE504.out, NB486_504.out, NB504_486.out, NB487_504.out, NB504_487.out, NB495_504.out, NB504_495.out, (by repeat (first | (with_reducible first | exact HB.out | apply below_alloc | apply pw_below_drewN | apply below_drew1 | refine below_set ?_ GE486.out | refine below_set ?_ GE487.out | refine below_set ?_ GE495.out | refine below_set ?_ GE504.out) | exact HB.out))⟩)
                              · skip
                                refine box_step ?hg (N := 16) ?hd (cs := #[.slice none 0 0, .slice none 0 0]) (t := 25) ?hr ?_; (case hd => rfl); (case hg => rfl); (case hr => first | (go_simp; done) | (go_simp; rfl))
                                intro gb504 hg w37 hbox hb
                                have n0_ := Aside0.mk (Kd.R_below (by (with_reducible repeat (first | apply Kd.R_alloc | apply Kd.R_drewN | apply Kd.R_drew)); exact HO_496000.out) hb)
                                have n1_ := Aside0.mk (Kd.R_below (by (with_reducible repeat (first | apply Kd.R_alloc | apply Kd.R_drewN | apply Kd.R_drew)); exact HO_496001.out) hb)
                                have n2_ := Aside0.mk (blk_below (g := gb486) (o := .cells #[.slice A0_0 l0_0.length c0_0, .slice A0_1 l0_1.length c0_1] 25 (0, 0)) (by (with_reducible repeat (first | refine blk_drewN ?_ _ | refine blk_drew ?_ | refine blk_alloc ?_ _)); exact BK486.out) hb)
                                have n3_ := Aside0.mk (blk_below (g := gb487) (o := .cells #[.slice none 0 0, .slice none 0 0] 25 (0, 0)) (by (with_reducible repeat (first | refine blk_drewN ?_ _ | refine blk_drew ?_ | refine blk_alloc ?_ _)); exact BK487.out) hb)
                                have n4_ := Aside0.mk (blk_below (g := gb495) (o := .cells #[.slice Ao34 x496000_3.length co34, .slice Ao35 x496001_3.length co35] 25 (0, 0)) (by (with_reducible repeat (first | refine blk_drewN ?_ _ | refine blk_drew ?_ | refine blk_alloc ?_ _)); exact BK495.out) hb)
                                have n5_ := Aside0.mk (below_step (by repeat (first | (with_reducible first | exact HB.out | apply below_alloc | apply pw_below_drewN | apply below_drew1 | refine below_set ?_ GE486.out | refine below_set ?_ GE487.out | refine below_set ?_ GE495.out) | exact HB.out)) hb)
                                have n6_ := Aside0.mk (hbox)
                                have n7_ := Aside0.mk ((by rw [hg]; exact (below_size (by repeat (first | (with_reducible first | exact HB.out | apply below_alloc | apply pw_below_drewN | apply below_drew1 | refine below_set ?_ GE486.out | refine below_set ?_ GE487.out | refine below_set ?_ GE495.out) | exact HB.out))) : w.heap.size ≤ gb504))
                                have n8_ := Aside0.mk ((by rw [hg]; exact (below_size (by repeat (first | (with_reducible first | exact HB.out | apply below_alloc | apply pw_below_drewN | apply below_drew1 | refine below_set ?_ GE486.out | refine below_set ?_ GE487.out | refine below_set ?_ GE495.out) | exact HB.out))) : w.heap.size ≤ gb504))
                                have n9_ := Aside0.mk ((by rw [hg]; exact Nat.ne_of_lt (blk_lt (g := gb486) (o := .cells #[.slice A0_0 l0_0.length c0_0, .slice A0_1 l0_1.length c0_1] 25 (0, 0)) (by (with_reducible repeat (first | refine blk_drewN ?_ _ | refine blk_drew ?_ | refine blk_alloc ?_ _)); exact BK486.out)) : gb486 ≠ gb504))
                                have n10_ := Aside0.mk ((by rw [hg]; exact Nat.ne_of_gt (blk_lt (g := gb486) (o := .cells #[.slice A0_0 l0_0.length c0_0, .slice A0_1 l0_1.length c0_1] 25 (0, 0)) (by (with_reducible repeat (first | refine blk_drewN ?_ _ | refine blk_drew ?_ | refine blk_alloc ?_ _)); exact BK486.out)) : gb504 ≠ gb486))
                                have n11_ := Aside0.mk ((by rw [hg]; exact Nat.ne_of_lt (blk_lt (g := gb487) (o := .cells #[.slice none 0 0, .slice none 0 0] 25 (0, 0)) (by (with_reducible repeat (first | refine blk_drewN ?_ _ | refine blk_drew ?_ | refine blk_alloc ?_ _)); exact BK487.out)) : gb487 ≠ gb504))
                                have n12_ := Aside0.mk ((by rw [hg]; exact Nat.ne_of_gt (blk_lt (g := gb487) (o := .cells #[.slice none 0 0, .slice none 0 0] 25 (0, 0)) (by (with_reducible repeat (first | refine blk_drewN ?_ _ | refine blk_drew ?_ | refine blk_alloc ?_ _)); exact BK487.out)) : gb504 ≠ gb487))
                                have n13_ := Aside0.mk ((by rw [hg]; exact Nat.ne_of_lt (blk_lt (g := gb495) (o := .cells #[.slice Ao34 x496000_3.length co34, .slice Ao35 x496001_3.length co35] 25 (0, 0)) (by (with_reducible repeat (first | refine blk_drewN ?_ _ | refine blk_drew ?_ | refine blk_alloc ?_ _)); exact BK495.out)) : gb495 ≠ gb504))
                                have n14_ := Aside0.mk ((by rw [hg]; exact Nat.ne_of_gt (blk_lt (g := gb495) (o := .cells #[.slice Ao34 x496000_3.length co34, .slice Ao35 x496001_3.length co35] 25 (0, 0)) (by (with_reducible repeat (first | refine blk_drewN ?_ _ | refine blk_drew ?_ | refine blk_alloc ?_ _)); exact BK495.out)) : gb504 ≠ gb495))
                                clear HO_496000
                                clear HO_496001
                                clear BK486
                                clear BK487
                                clear BK495
                                clear HB
                                have HO_496000 := n0_
                                have HO_496001 := n1_
                                have BK486 := n2_
                                have BK487 := n3_
                                have BK495 := n4_
                                have HB := n5_
                                have BK504 := n6_
                                have GW504 := n7_
                                have GE504 := n8_
                                have NB486_504 := n9_
                                have NB504_486 := n10_
                                have NB487_504 := n11_
                                have NB504_487 := n12_
                                have NB495_504 := n13_
                                have NB504_495 := n14_
                                clear n0_ n1_ n2_ n3_ n4_ n5_ n6_ n7_ n8_ n9_ n10_ n11_ n12_ n13_ n14_
                                clear hb hbox hg
                                refine hK.out _ _ ⟨(blk_cell BK495.out 0).trans rfl, (blk_cell BK495.out 1).trans rfl, ((HB.out.cell (World.block_lt_of_cell? w _ hw496_0)).trans hw496_0)⟩ (fun hHeld => ?_)
                                clear hK K
                                refine norm_ (a' := ?_) ?_ ?_
                                rotate_left
                                · show Act.put _ (some 16) _ = _
                                  simp only [Act.put, List.setIfInBounds_toArray, List.set_cons_zero, List.set_cons_succ, i64_w, i32_w]
                                  rfl
                                refine one_ (i := 7) (N := some 61) #[true, true, true, true, true, true, true, true, false, false, false, true, false, false] rfl rfl (one_of HT_.out (by kernel_rfl)) (by decide) (fun K hK => ?_)
                                refine goes_ Try.func32 (by kernel_rfl) rfl #[.agg #[.slice Ao34 x496000_3.length co34, .slice Ao35 x496001_3.length co35], .int .i64 a1, .int .i64 a2, .string (rdOf ByteArray.empty l3 x15_3)] (by rfl) rfl rfl (by (try simp only [List.map_toArray, List.map_cons, List.map_nil]); first | done | rfl | (simp only [List.length_drop, List.length_take]; rfl)) ?_
                                with_reducible refine (sextonref07_Append.calls kj26 _ _ x496000_3 _ _ x496001_3 a1 a2 (rdOf ByteArray.empty l3 x15_3) t497 t500 t503 _ ?side1 ?side2 ?side3 ?side4 A32.out).mono ?_
                                (case side1 => repeat (first | exact (Kd.R_reads' HO_496000.out).2.2 | (with_reducible refine Kd.C_alloc ?_ _) | (with_reducible refine Kd.C_drewN ?_ _) | (with_reducible refine Kd.C_drew ?_)))
                                (case side2 => exact (Kd.R_reads' HO_496000.out).2.1)
                                (case side3 => repeat (first | exact (Kd.R_reads' HO_496001.out).2.2 | (with_reducible refine Kd.C_alloc ?_ _) | (with_reducible refine Kd.C_drewN ?_ _) | (with_reducible refine Kd.C_drew ?_)))
                                (case side4 => exact (Kd.R_reads' HO_496001.out).2.1)
                                rintro e w38 ⟨v498, v501, rfl, ho0, ho1, hb⟩
                                refine ⟨_, rfl, ?_⟩
                                have n0_ := Aside0.mk (Kd.R_elder' (by (with_reducible repeat (first | apply Kd.R_alloc | apply Kd.R_drewN | apply Kd.R_drew)); exact HO_496000.out) (Kd.R_base ho0) hb)
                                have n1_ := Aside0.mk (Kd.R_elder' (by (with_reducible repeat (first | apply Kd.R_alloc | apply Kd.R_drewN | apply Kd.R_drew)); exact HO_496001.out) (Kd.R_base ho1) hb)
                                have n2_ := Aside0.mk (Kd.R_lower (Kd.R_new' ho0 (Kd.R_lt (by (with_reducible repeat (first | apply Kd.R_alloc | apply Kd.R_drewN | apply Kd.R_drew)); exact HO_496000.out))) (below_size (by repeat (first | (with_reducible first | exact HB.out | apply below_alloc | apply pw_below_drewN | apply below_drew1 | refine below_set ?_ GE486.out | refine below_set ?_ GE487.out | refine below_set ?_ GE495.out | refine below_set ?_ GE504.out) | exact HB.out))))
                                have n3_ := Aside0.mk (Kd.R_lower (Kd.R_new' ho1 (Kd.R_lt (by (with_reducible repeat (first | apply Kd.R_alloc | apply Kd.R_drewN | apply Kd.R_drew)); exact HO_496001.out))) (below_size (by repeat (first | (with_reducible first | exact HB.out | apply below_alloc | apply pw_below_drewN | apply below_drew1 | refine below_set ?_ GE486.out | refine below_set ?_ GE487.out | refine below_set ?_ GE495.out | refine below_set ?_ GE504.out) | exact HB.out))))
                                have n4_ := Aside0.mk (blk_below (g := gb486) (o := .cells #[.slice A0_0 l0_0.length c0_0, .slice A0_1 l0_1.length c0_1] 25 (0, 0)) (by (with_reducible repeat (first | refine blk_drewN ?_ _ | refine blk_drew ?_ | refine blk_alloc ?_ _)); exact BK486.out) hb)
                                have n5_ := Aside0.mk (blk_below (g := gb487) (o := .cells #[.slice none 0 0, .slice none 0 0] 25 (0, 0)) (by (with_reducible repeat (first | refine blk_drewN ?_ _ | refine blk_drew ?_ | refine blk_alloc ?_ _)); exact BK487.out) hb)
                                have n6_ := Aside0.mk (blk_below (g := gb495) (o := .cells #[.slice Ao34 x496000_3.length co34, .slice Ao35 x496001_3.length co35] 25 (0, 0)) (by (with_reducible repeat (first | refine blk_drewN ?_ _ | refine blk_drew ?_ | refine blk_alloc ?_ _)); exact BK495.out) hb)
                                have n7_ := Aside0.mk (blk_below (g := gb504) (o := .cells #[.slice none 0 0, .slice none 0 0] 25 (0, 0)) (by (with_reducible repeat (first | refine blk_drewN ?_ _ | refine blk_drew ?_ | refine blk_alloc ?_ _)); exact BK504.out) hb)
                                have n8_ := Aside0.mk (below_step (by repeat (first | (with_reducible first | exact HB.out | apply below_alloc | apply pw_below_drewN | apply below_drew1 | refine below_set ?_ GE486.out | refine below_set ?_ GE487.out | refine below_set ?_ GE495.out | refine below_set ?_ GE504.out) | exact HB.out)) hb)
                                clear HO_496000
                                clear HO_496001
                                clear BK486
                                clear BK487
                                clear BK495
                                clear BK504
                                clear HB
                                have HO_496000 := n0_
                                have HO_496001 := n1_
                                have HO499 := n2_
                                have HO502 := n3_
                                have BK486 := n4_
                                have BK487 := n5_
                                have BK495 := n6_
                                have BK504 := n7_
                                have HB := n8_
                                clear n0_ n1_ n2_ n3_ n4_ n5_ n6_ n7_ n8_
                                (try clear hb)
                                (try clear hb2)
                                (try clear hk)
                                (try clear hi)
                                (try clear ho0)
                                (try clear ho1)
                                refine hK.out _ _ ⟨(blk_cell BK495.out 0).trans rfl, (blk_cell BK495.out 1).trans rfl, ((HB.out.cell (World.block_lt_of_cell? w _ hw496_0)).trans hw496_0)⟩ (fun hHeld => ?_)
                                clear hK K
                                refine norm_ (a' := ?_) ?_ ?_
                                rotate_left
                                · show Act.put _ (some 61) _ = _
                                  simp only [Act.put, List.setIfInBounds_toArray, List.set_cons_zero, List.set_cons_succ, i64_w, i32_w]
                                  rfl
                                refine pure_ (i := 8) (N := some 53) (v := ?_) (a' := ?_) #[true, true, true, true, true, true, true, true, true, false, false, true, false, false] rfl rfl (any_of HT_.out (by kernel_rfl)) (fun _ _ _ h => h) (Or.inl ⟨by rfl, ?_⟩) ?_ ?_
                                rotate_left
                                · intro w'
                                  go_simp
                                  with_reducible rfl
                                rotate_left
                                · simp only [Act.put, List.setIfInBounds_toArray, List.set_cons_zero, List.set_cons_succ, i64_w, i32_w]
                                  rfl
                                refine pure_ (i := 9) (N := some 62) (v := ?_) (a' := ?_) #[true, true, true, true, true, true, true, true, true, true, false, true, false, false] rfl rfl (any_of HT_.out (by kernel_rfl)) (fun _ _ _ h => h) (Or.inl ⟨by rfl, ?_⟩) ?_ ?_
                                rotate_left
                                · intro w'
                                  go_simp
                                  with_reducible rfl
                                rotate_left
                                · simp only [Act.put, List.setIfInBounds_toArray, List.set_cons_zero, List.set_cons_succ, i64_w, i32_w]
                                  rfl
                                refine pure_ (i := 10) (N := some 63) (v := ?_) (a' := ?_) #[true, true, true, true, true, true, true, true, true, true, true, true, false, false] rfl rfl (any_of HT_.out (by kernel_rfl)) (fun _ _ _ h => h) (Or.inl ⟨by rfl, ?_⟩) ?_ ?_
                                rotate_left
                                · intro w'
                                  go_simp
                                  with_reducible rfl
                                rotate_left
                                · simp only [Act.put, List.setIfInBounds_toArray, List.set_cons_zero, List.set_cons_succ, i64_w, i32_w]
                                  rfl
                                exact norm_ (by simp only [putAll, Act.put, List.setIfInBounds_toArray, List.set_cons_zero, List.set_cons_succ]) (hCont (v498, v501, gb504) _ ⟨hHeld, (by (with_reducible repeat (first | apply Kd.R_alloc | apply Kd.R_drewN | apply Kd.R_drew)); exact Kd.R_mono HO499.out (fun _ hk => hk.2)), (by (with_reducible repeat (first | apply Kd.R_alloc | apply Kd.R_drewN | apply Kd.R_drew)); exact Kd.R_mono HO502.out (fun _ hk => hk.2)), (by (with_reducible repeat (first | apply Kd.R_alloc | apply Kd.R_drewN | apply Kd.R_drew)); exact Kd.R_mono HO_496000.out (fun _ hk => hk.2)), (by (with_reducible repeat (first | apply Kd.R_alloc | apply Kd.R_drewN | apply Kd.R_drew)); exact Kd.R_mono HO_496001.out (fun _ hk => hk.2)), (by (with_reducible repeat (first | refine blk_drewN ?_ _ | refine blk_drew ?_ | refine blk_alloc ?_ _)); exact BK486.out), (by (with_reducible repeat (first | refine blk_drewN ?_ _ | refine blk_drew ?_ | refine blk_alloc ?_ _)); exact BK487.out), (by (with_reducible repeat (first | refine blk_drewN ?_ _ | refine blk_drew ?_ | refine blk_alloc ?_ _)); exact BK495.out), (by (with_reducible repeat (first | refine blk_drewN ?_ _ | refine blk_drew ?_ | refine blk_alloc ?_ _)); exact BK504.out), GW504.out, GE504.out, NB486_504.out, NB504_486.out, NB487_504.out, NB504_487.out, NB495_504.out, NB504_495.out, (by repeat (first | (with_reducible first | exact HB.out | apply below_alloc | apply pw_below_drewN | apply below_drew1 | refine below_set ?_ GE486.out | refine below_set ?_ GE487.out | refine below_set ?_ GE495.out | refine below_set ?_ GE504.out) | exact HB.out))⟩)
                            rintro ⟨v498, v501, gb504⟩ w39 ⟨hS_, h0_, h1_, h2_, h3_, h4_, h5_, h6_, h7_, h8_, h9_, h10_, h11_, h12_, h13_, h14_, h15_, h16_⟩
                            have n0_ : Aside0 (Kd.R Kd.string 9 w39 w.heap.size (fun k_ => some k_ ≠ (.slice Ao34 x496000_3.length co34 : Value).ownBlock) v498 t497) := ⟨h0_⟩
                            have n1_ : Aside0 (Kd.R k40 40 w39 w.heap.size (fun k_ => some k_ ≠ (.slice Ao35 x496001_3.length co35 : Value).ownBlock) v501 t500) := ⟨h1_⟩
                            have n2_ : Aside0 (Kd.R Kd.string 9 w39 w.heap.size (fun k_ => some k_ ≠ (v498 : Value).ownBlock) (.slice Ao34 x496000_3.length co34) x496000_3) := ⟨h2_⟩
                            have n3_ : Aside0 (Kd.R k40 40 w39 w.heap.size (fun k_ => some k_ ≠ (v501 : Value).ownBlock) (.slice Ao35 x496001_3.length co35) x496001_3) := ⟨h3_⟩
                            have n4_ : Aside0 (w39.heap[gb486]? = some (.cells #[.slice A0_0 l0_0.length c0_0, .slice A0_1 l0_1.length c0_1] 25 (0, 0))) := ⟨h4_⟩
                            have n5_ : Aside0 (w39.heap[gb487]? = some (.cells #[.slice none 0 0, .slice none 0 0] 25 (0, 0))) := ⟨h5_⟩
                            have n6_ : Aside0 (w39.heap[gb495]? = some (.cells #[.slice Ao34 x496000_3.length co34, .slice Ao35 x496001_3.length co35] 25 (0, 0))) := ⟨h6_⟩
                            have n7_ : Aside0 (w39.heap[gb504]? = some (.cells #[.slice none 0 0, .slice none 0 0] 25 (0, 0))) := ⟨h7_⟩
                            have n8_ : Aside0 (w.heap.size ≤ gb504) := ⟨h8_⟩
                            have n9_ : Aside0 (w.heap.size ≤ gb504) := ⟨h9_⟩
                            have n10_ : Aside0 (gb486 ≠ gb504) := ⟨h10_⟩
                            have n11_ : Aside0 (gb504 ≠ gb486) := ⟨h11_⟩
                            have n12_ : Aside0 (gb487 ≠ gb504) := ⟨h12_⟩
                            have n13_ : Aside0 (gb504 ≠ gb487) := ⟨h13_⟩
                            have n14_ : Aside0 (gb495 ≠ gb504) := ⟨h14_⟩
                            have n15_ : Aside0 (gb504 ≠ gb495) := ⟨h15_⟩
                            have n16_ : Aside0 (Below w.heap.size w w39) := ⟨h16_⟩
                            clear HO_496000
                            clear HO_496001
                            clear BK486
                            clear BK487
                            clear BK495
                            clear HB
                            clear h0_ h1_ h2_ h3_ h4_ h5_ h6_ h7_ h8_ h9_ h10_ h11_ h12_ h13_ h14_ h15_ h16_
                            have HO499 := n0_
                            have HO502 := n1_
                            have HO_496000 := n2_
                            have HO_496001 := n3_
                            have BK486 := n4_
                            have BK487 := n5_
                            have BK495 := n6_
                            have BK504 := n7_
                            have GW504 := n8_
                            have GE504 := n9_
                            have NB486_504 := n10_
                            have NB504_486 := n11_
                            have NB487_504 := n12_
                            have NB504_487 := n13_
                            have NB495_504 := n14_
                            have NB504_495 := n15_
                            have HB := n16_
                            clear n0_ n1_ n2_ n3_ n4_ n5_ n6_ n7_ n8_ n9_ n10_ n11_ n12_ n13_ n14_ n15_ n16_
                            have hHeld : w39.cell? ⟨gb495, 0, none⟩ = some (.slice Ao34 x496000_3.length co34) ∧ w39.cell? ⟨gb495, 1, none⟩ = some (.slice Ao35 x496001_3.length co35) ∧ w39.cell? (ad496.add (x15_3).toNat) = some (.string (rdOf ByteArray.empty l3 x15_3)) := hS_
                            obtain ⟨Ao40, co40, eo40⟩ := Kd.R_slice HO499.out
                            (first | subst eo40 | (injection eo40 with f1_ f2_ f3_; have f4_ := f1_.symm; have f5_ := f3_.symm; clear f1_ f2_ f3_; subst f4_; subst f5_))
                            obtain ⟨Ao42, co42, eo42⟩ := Kd.R_slice HO502.out
                            (first | subst eo42 | (injection eo42 with f1_ f2_ f3_; have f4_ := f1_.symm; have f5_ := f3_.symm; clear f1_ f2_ f3_; subst f4_; subst f5_))
                            refine norm_ (a' := ?_) ?_ ?_
                            rotate_left
                            · simp only [putAll, Act.put, List.setIfInBounds_toArray, List.set_cons_zero, List.set_cons_succ]
                              rfl
                            refine one_ (i := 12) (N := none) #[true, true, true, true, true, true, true, true, true, true, true, true, true, false] rfl rfl (one_of HT_.out (by kernel_rfl)) (by decide) (fun K hK => ?_)
                            have hs41 : w39.cell? ⟨gb504, 0, none⟩ = some (.slice none 0 0) := (blk_cell BK504.out 0).trans rfl
                            have hfs41 := blk_frozen BK504.out 0
                            have hns41_0 := NB486_504.out
                            have hns41_1 := NB487_504.out
                            have hns41_2 := NB495_504.out
                            have hms41_0 := NB504_486.out
                            have hms41_1 := NB504_487.out
                            have hms41_2 := NB504_495.out
                            have hs43 : w39.cell? ⟨gb504, 1, none⟩ = some (.slice none 0 0) := (blk_cell BK504.out 1).trans rfl
                            have hfs43 := blk_frozen BK504.out 1
                            have hns43_0 := NB486_504.out
                            have hns43_1 := NB487_504.out
                            have hns43_2 := NB495_504.out
                            have hms43_0 := NB504_486.out
                            have hms43_1 := NB504_487.out
                            have hms43_2 := NB504_495.out
                            refine skip_ (w1 := ?_) (by rfl) rfl ?_ ?_
                            rotate_left
                            · go_simp
                              rfl
                            refine hK.out _ _ ⟨((cell_far (p := ⟨gb504, _, none⟩) NB495_504.out _).trans (((cell_far (p := ⟨gb504, _, none⟩) NB495_504.out _).trans (hHeld.1)))), ((cell_far (p := ⟨gb504, _, none⟩) NB495_504.out _).trans (((cell_far (p := ⟨gb504, _, none⟩) NB495_504.out _).trans (hHeld.2.1)))), ((cell_far (p := ⟨gb504, _, none⟩) (by first | exact Nat.ne_of_lt (Nat.lt_of_lt_of_le (by have := World.block_lt_of_cell? _ _ hw496_0; first | rwa [add_block] at this | exact this) GW504.out) | (rw [add_block]; exact Nat.ne_of_lt (Nat.lt_of_lt_of_le (by have := World.block_lt_of_cell? _ _ hw496_0; first | rwa [add_block] at this | exact this) GW504.out)) | (show (Addr.add _ _).block ≠ _; rw [add_block]; exact Nat.ne_of_lt (Nat.lt_of_lt_of_le (by have := World.block_lt_of_cell? _ _ hw496_0; first | rwa [add_block] at this | exact this) GW504.out)) | (dsimp only; exact Nat.ne_of_lt (Nat.lt_of_lt_of_le (by have := World.block_lt_of_cell? _ _ hw496_0; first | rwa [add_block] at this | exact this) GW504.out))) _).trans (((cell_far (p := ⟨gb504, _, none⟩) (by first | exact Nat.ne_of_lt (Nat.lt_of_lt_of_le (by have := World.block_lt_of_cell? _ _ hw496_0; first | rwa [add_block] at this | exact this) GW504.out) | (rw [add_block]; exact Nat.ne_of_lt (Nat.lt_of_lt_of_le (by have := World.block_lt_of_cell? _ _ hw496_0; first | rwa [add_block] at this | exact this) GW504.out)) | (show (Addr.add _ _).block ≠ _; rw [add_block]; exact Nat.ne_of_lt (Nat.lt_of_lt_of_le (by have := World.block_lt_of_cell? _ _ hw496_0; first | rwa [add_block] at this | exact this) GW504.out)) | (dsimp only; exact Nat.ne_of_lt (Nat.lt_of_lt_of_le (by have := World.block_lt_of_cell? _ _ hw496_0; first | rwa [add_block] at this | exact this) GW504.out))) _).trans (hHeld.2.2))))⟩ (fun hHeld => ?_)
                            clear hK K
                            refine pure_ (i := 13) (N := some 17) (v := ?_) (a' := ?_) #[true, true, true, true, true, true, true, true, true, true, true, true, true, true] rfl rfl (any_of HT_.out (by kernel_rfl)) (fun _ _ _ h => h) (Or.inl ⟨by rfl, ?_⟩) ?_ ?_
                            rotate_left
                            · intro w'
                              go_simp
                              with_reducible rfl
                            rotate_left
                            · simp only [Act.put, List.setIfInBounds_toArray, List.set_cons_zero, List.set_cons_succ, i64_w, i32_w]
                              rfl
                            refine done_ (done_of HT_.out (by kernel_rfl)) ?_
                            have hnb44 := NB504_486.out
                            have hnc44 := NB486_504.out
                            have hnb45 := NB504_487.out
                            have hnc45 := NB487_504.out
                            have hnb46 := NB504_495.out
                            have hnc46 := NB495_504.out
                            have hcz47_0 : w39.cell? ⟨gb504, 0, none⟩ = some (.slice none 0 0) := (blk_cell BK504.out 0).trans rfl
                            have hcz47_1 : w39.cell? ⟨gb504, 1, none⟩ = some (.slice none 0 0) := (blk_cell BK504.out 1).trans rfl
                            have hfz47_0 := blk_frozen BK504.out 0
                            have hfz47_1 := blk_frozen BK504.out 1
                            have hnb48 := NB495_486.out
                            have hnc48 := NB486_495.out
                            have hnb49 := NB495_487.out
                            have hnc49 := NB487_495.out
                            have hcz50_0 : w39.cell? ⟨gb495, 0, none⟩ = some (.slice Ao34 x496000_3.length co34) := (blk_cell BK495.out 0).trans rfl
                            have hcz50_1 : w39.cell? ⟨gb495, 1, none⟩ = some (.slice Ao35 x496001_3.length co35) := (blk_cell BK495.out 1).trans rfl
                            have hfz50_0 := blk_frozen BK495.out 0
                            have hfz50_1 := blk_frozen BK495.out 1
                            try go_wp2
                            go_roundg kj26
                            case measure => have := HJ7.out; have := HJ14.out; have := HK3.out; have := HJ26.out; omega
                            case rel => exact ⟨(wrap64 (x15_3 + 1)), (t497), (t500), (.slice Ao40 t497.length co40), (.slice Ao42 t500.length co42), (by first | rfl | (simp; done) | (simp [*]; done)), H', ⟨by have := HJ7.out; have := HJ14.out; have := HK3.out; have := HJ26.out; omega⟩, ⟨by (with_reducible repeat (first | apply Kd.R_alloc | apply Kd.R_drewN | apply Kd.R_drew)); exact Kd.R_mono (Kd.R_far (p := ⟨gb495, 1, none⟩) (Kd.R_far (p := ⟨gb495, 0, none⟩) (Kd.R_far (p := ⟨gb504, 1, none⟩) (Kd.R_far (p := ⟨gb504, 0, none⟩) (Kd.R_types (Kd.R_types HO499.out BK504.out (by decide)) BK495.out (by decide)) (fun _ hk => hk.1.2) (.slice Ao40 t497.length co40)) (fun _ hk => hk.1.2) (.slice Ao42 t500.length co42)) (fun _ hk => hk.2) (.slice Ao40 t497.length co40)) (fun _ hk => hk.2) (.slice Ao42 t500.length co42)) (fun _ hk => trivial)⟩, ⟨by (with_reducible repeat (first | apply Kd.R_alloc | apply Kd.R_drewN | apply Kd.R_drew)); exact Kd.R_mono (Kd.R_far (p := ⟨gb495, 1, none⟩) (Kd.R_far (p := ⟨gb495, 0, none⟩) (Kd.R_far (p := ⟨gb504, 1, none⟩) (Kd.R_far (p := ⟨gb504, 0, none⟩) (Kd.R_types (Kd.R_types HO502.out BK504.out (by decide)) BK495.out (by decide)) (fun _ hk => hk.1.2) (.slice Ao40 t497.length co40)) (fun _ hk => hk.1.2) (.slice Ao42 t500.length co42)) (fun _ hk => hk.2) (.slice Ao40 t497.length co40)) (fun _ hk => hk.2) (.slice Ao42 t500.length co42)) (fun _ hk => trivial)⟩, ⟨by (with_reducible repeat (first | refine blk_drewN ?_ _ | refine blk_drew ?_ | refine blk_alloc ?_ _)); refine blk_far ?_ NB486_495.out _; (with_reducible repeat (first | refine blk_drewN ?_ _ | refine blk_drew ?_ | refine blk_alloc ?_ _)); refine blk_far ?_ NB486_495.out _; (with_reducible repeat (first | refine blk_drewN ?_ _ | refine blk_drew ?_ | refine blk_alloc ?_ _)); refine blk_far ?_ NB486_504.out _; (with_reducible repeat (first | refine blk_drewN ?_ _ | refine blk_drew ?_ | refine blk_alloc ?_ _)); refine blk_far ?_ NB486_504.out _; (with_reducible repeat (first | refine blk_drewN ?_ _ | refine blk_drew ?_ | refine blk_alloc ?_ _)); exact BK486.out⟩, ⟨by (with_reducible repeat (first | refine blk_drewN ?_ _ | refine blk_drew ?_ | refine blk_alloc ?_ _)); refine blk_far ?_ NB487_495.out _; (with_reducible repeat (first | refine blk_drewN ?_ _ | refine blk_drew ?_ | refine blk_alloc ?_ _)); refine blk_far ?_ NB487_495.out _; (with_reducible repeat (first | refine blk_drewN ?_ _ | refine blk_drew ?_ | refine blk_alloc ?_ _)); refine blk_far ?_ NB487_504.out _; (with_reducible repeat (first | refine blk_drewN ?_ _ | refine blk_drew ?_ | refine blk_alloc ?_ _)); refine blk_far ?_ NB487_504.out _; (with_reducible repeat (first | refine blk_drewN ?_ _ | refine blk_drew ?_ | refine blk_alloc ?_ _)); exact BK487.out⟩, ⟨by (with_reducible repeat (first | refine blk_drewN ?_ _ | refine blk_drew ?_ | refine blk_alloc ?_ _)); refine blk_put (cs := #[.slice Ao40 t497.length co40, .slice Ao35 x496001_3.length co35]) ?_ 1 _ rfl; (with_reducible repeat (first | refine blk_drewN ?_ _ | refine blk_drew ?_ | refine blk_alloc ?_ _)); refine blk_put (cs := #[.slice Ao34 x496000_3.length co34, .slice Ao35 x496001_3.length co35]) ?_ 0 _ rfl; (with_reducible repeat (first | refine blk_drewN ?_ _ | refine blk_drew ?_ | refine blk_alloc ?_ _)); refine blk_far ?_ NB495_504.out _; (with_reducible repeat (first | refine blk_drewN ?_ _ | refine blk_drew ?_ | refine blk_alloc ?_ _)); refine blk_far ?_ NB495_504.out _; (with_reducible repeat (first | refine blk_drewN ?_ _ | refine blk_drew ?_ | refine blk_alloc ?_ _)); exact BK495.out⟩, ⟨by repeat (first | (with_reducible first | exact HB.out | apply below_alloc | apply pw_below_drewN | apply below_drew1 | refine below_set ?_ GE486.out | refine below_set ?_ GE487.out | refine below_set ?_ GE495.out | refine below_set ?_ GE504.out) | exact HB.out)⟩⟩
                          · rw [if_neg c33] at H
                            have c33b0 : (t503 == 0) = false := beq_eq_false_iff_ne.mpr c33
                            have c33b1 : (t503 != 0) = true := bne_iff_ne.mpr c33
                            simp only [Option.some.injEq, Prod.mk.injEq] at H
                            obtain ⟨rfl, rfl, rfl, rfl⟩ := H
                            obtain ⟨Ao51, co51, eo51⟩ := Kd.R_slice HO_496000.out
                            subst eo51
                            obtain ⟨Ao52, co52, eo52⟩ := Kd.R_slice HO_496001.out
                            subst eo52
                            try go_wp2
                            have n0_ := Aside0.mk (Kd.R_drew HO_496000.out)
                            have n1_ := Aside0.mk (Kd.R_drew HO_496001.out)
                            have n2_ := Aside0.mk (blk_drew BK486.out)
                            have n3_ := Aside0.mk (blk_drew BK487.out)
                            have n4_ := Aside0.mk (blk_drew BK495.out)
                            have n5_ := Aside0.mk (below_drew1 HB.out)
                            clear HO_496000
                            clear HO_496001
                            clear BK486
                            clear BK487
                            clear BK495
                            clear HB
                            have HO_496000 := n0_
                            have HO_496001 := n1_
                            have BK486 := n2_
                            have BK487 := n3_
                            have BK495 := n4_
                            have HB := n5_
                            clear n0_ n1_ n2_ n3_ n4_ n5_
                            have p496 : 0 ≤ (x15_3 : Int) := of_decide_eq_true (by first | (with_reducible assumption) | assumption)
                            have q496 : x15_3 < (l3.length : Int) := of_decide_eq_true (by first | (with_reducible assumption) | assumption)
                            obtain ⟨ad496, e496, hx496_0⟩ := Kd.at_string HR3.out x15_3 p496 q496
                            have hw496_0 := hx496_0
                            cases e496
                            replace hx496_0 := (HB.out.cell (World.block_lt_of_cell? w _ hx496_0)).trans hx496_0
                            replace p496 := eq_true p496
                            replace q496 := eq_true q496
                            refine start_ (n := 14) (S := fun w' => w'.cell? ⟨gb495, 0, none⟩ = some (.slice Ao51 x496000_3.length co51) ∧ w'.cell? ⟨gb495, 1, none⟩ = some (.slice Ao52 x496001_3.length co52) ∧ w'.cell? (ad496.add (x15_3).toNat) = some (.string (rdOf ByteArray.empty l3 x15_3))) (ds := []) #[false, false, false, false, false, false, false, false, false, false, false, false, false, false] (by kernel_rfl) rfl rfl ⟨(blk_cell BK495.out 0).trans rfl, (blk_cell BK495.out 1).trans rfl, ((HB.out.cell (World.block_lt_of_cell? w _ hw496_0)).trans hw496_0)⟩ (fun hHeld => ?_); refine with_tabW sextonref07_All.tab10 sextonref07_All.bits10 (fun HT_ HW_ => ?_)
                            generalize wc.drew = w53 at HO_496000 HO_496001 BK486 BK487 BK495 HB hx496_0 hHeld ⊢
                            refine pure_ (i := 1) (N := some 55) (v := ?_) (a' := ?_) #[false, true, false, false, false, false, false, false, false, false, false, false, false, false] rfl rfl (any_of HT_.out (by kernel_rfl)) (fun _ _ _ h => h) (Or.inl ⟨by rfl, ?_⟩) ?_ ?_
                            rotate_left
                            · intro w'
                              go_simp
                              with_reducible rfl
                            rotate_left
                            · simp only [Act.put, List.setIfInBounds_toArray, List.set_cons_zero, List.set_cons_succ, i64_w, i32_w]
                              rfl
                            refine pure_ (i := 2) (N := some 56) (v := ?_) (a' := ?_) #[false, true, true, false, false, false, false, false, false, false, false, false, false, false] rfl rfl (any_of HT_.out (by kernel_rfl)) (fun _ _ _ h => h) (Or.inl ⟨by rfl, ?_⟩) ?_ ?_
                            rotate_left
                            · intro w'
                              go_simp
                              with_reducible rfl
                            rotate_left
                            · simp only [Act.put, List.setIfInBounds_toArray, List.set_cons_zero, List.set_cons_succ, i64_w, i32_w]
                              rfl
                            refine pure_ (i := 3) (N := some 57) (v := ?_) (a' := ?_) #[false, true, true, true, false, false, false, false, false, false, false, false, false, false] rfl rfl (any_of HT_.out (by kernel_rfl)) (fun _ _ _ h => h) (Or.inl ⟨by rfl, ?_⟩) ?_ ?_
                            rotate_left
                            · intro w'
                              go_simp
                              with_reducible rfl
                            rotate_left
                            · simp only [Act.put, List.setIfInBounds_toArray, List.set_cons_zero, List.set_cons_succ, i64_w, i32_w]
                              rfl
                            refine pure_ (i := 4) (N := some 58) (v := ?_) (a' := ?_) #[false, true, true, true, true, false, false, false, false, false, false, false, false, false] rfl rfl (any_of HT_.out (by kernel_rfl)) (fun _ _ _ h => h) (Or.inl ⟨by rfl, ?_⟩) ?_ ?_
                            rotate_left
                            · intro w'
                              go_simp
                              with_reducible rfl
                            rotate_left
                            · simp only [Act.put, List.setIfInBounds_toArray, List.set_cons_zero, List.set_cons_succ, i64_w, i32_w]
                              rfl
                            refine pure_ (i := 5) (N := some 59) (v := ?_) (a' := ?_) #[false, true, true, true, true, true, false, false, false, false, false, false, false, false] rfl rfl (any_of HT_.out (by kernel_rfl)) (fun _ _ _ h => h) (Or.inl ⟨by rfl, ?_⟩) ?_ ?_
                            rotate_left
                            · intro w'
                              go_simp
                              with_reducible rfl
                            rotate_left
                            · simp only [Act.put, List.setIfInBounds_toArray, List.set_cons_zero, List.set_cons_succ, i64_w, i32_w]
                              rfl
                            refine take_ (i := 0) (N := some 54) (v := ?_) (a' := ?_) #[true, true, true, true, true, true, false, false, false, false, false, false, false, false] rfl rfl (take_ofW HT_.out HW_.out (by kernel_rfl)) (fun _ _ _ h => h) (Or.inl ⟨by rfl, ?_⟩) hHeld ?_ ?_
                            rotate_left
                            · rintro w' ⟨s0, s1, s2⟩
                              go_simp
                              with_reducible rfl
                            rotate_left
                            · simp only [Act.put, List.setIfInBounds_toArray, List.set_cons_zero, List.set_cons_succ, i64_w, i32_w]
                              rfl
                            refine take_ (i := 6) (N := some 60) (v := ?_) (a' := ?_) #[true, true, true, true, true, true, true, false, false, false, false, false, false, false] rfl rfl (take_ofW HT_.out HW_.out (by kernel_rfl)) (fun _ _ _ h => h) (Or.inl ⟨by rfl, ?_⟩) hHeld ?_ ?_
                            rotate_left
                            · rintro w' ⟨s0, s1, s2⟩
                              go_simp
                              with_reducible rfl
                            rotate_left
                            · simp only [Act.put, List.setIfInBounds_toArray, List.set_cons_zero, List.set_cons_succ, i64_w, i32_w]
                              rfl
                            refine join_ (σ := Value × Value × Nat) 2 #[true, true, true, true, true, true, true, true, true, true, true, true, false, false] (fun s_ => [(61, .tuple #[.agg #[s_.1, s_.2.1], .int .i64 t503]), (16, .pointer (some ⟨s_.2.2, 0, none⟩)), (53, .tuple #[.agg #[s_.1, s_.2.1], .int .i64 t503]), (62, .agg #[s_.1, s_.2.1]), (63, .int .i64 t503)]) (fun s_ w' => (w'.cell? ⟨gb495, 0, none⟩ = some (.slice Ao51 x496000_3.length co51) ∧ w'.cell? ⟨gb495, 1, none⟩ = some (.slice Ao52 x496001_3.length co52) ∧ w'.cell? (ad496.add (x15_3).toNat) = some (.string (rdOf ByteArray.empty l3 x15_3))) ∧ (Kd.R Kd.string 9 w' w.heap.size (fun k_ => some k_ ≠ (.slice Ao51 x496000_3.length co51 : Value).ownBlock) s_.1 t497) ∧ (Kd.R k40 40 w' w.heap.size (fun k_ => some k_ ≠ (.slice Ao52 x496001_3.length co52 : Value).ownBlock) s_.2.1 t500) ∧ (Kd.R Kd.string 9 w' w.heap.size (fun k_ => some k_ ≠ (s_.1 : Value).ownBlock) (.slice Ao51 x496000_3.length co51) x496000_3) ∧ (Kd.R k40 40 w' w.heap.size (fun k_ => some k_ ≠ (s_.2.1 : Value).ownBlock) (.slice Ao52 x496001_3.length co52) x496001_3) ∧ (w'.heap[gb486]? = some (.cells #[.slice A0_0 l0_0.length c0_0, .slice A0_1 l0_1.length c0_1] 25 (0, 0))) ∧ (w'.heap[gb487]? = some (.cells #[.slice none 0 0, .slice none 0 0] 25 (0, 0))) ∧ (w'.heap[gb495]? = some (.cells #[.slice Ao51 x496000_3.length co51, .slice Ao52 x496001_3.length co52] 25 (0, 0))) ∧ (w'.heap[s_.2.2]? = some (.cells #[.slice none 0 0, .slice none 0 0] 25 (0, 0))) ∧ (w.heap.size ≤ s_.2.2) ∧ (w.heap.size ≤ s_.2.2) ∧ (gb486 ≠ s_.2.2) ∧ (s_.2.2 ≠ gb486) ∧ (gb487 ≠ s_.2.2) ∧ (s_.2.2 ≠ gb487) ∧ (gb495 ≠ s_.2.2) ∧ (s_.2.2 ≠ gb495) ∧ (Below w.heap.size w w')) ?_ ?_
                            rotate_left
                            · intro hCont
                              refine two_ (i := 7) (j := 11) (Ni := some 61) (Nj := some 16) #[true, true, true, true, true, true, true, true, false, false, false, false, false, false] #[true, true, true, true, true, true, true, false, false, false, false, true, false, false] rfl rfl rfl rfl (two_of HT_.out (by kernel_rfl)) (by decide) (by decide) (fun K hK => ?_) (fun K hK => ?_)
                              · skip
                                refine goes_ Try.func32 (by kernel_rfl) rfl #[.agg #[.slice Ao51 x496000_3.length co51, .slice Ao52 x496001_3.length co52], .int .i64 a1, .int .i64 a2, .string (rdOf ByteArray.empty l3 x15_3)] (by rfl) rfl rfl (by (try simp only [List.map_toArray, List.map_cons, List.map_nil]); first | done | rfl | (simp only [List.length_drop, List.length_take]; rfl)) ?_
                                with_reducible refine (sextonref07_Append.calls kj26 _ _ x496000_3 _ _ x496001_3 a1 a2 (rdOf ByteArray.empty l3 x15_3) t497 t500 t503 _ ?side1 ?side2 ?side3 ?side4 A32.out).mono ?_
                                (case side1 => repeat (first | exact (Kd.R_reads' HO_496000.out).2.2 | (with_reducible refine Kd.C_alloc ?_ _) | (with_reducible refine Kd.C_drewN ?_ _) | (with_reducible refine Kd.C_drew ?_)))
                                (case side2 => exact (Kd.R_reads' HO_496000.out).2.1)
                                (case side3 => repeat (first | exact (Kd.R_reads' HO_496001.out).2.2 | (with_reducible refine Kd.C_alloc ?_ _) | (with_reducible refine Kd.C_drewN ?_ _) | (with_reducible refine Kd.C_drew ?_)))
                                (case side4 => exact (Kd.R_reads' HO_496001.out).2.1)
                                rintro e w54 ⟨v498, v501, rfl, ho0, ho1, hb⟩
                                refine ⟨_, rfl, ?_⟩
                                have n0_ := Aside0.mk (Kd.R_elder' (by (with_reducible repeat (first | apply Kd.R_alloc | apply Kd.R_drewN | apply Kd.R_drew)); exact HO_496000.out) (Kd.R_base ho0) hb)
                                have n1_ := Aside0.mk (Kd.R_elder' (by (with_reducible repeat (first | apply Kd.R_alloc | apply Kd.R_drewN | apply Kd.R_drew)); exact HO_496001.out) (Kd.R_base ho1) hb)
                                have n2_ := Aside0.mk (Kd.R_lower (Kd.R_new' ho0 (Kd.R_lt (by (with_reducible repeat (first | apply Kd.R_alloc | apply Kd.R_drewN | apply Kd.R_drew)); exact HO_496000.out))) (below_size (by repeat (first | (with_reducible first | exact HB.out | apply below_alloc | apply pw_below_drewN | apply below_drew1 | refine below_set ?_ GE486.out | refine below_set ?_ GE487.out | refine below_set ?_ GE495.out) | exact HB.out))))
                                have n3_ := Aside0.mk (Kd.R_lower (Kd.R_new' ho1 (Kd.R_lt (by (with_reducible repeat (first | apply Kd.R_alloc | apply Kd.R_drewN | apply Kd.R_drew)); exact HO_496001.out))) (below_size (by repeat (first | (with_reducible first | exact HB.out | apply below_alloc | apply pw_below_drewN | apply below_drew1 | refine below_set ?_ GE486.out | refine below_set ?_ GE487.out | refine below_set ?_ GE495.out) | exact HB.out))))
                                have n4_ := Aside0.mk (blk_below (g := gb486) (o := .cells #[.slice A0_0 l0_0.length c0_0, .slice A0_1 l0_1.length c0_1] 25 (0, 0)) (by (with_reducible repeat (first | refine blk_drewN ?_ _ | refine blk_drew ?_ | refine blk_alloc ?_ _)); exact BK486.out) hb)
                                have n5_ := Aside0.mk (blk_below (g := gb487) (o := .cells #[.slice none 0 0, .slice none 0 0] 25 (0, 0)) (by (with_reducible repeat (first | refine blk_drewN ?_ _ | refine blk_drew ?_ | refine blk_alloc ?_ _)); exact BK487.out) hb)
                                have n6_ := Aside0.mk (blk_below (g := gb495) (o := .cells #[.slice Ao51 x496000_3.length co51, .slice Ao52 x496001_3.length co52] 25 (0, 0)) (by (with_reducible repeat (first | refine blk_drewN ?_ _ | refine blk_drew ?_ | refine blk_alloc ?_ _)); exact BK495.out) hb)
                                have n7_ := Aside0.mk (below_step (by repeat (first | (with_reducible first | exact HB.out | apply below_alloc | apply pw_below_drewN | apply below_drew1 | refine below_set ?_ GE486.out | refine below_set ?_ GE487.out | refine below_set ?_ GE495.out) | exact HB.out)) hb)
                                clear HO_496000
                                clear HO_496001
                                clear BK486
                                clear BK487
                                clear BK495
                                clear HB
                                have HO_496000 := n0_
                                have HO_496001 := n1_
                                have HO499 := n2_
                                have HO502 := n3_
                                have BK486 := n4_
                                have BK487 := n5_
                                have BK495 := n6_
                                have HB := n7_
                                clear n0_ n1_ n2_ n3_ n4_ n5_ n6_ n7_
                                (try clear hb)
                                (try clear hb2)
                                (try clear hk)
                                (try clear hi)
                                (try clear ho0)
                                (try clear ho1)
                                refine hK.out _ _ ⟨(blk_cell BK495.out 0).trans rfl, (blk_cell BK495.out 1).trans rfl, ((HB.out.cell (World.block_lt_of_cell? w _ hw496_0)).trans hw496_0)⟩ (fun hHeld => ?_)
                                clear hK K
                                refine norm_ (a' := ?_) ?_ ?_
                                rotate_left
                                · show Act.put _ (some 61) _ = _
                                  simp only [Act.put, List.setIfInBounds_toArray, List.set_cons_zero, List.set_cons_succ, i64_w, i32_w]
                                  rfl
                                refine pure_ (i := 8) (N := some 53) (v := ?_) (a' := ?_) #[true, true, true, true, true, true, true, true, true, false, false, false, false, false] rfl rfl (any_of HT_.out (by kernel_rfl)) (fun _ _ _ h => h) (Or.inl ⟨by rfl, ?_⟩) ?_ ?_
                                rotate_left
                                · intro w'
                                  go_simp
                                  with_reducible rfl
                                rotate_left
                                · simp only [Act.put, List.setIfInBounds_toArray, List.set_cons_zero, List.set_cons_succ, i64_w, i32_w]
                                  rfl
                                refine pure_ (i := 9) (N := some 62) (v := ?_) (a' := ?_) #[true, true, true, true, true, true, true, true, true, true, false, false, false, false] rfl rfl (any_of HT_.out (by kernel_rfl)) (fun _ _ _ h => h) (Or.inl ⟨by rfl, ?_⟩) ?_ ?_
                                rotate_left
                                · intro w'
                                  go_simp
                                  with_reducible rfl
                                rotate_left
                                · simp only [Act.put, List.setIfInBounds_toArray, List.set_cons_zero, List.set_cons_succ, i64_w, i32_w]
                                  rfl
                                refine pure_ (i := 10) (N := some 63) (v := ?_) (a' := ?_) #[true, true, true, true, true, true, true, true, true, true, true, false, false, false] rfl rfl (any_of HT_.out (by kernel_rfl)) (fun _ _ _ h => h) (Or.inl ⟨by rfl, ?_⟩) ?_ ?_
                                rotate_left
                                · intro w'
                                  go_simp
                                  with_reducible rfl
                                rotate_left
                                · simp only [Act.put, List.setIfInBounds_toArray, List.set_cons_zero, List.set_cons_succ, i64_w, i32_w]
                                  rfl
                                refine one_ (i := 11) (N := some 16) #[true, true, true, true, true, true, true, true, true, true, true, true, false, false] rfl rfl (one_of HT_.out (by kernel_rfl)) (by decide) (fun K hK => ?_)
                                refine box_step ?hg (N := 16) ?hd (cs := #[.slice none 0 0, .slice none 0 0]) (t := 25) ?hr ?_; (case hd => rfl); (case hg => rfl); (case hr => first | (go_simp; done) | (go_simp; rfl))
                                intro gb504 hg w55 hbox hb
                                have n0_ := Aside0.mk (Kd.R_below (by (with_reducible repeat (first | apply Kd.R_alloc | apply Kd.R_drewN | apply Kd.R_drew)); exact HO_496000.out) hb)
                                have n1_ := Aside0.mk (Kd.R_below (by (with_reducible repeat (first | apply Kd.R_alloc | apply Kd.R_drewN | apply Kd.R_drew)); exact HO_496001.out) hb)
                                have n2_ := Aside0.mk (Kd.R_below (by (with_reducible repeat (first | apply Kd.R_alloc | apply Kd.R_drewN | apply Kd.R_drew)); exact HO499.out) hb)
                                have n3_ := Aside0.mk (Kd.R_below (by (with_reducible repeat (first | apply Kd.R_alloc | apply Kd.R_drewN | apply Kd.R_drew)); exact HO502.out) hb)
                                have n4_ := Aside0.mk (blk_below (g := gb486) (o := .cells #[.slice A0_0 l0_0.length c0_0, .slice A0_1 l0_1.length c0_1] 25 (0, 0)) (by (with_reducible repeat (first | refine blk_drewN ?_ _ | refine blk_drew ?_ | refine blk_alloc ?_ _)); exact BK486.out) hb)
                                have n5_ := Aside0.mk (blk_below (g := gb487) (o := .cells #[.slice none 0 0, .slice none 0 0] 25 (0, 0)) (by (with_reducible repeat (first | refine blk_drewN ?_ _ | refine blk_drew ?_ | refine blk_alloc ?_ _)); exact BK487.out) hb)
                                have n6_ := Aside0.mk (blk_below (g := gb495) (o := .cells #[.slice Ao51 x496000_3.length co51, .slice Ao52 x496001_3.length co52] 25 (0, 0)) (by (with_reducible repeat (first | refine blk_drewN ?_ _ | refine blk_drew ?_ | refine blk_alloc ?_ _)); exact BK495.out) hb)
                                have n7_ := Aside0.mk (below_step (by repeat (first | (with_reducible first | exact HB.out | apply below_alloc | apply pw_below_drewN | apply below_drew1 | refine below_set ?_ GE486.out | refine below_set ?_ GE487.out | refine below_set ?_ GE495.out) | exact HB.out)) hb)
                                have n8_ := Aside0.mk (hbox)
                                have n9_ := Aside0.mk ((by rw [hg]; exact (below_size (by repeat (first | (with_reducible first | exact HB.out | apply below_alloc | apply pw_below_drewN | apply below_drew1 | refine below_set ?_ GE486.out | refine below_set ?_ GE487.out | refine below_set ?_ GE495.out) | exact HB.out))) : w.heap.size ≤ gb504))
                                have n10_ := Aside0.mk ((by rw [hg]; exact (below_size (by repeat (first | (with_reducible first | exact HB.out | apply below_alloc | apply pw_below_drewN | apply below_drew1 | refine below_set ?_ GE486.out | refine below_set ?_ GE487.out | refine below_set ?_ GE495.out) | exact HB.out))) : w.heap.size ≤ gb504))
                                have n11_ := Aside0.mk ((by rw [hg]; exact Nat.ne_of_lt (blk_lt (g := gb486) (o := .cells #[.slice A0_0 l0_0.length c0_0, .slice A0_1 l0_1.length c0_1] 25 (0, 0)) (by (with_reducible repeat (first | refine blk_drewN ?_ _ | refine blk_drew ?_ | refine blk_alloc ?_ _)); exact BK486.out)) : gb486 ≠ gb504))
                                have n12_ := Aside0.mk ((by rw [hg]; exact Nat.ne_of_gt (blk_lt (g := gb486) (o := .cells #[.slice A0_0 l0_0.length c0_0, .slice A0_1 l0_1.length c0_1] 25 (0, 0)) (by (with_reducible repeat (first | refine blk_drewN ?_ _ | refine blk_drew ?_ | refine blk_alloc ?_ _)); exact BK486.out)) : gb504 ≠ gb486))
                                have n13_ := Aside0.mk ((by rw [hg]; exact Nat.ne_of_lt (blk_lt (g := gb487) (o := .cells #[.slice none 0 0, .slice none 0 0] 25 (0, 0)) (by (with_reducible repeat (first | refine blk_drewN ?_ _ | refine blk_drew ?_ | refine blk_alloc ?_ _)); exact BK487.out)) : gb487 ≠ gb504))
                                have n14_ := Aside0.mk ((by rw [hg]; exact Nat.ne_of_gt (blk_lt (g := gb487) (o := .cells #[.slice none 0 0, .slice none 0 0] 25 (0, 0)) (by (with_reducible repeat (first | refine blk_drewN ?_ _ | refine blk_drew ?_ | refine blk_alloc ?_ _)); exact BK487.out)) : gb504 ≠ gb487))
                                have n15_ := Aside0.mk ((by rw [hg]; exact Nat.ne_of_lt (blk_lt (g := gb495) (o := .cells #[.slice Ao51 x496000_3.length co51, .slice Ao52 x496001_3.length co52] 25 (0, 0)) (by (with_reducible repeat (first | refine blk_drewN ?_ _ | refine blk_drew ?_ | refine blk_alloc ?_ _)); exact BK495.out)) : gb495 ≠ gb504))
                                have n16_ := Aside0.mk ((by rw [hg]; exact Nat.ne_of_gt (blk_lt (g := gb495) (o := .cells #[.slice Ao51 x496000_3.length co51, .slice Ao52 x496001_3.length co52] 25 (0, 0)) (by (with_reducible repeat (first | refine blk_drewN ?_ _ | refine blk_drew ?_ | refine blk_alloc ?_ _)); exact BK495.out)) : gb504 ≠ gb495))
                                clear HO_496000
                                clear HO_496001
                                clear HO499
                                clear HO502
                                clear BK486
                                clear BK487
                                clear BK495
                                clear HB
                                have HO_496000 := n0_
                                have HO_496001 := n1_
                                have HO499 := n2_
                                have HO502 := n3_
                                have BK486 := n4_
                                have BK487 := n5_
                                have BK495 := n6_
                                have HB := n7_
                                have BK504 := n8_
                                have GW504 := n9_
                                have GE504 := n10_
                                have NB486_504 := n11_
                                have NB504_486 := n12_
                                have NB487_504 := n13_
                                have NB504_487 := n14_
                                have NB495_504 := n15_
                                have NB504_495 := n16_
                                clear n0_ n1_ n2_ n3_ n4_ n5_ n6_ n7_ n8_ n9_ n10_ n11_ n12_ n13_ n14_ n15_ n16_
                                clear hb hbox hg
                                refine hK.out _ _ ⟨(blk_cell BK495.out 0).trans rfl, (blk_cell BK495.out 1).trans rfl, ((HB.out.cell (World.block_lt_of_cell? w _ hw496_0)).trans hw496_0)⟩ (fun hHeld => ?_)
                                clear hK K
                                refine norm_ (a' := ?_) ?_ ?_
                                rotate_left
                                · show Act.put _ (some 16) _ = _
                                  simp only [Act.put, List.setIfInBounds_toArray, List.set_cons_zero, List.set_cons_succ, i64_w, i32_w]
                                  rfl
                                exact norm_ (by simp only [putAll, Act.put, List.setIfInBounds_toArray, List.set_cons_zero, List.set_cons_succ]) (hCont (v498, v501, gb504) _ ⟨hHeld, (by (with_reducible repeat (first | apply Kd.R_alloc | apply Kd.R_drewN | apply Kd.R_drew)); exact Kd.R_mono HO499.out (fun _ hk => hk.2)), (by (with_reducible repeat (first | apply Kd.R_alloc | apply Kd.R_drewN | apply Kd.R_drew)); exact Kd.R_mono HO502.out (fun _ hk => hk.2)), (by (with_reducible repeat (first | apply Kd.R_alloc | apply Kd.R_drewN | apply Kd.R_drew)); exact Kd.R_mono HO_496000.out (fun _ hk => hk.2)), (by (with_reducible repeat (first | apply Kd.R_alloc | apply Kd.R_drewN | apply Kd.R_drew)); exact Kd.R_mono HO_496001.out (fun _ hk => hk.2)), (by (with_reducible repeat (first | refine blk_drewN ?_ _ | refine blk_drew ?_ | refine blk_alloc ?_ _)); exact BK486.out), (by (with_reducible repeat (first | refine blk_drewN ?_ _ | refine blk_drew ?_ | refine blk_alloc ?_ _)); exact BK487.out), (by (with_reducible repeat (first | refine blk_drewN ?_ _ | refine blk_drew ?_ | refine blk_alloc ?_ _)); exact BK495.out), (by (with_reducible repeat (first | refine blk_drewN ?_ _ | refine blk_drew ?_ | refine blk_alloc ?_ _)); exact BK504.out), GW504.out, GE504.out, NB486_504.out, NB504_486.out, NB487_504.out, NB504_487.out, NB495_504.out, NB504_495.out, (by repeat (first | (with_reducible first | exact HB.out | apply below_alloc | apply pw_below_drewN | apply below_drew1 | refine below_set ?_ GE486.out | refine below_set ?_ GE487.out | refine below_set ?_ GE495.out | refine below_set ?_ GE504.out) | exact HB.out))⟩)
                              · skip
                                refine box_step ?hg (N := 16) ?hd (cs := #[.slice none 0 0, .slice none 0 0]) (t := 25) ?hr ?_; (case hd => rfl); (case hg => rfl); (case hr => first | (go_simp; done) | (go_simp; rfl))
                                intro gb504 hg w54 hbox hb
                                have n0_ := Aside0.mk (Kd.R_below (by (with_reducible repeat (first | apply Kd.R_alloc | apply Kd.R_drewN | apply Kd.R_drew)); exact HO_496000.out) hb)
                                have n1_ := Aside0.mk (Kd.R_below (by (with_reducible repeat (first | apply Kd.R_alloc | apply Kd.R_drewN | apply Kd.R_drew)); exact HO_496001.out) hb)
                                have n2_ := Aside0.mk (blk_below (g := gb486) (o := .cells #[.slice A0_0 l0_0.length c0_0, .slice A0_1 l0_1.length c0_1] 25 (0, 0)) (by (with_reducible repeat (first | refine blk_drewN ?_ _ | refine blk_drew ?_ | refine blk_alloc ?_ _)); exact BK486.out) hb)
                                have n3_ := Aside0.mk (blk_below (g := gb487) (o := .cells #[.slice none 0 0, .slice none 0 0] 25 (0, 0)) (by (with_reducible repeat (first | refine blk_drewN ?_ _ | refine blk_drew ?_ | refine blk_alloc ?_ _)); exact BK487.out) hb)
                                have n4_ := Aside0.mk (blk_below (g := gb495) (o := .cells #[.slice Ao51 x496000_3.length co51, .slice Ao52 x496001_3.length co52] 25 (0, 0)) (by (with_reducible repeat (first | refine blk_drewN ?_ _ | refine blk_drew ?_ | refine blk_alloc ?_ _)); exact BK495.out) hb)
                                have n5_ := Aside0.mk (below_step (by repeat (first | (with_reducible first | exact HB.out | apply below_alloc | apply pw_below_drewN | apply below_drew1 | refine below_set ?_ GE486.out | refine below_set ?_ GE487.out | refine below_set ?_ GE495.out) | exact HB.out)) hb)
                                have n6_ := Aside0.mk (hbox)
                                have n7_ := Aside0.mk ((by rw [hg]; exact (below_size (by repeat (first | (with_reducible first | exact HB.out | apply below_alloc | apply pw_below_drewN | apply below_drew1 | refine below_set ?_ GE486.out | refine below_set ?_ GE487.out | refine below_set ?_ GE495.out) | exact HB.out))) : w.heap.size ≤ gb504))
                                have n8_ := Aside0.mk ((by rw [hg]; exact (below_size (by repeat (first | (with_reducible first | exact HB.out | apply below_alloc | apply pw_below_drewN | apply below_drew1 | refine below_set ?_ GE486.out | refine below_set ?_ GE487.out | refine below_set ?_ GE495.out) | exact HB.out))) : w.heap.size ≤ gb504))
                                have n9_ := Aside0.mk ((by rw [hg]; exact Nat.ne_of_lt (blk_lt (g := gb486) (o := .cells #[.slice A0_0 l0_0.length c0_0, .slice A0_1 l0_1.length c0_1] 25 (0, 0)) (by (with_reducible repeat (first | refine blk_drewN ?_ _ | refine blk_drew ?_ | refine blk_alloc ?_ _)); exact BK486.out)) : gb486 ≠ gb504))
                                have n10_ := Aside0.mk ((by rw [hg]; exact Nat.ne_of_gt (blk_lt (g := gb486) (o := .cells #[.slice A0_0 l0_0.length c0_0, .slice A0_1 l0_1.length c0_1] 25 (0, 0)) (by (with_reducible repeat (first | refine blk_drewN ?_ _ | refine blk_drew ?_ | refine blk_alloc ?_ _)); exact BK486.out)) : gb504 ≠ gb486))
                                have n11_ := Aside0.mk ((by rw [hg]; exact Nat.ne_of_lt (blk_lt (g := gb487) (o := .cells #[.slice none 0 0, .slice none 0 0] 25 (0, 0)) (by (with_reducible repeat (first | refine blk_drewN ?_ _ | refine blk_drew ?_ | refine blk_alloc ?_ _)); exact BK487.out)) : gb487 ≠ gb504))
                                have n12_ := Aside0.mk ((by rw [hg]; exact Nat.ne_of_gt (blk_lt (g := gb487) (o := .cells #[.slice none 0 0, .slice none 0 0] 25 (0, 0)) (by (with_reducible repeat (first | refine blk_drewN ?_ _ | refine blk_drew ?_ | refine blk_alloc ?_ _)); exact BK487.out)) : gb504 ≠ gb487))
                                have n13_ := Aside0.mk ((by rw [hg]; exact Nat.ne_of_lt (blk_lt (g := gb495) (o := .cells #[.slice Ao51 x496000_3.length co51, .slice Ao52 x496001_3.length co52] 25 (0, 0)) (by (with_reducible repeat (first | refine blk_drewN ?_ _ | refine blk_drew ?_ | refine blk_alloc ?_ _)); exact BK495.out)) : gb495 ≠ gb504))
                                have n14_ := Aside0.mk ((by rw [hg]; exact Nat.ne_of_gt (blk_lt (g := gb495) (o := .cells #[.slice Ao51 x496000_3.length co51, .slice Ao52 x496001_3.length co52] 25 (0, 0)) (by (with_reducible repeat (first | refine blk_drewN ?_ _ | refine blk_drew ?_ | refine blk_alloc ?_ _)); exact BK495.out)) : gb504 ≠ gb495))
                                clear HO_496000
                                clear HO_496001
                                clear BK486
                                clear BK487
                                clear BK495
                                clear HB
                                have HO_496000 := n0_
                                have HO_496001 := n1_
                                have BK486 := n2_
                                have BK487 := n3_
                                have BK495 := n4_
                                have HB := n5_
                                have BK504 := n6_
                                have GW504 := n7_
                                have GE504 := n8_
                                have NB486_504 := n9_
                                have NB504_486 := n10_
                                have NB487_504 := n11_
                                have NB504_487 := n12_
                                have NB495_504 := n13_
                                have NB504_495 := n14_
                                clear n0_ n1_ n2_ n3_ n4_ n5_ n6_ n7_ n8_ n9_ n10_ n11_ n12_ n13_ n14_
                                clear hb hbox hg
                                refine hK.out _ _ ⟨(blk_cell BK495.out 0).trans rfl, (blk_cell BK495.out 1).trans rfl, ((HB.out.cell (World.block_lt_of_cell? w _ hw496_0)).trans hw496_0)⟩ (fun hHeld => ?_)
                                clear hK K
                                refine norm_ (a' := ?_) ?_ ?_
                                rotate_left
                                · show Act.put _ (some 16) _ = _
                                  simp only [Act.put, List.setIfInBounds_toArray, List.set_cons_zero, List.set_cons_succ, i64_w, i32_w]
                                  rfl
                                refine one_ (i := 7) (N := some 61) #[true, true, true, true, true, true, true, true, false, false, false, true, false, false] rfl rfl (one_of HT_.out (by kernel_rfl)) (by decide) (fun K hK => ?_)
                                refine goes_ Try.func32 (by kernel_rfl) rfl #[.agg #[.slice Ao51 x496000_3.length co51, .slice Ao52 x496001_3.length co52], .int .i64 a1, .int .i64 a2, .string (rdOf ByteArray.empty l3 x15_3)] (by rfl) rfl rfl (by (try simp only [List.map_toArray, List.map_cons, List.map_nil]); first | done | rfl | (simp only [List.length_drop, List.length_take]; rfl)) ?_
                                with_reducible refine (sextonref07_Append.calls kj26 _ _ x496000_3 _ _ x496001_3 a1 a2 (rdOf ByteArray.empty l3 x15_3) t497 t500 t503 _ ?side1 ?side2 ?side3 ?side4 A32.out).mono ?_
                                (case side1 => repeat (first | exact (Kd.R_reads' HO_496000.out).2.2 | (with_reducible refine Kd.C_alloc ?_ _) | (with_reducible refine Kd.C_drewN ?_ _) | (with_reducible refine Kd.C_drew ?_)))
                                (case side2 => exact (Kd.R_reads' HO_496000.out).2.1)
                                (case side3 => repeat (first | exact (Kd.R_reads' HO_496001.out).2.2 | (with_reducible refine Kd.C_alloc ?_ _) | (with_reducible refine Kd.C_drewN ?_ _) | (with_reducible refine Kd.C_drew ?_)))
                                (case side4 => exact (Kd.R_reads' HO_496001.out).2.1)
                                rintro e w55 ⟨v498, v501, rfl, ho0, ho1, hb⟩
                                refine ⟨_, rfl, ?_⟩
                                have n0_ := Aside0.mk (Kd.R_elder' (by (with_reducible repeat (first | apply Kd.R_alloc | apply Kd.R_drewN | apply Kd.R_drew)); exact HO_496000.out) (Kd.R_base ho0) hb)
                                have n1_ := Aside0.mk (Kd.R_elder' (by (with_reducible repeat (first | apply Kd.R_alloc | apply Kd.R_drewN | apply Kd.R_drew)); exact HO_496001.out) (Kd.R_base ho1) hb)
                                have n2_ := Aside0.mk (Kd.R_lower (Kd.R_new' ho0 (Kd.R_lt (by (with_reducible repeat (first | apply Kd.R_alloc | apply Kd.R_drewN | apply Kd.R_drew)); exact HO_496000.out))) (below_size (by repeat (first | (with_reducible first | exact HB.out | apply below_alloc | apply pw_below_drewN | apply below_drew1 | refine below_set ?_ GE486.out | refine below_set ?_ GE487.out | refine below_set ?_ GE495.out | refine below_set ?_ GE504.out) | exact HB.out))))
                                have n3_ := Aside0.mk (Kd.R_lower (Kd.R_new' ho1 (Kd.R_lt (by (with_reducible repeat (first | apply Kd.R_alloc | apply Kd.R_drewN | apply Kd.R_drew)); exact HO_496001.out))) (below_size (by repeat (first | (with_reducible first | exact HB.out | apply below_alloc | apply pw_below_drewN | apply below_drew1 | refine below_set ?_ GE486.out | refine below_set ?_ GE487.out | refine below_set ?_ GE495.out | refine below_set ?_ GE504.out) | exact HB.out))))
                                have n4_ := Aside0.mk (blk_below (g := gb486) (o := .cells #[.slice A0_0 l0_0.length c0_0, .slice A0_1 l0_1.length c0_1] 25 (0, 0)) (by (with_reducible repeat (first | refine blk_drewN ?_ _ | refine blk_drew ?_ | refine blk_alloc ?_ _)); exact BK486.out) hb)
                                have n5_ := Aside0.mk (blk_below (g := gb487) (o := .cells #[.slice none 0 0, .slice none 0 0] 25 (0, 0)) (by (with_reducible repeat (first | refine blk_drewN ?_ _ | refine blk_drew ?_ | refine blk_alloc ?_ _)); exact BK487.out) hb)
                                have n6_ := Aside0.mk (blk_below (g := gb495) (o := .cells #[.slice Ao51 x496000_3.length co51, .slice Ao52 x496001_3.length co52] 25 (0, 0)) (by (with_reducible repeat (first | refine blk_drewN ?_ _ | refine blk_drew ?_ | refine blk_alloc ?_ _)); exact BK495.out) hb)
                                have n7_ := Aside0.mk (blk_below (g := gb504) (o := .cells #[.slice none 0 0, .slice none 0 0] 25 (0, 0)) (by (with_reducible repeat (first | refine blk_drewN ?_ _ | refine blk_drew ?_ | refine blk_alloc ?_ _)); exact BK504.out) hb)
                                have n8_ := Aside0.mk (below_step (by repeat (first | (with_reducible first | exact HB.out | apply below_alloc | apply pw_below_drewN | apply below_drew1 | refine below_set ?_ GE486.out | refine below_set ?_ GE487.out | refine below_set ?_ GE495.out | refine below_set ?_ GE504.out) | exact HB.out)) hb)
                                clear HO_496000
                                clear HO_496001
                                clear BK486
                                clear BK487
                                clear BK495
                                clear BK504
                                clear HB
                                have HO_496000 := n0_
                                have HO_496001 := n1_
                                have HO499 := n2_
                                have HO502 := n3_
                                have BK486 := n4_
                                have BK487 := n5_
                                have BK495 := n6_
                                have BK504 := n7_
                                have HB := n8_
                                clear n0_ n1_ n2_ n3_ n4_ n5_ n6_ n7_ n8_
                                (try clear hb)
                                (try clear hb2)
                                (try clear hk)
                                (try clear hi)
                                (try clear ho0)
                                (try clear ho1)
                                refine hK.out _ _ ⟨(blk_cell BK495.out 0).trans rfl, (blk_cell BK495.out 1).trans rfl, ((HB.out.cell (World.block_lt_of_cell? w _ hw496_0)).trans hw496_0)⟩ (fun hHeld => ?_)
                                clear hK K
                                refine norm_ (a' := ?_) ?_ ?_
                                rotate_left
                                · show Act.put _ (some 61) _ = _
                                  simp only [Act.put, List.setIfInBounds_toArray, List.set_cons_zero, List.set_cons_succ, i64_w, i32_w]
                                  rfl
                                refine pure_ (i := 8) (N := some 53) (v := ?_) (a' := ?_) #[true, true, true, true, true, true, true, true, true, false, false, true, false, false] rfl rfl (any_of HT_.out (by kernel_rfl)) (fun _ _ _ h => h) (Or.inl ⟨by rfl, ?_⟩) ?_ ?_
                                rotate_left
                                · intro w'
                                  go_simp
                                  with_reducible rfl
                                rotate_left
                                · simp only [Act.put, List.setIfInBounds_toArray, List.set_cons_zero, List.set_cons_succ, i64_w, i32_w]
                                  rfl
                                refine pure_ (i := 9) (N := some 62) (v := ?_) (a' := ?_) #[true, true, true, true, true, true, true, true, true, true, false, true, false, false] rfl rfl (any_of HT_.out (by kernel_rfl)) (fun _ _ _ h => h) (Or.inl ⟨by rfl, ?_⟩) ?_ ?_
                                rotate_left
                                · intro w'
                                  go_simp
                                  with_reducible rfl
                                rotate_left
                                · simp only [Act.put, List.setIfInBounds_toArray, List.set_cons_zero, List.set_cons_succ, i64_w, i32_w]
                                  rfl
                                refine pure_ (i := 10) (N := some 63) (v := ?_) (a' := ?_) #[true, true, true, true, true, true, true, true, true, true, true, true, false, false] rfl rfl (any_of HT_.out (by kernel_rfl)) (fun _ _ _ h => h) (Or.inl ⟨by rfl, ?_⟩) ?_ ?_
                                rotate_left
                                · intro w'
                                  go_simp
                                  with_reducible rfl
                                rotate_left
                                · simp only [Act.put, List.setIfInBounds_toArray, List.set_cons_zero, List.set_cons_succ, i64_w, i32_w]
                                  rfl
                                exact norm_ (by simp only [putAll, Act.put, List.setIfInBounds_toArray, List.set_cons_zero, List.set_cons_succ]) (hCont (v498, v501, gb504) _ ⟨hHeld, (by (with_reducible repeat (first | apply Kd.R_alloc | apply Kd.R_drewN | apply Kd.R_drew)); exact Kd.R_mono HO499.out (fun _ hk => hk.2)), (by (with_reducible repeat (first | apply Kd.R_alloc | apply Kd.R_drewN | apply Kd.R_drew)); exact Kd.R_mono HO502.out (fun _ hk => hk.2)), (by (with_reducible repeat (first | apply Kd.R_alloc | apply Kd.R_drewN | apply Kd.R_drew)); exact Kd.R_mono HO_496000.out (fun _ hk => hk.2)), (by (with_reducible repeat (first | apply Kd.R_alloc | apply Kd.R_drewN | apply Kd.R_drew)); exact Kd.R_mono HO_496001.out (fun _ hk => hk.2)), (by (with_reducible repeat (first | refine blk_drewN ?_ _ | refine blk_drew ?_ | refine blk_alloc ?_ _)); exact BK486.out), (by (with_reducible repeat (first | refine blk_drewN ?_ _ | refine blk_drew ?_ | refine blk_alloc ?_ _)); exact BK487.out), (by (with_reducible repeat (first | refine blk_drewN ?_ _ | refine blk_drew ?_ | refine blk_alloc ?_ _)); exact BK495.out), (by (with_reducible repeat (first | refine blk_drewN ?_ _ | refine blk_drew ?_ | refine blk_alloc ?_ _)); exact BK504.out), GW504.out, GE504.out, NB486_504.out, NB504_486.out, NB487_504.out, NB504_487.out, NB495_504.out, NB504_495.out, (by repeat (first | (with_reducible first | exact HB.out | apply below_alloc | apply pw_below_drewN | apply below_drew1 | refine below_set ?_ GE486.out | refine below_set ?_ GE487.out | refine below_set ?_ GE495.out | refine below_set ?_ GE504.out) | exact HB.out))⟩)
                            rintro ⟨v498, v501, gb504⟩ w56 ⟨hS_, h0_, h1_, h2_, h3_, h4_, h5_, h6_, h7_, h8_, h9_, h10_, h11_, h12_, h13_, h14_, h15_, h16_⟩
                            have n0_ : Aside0 (Kd.R Kd.string 9 w56 w.heap.size (fun k_ => some k_ ≠ (.slice Ao51 x496000_3.length co51 : Value).ownBlock) v498 t497) := ⟨h0_⟩
                            have n1_ : Aside0 (Kd.R k40 40 w56 w.heap.size (fun k_ => some k_ ≠ (.slice Ao52 x496001_3.length co52 : Value).ownBlock) v501 t500) := ⟨h1_⟩
                            have n2_ : Aside0 (Kd.R Kd.string 9 w56 w.heap.size (fun k_ => some k_ ≠ (v498 : Value).ownBlock) (.slice Ao51 x496000_3.length co51) x496000_3) := ⟨h2_⟩
                            have n3_ : Aside0 (Kd.R k40 40 w56 w.heap.size (fun k_ => some k_ ≠ (v501 : Value).ownBlock) (.slice Ao52 x496001_3.length co52) x496001_3) := ⟨h3_⟩
                            have n4_ : Aside0 (w56.heap[gb486]? = some (.cells #[.slice A0_0 l0_0.length c0_0, .slice A0_1 l0_1.length c0_1] 25 (0, 0))) := ⟨h4_⟩
                            have n5_ : Aside0 (w56.heap[gb487]? = some (.cells #[.slice none 0 0, .slice none 0 0] 25 (0, 0))) := ⟨h5_⟩
                            have n6_ : Aside0 (w56.heap[gb495]? = some (.cells #[.slice Ao51 x496000_3.length co51, .slice Ao52 x496001_3.length co52] 25 (0, 0))) := ⟨h6_⟩
                            have n7_ : Aside0 (w56.heap[gb504]? = some (.cells #[.slice none 0 0, .slice none 0 0] 25 (0, 0))) := ⟨h7_⟩
                            have n8_ : Aside0 (w.heap.size ≤ gb504) := ⟨h8_⟩
                            have n9_ : Aside0 (w.heap.size ≤ gb504) := ⟨h9_⟩
                            have n10_ : Aside0 (gb486 ≠ gb504) := ⟨h10_⟩
                            have n11_ : Aside0 (gb504 ≠ gb486) := ⟨h11_⟩
                            have n12_ : Aside0 (gb487 ≠ gb504) := ⟨h12_⟩
                            have n13_ : Aside0 (gb504 ≠ gb487) := ⟨h13_⟩
                            have n14_ : Aside0 (gb495 ≠ gb504) := ⟨h14_⟩
                            have n15_ : Aside0 (gb504 ≠ gb495) := ⟨h15_⟩
                            have n16_ : Aside0 (Below w.heap.size w w56) := ⟨h16_⟩
                            clear HO_496000
                            clear HO_496001
                            clear BK486
                            clear BK487
                            clear BK495
                            clear HB
                            clear h0_ h1_ h2_ h3_ h4_ h5_ h6_ h7_ h8_ h9_ h10_ h11_ h12_ h13_ h14_ h15_ h16_
                            have HO499 := n0_
                            have HO502 := n1_
                            have HO_496000 := n2_
                            have HO_496001 := n3_
                            have BK486 := n4_
                            have BK487 := n5_
                            have BK495 := n6_
                            have BK504 := n7_
                            have GW504 := n8_
                            have GE504 := n9_
                            have NB486_504 := n10_
                            have NB504_486 := n11_
                            have NB487_504 := n12_
                            have NB504_487 := n13_
                            have NB495_504 := n14_
                            have NB504_495 := n15_
                            have HB := n16_
                            clear n0_ n1_ n2_ n3_ n4_ n5_ n6_ n7_ n8_ n9_ n10_ n11_ n12_ n13_ n14_ n15_ n16_
                            have hHeld : w56.cell? ⟨gb495, 0, none⟩ = some (.slice Ao51 x496000_3.length co51) ∧ w56.cell? ⟨gb495, 1, none⟩ = some (.slice Ao52 x496001_3.length co52) ∧ w56.cell? (ad496.add (x15_3).toNat) = some (.string (rdOf ByteArray.empty l3 x15_3)) := hS_
                            obtain ⟨Ao57, co57, eo57⟩ := Kd.R_slice HO499.out
                            (first | subst eo57 | (injection eo57 with f1_ f2_ f3_; have f4_ := f1_.symm; have f5_ := f3_.symm; clear f1_ f2_ f3_; subst f4_; subst f5_))
                            obtain ⟨Ao59, co59, eo59⟩ := Kd.R_slice HO502.out
                            (first | subst eo59 | (injection eo59 with f1_ f2_ f3_; have f4_ := f1_.symm; have f5_ := f3_.symm; clear f1_ f2_ f3_; subst f4_; subst f5_))
                            refine norm_ (a' := ?_) ?_ ?_
                            rotate_left
                            · simp only [putAll, Act.put, List.setIfInBounds_toArray, List.set_cons_zero, List.set_cons_succ]
                              rfl
                            refine one_ (i := 12) (N := none) #[true, true, true, true, true, true, true, true, true, true, true, true, true, false] rfl rfl (one_of HT_.out (by kernel_rfl)) (by decide) (fun K hK => ?_)
                            have hs58 : w56.cell? ⟨gb504, 0, none⟩ = some (.slice none 0 0) := (blk_cell BK504.out 0).trans rfl
                            have hfs58 := blk_frozen BK504.out 0
                            have hns58_0 := NB486_504.out
                            have hns58_1 := NB487_504.out
                            have hns58_2 := NB495_504.out
                            have hms58_0 := NB504_486.out
                            have hms58_1 := NB504_487.out
                            have hms58_2 := NB504_495.out
                            have hs60 : w56.cell? ⟨gb504, 1, none⟩ = some (.slice none 0 0) := (blk_cell BK504.out 1).trans rfl
                            have hfs60 := blk_frozen BK504.out 1
                            have hns60_0 := NB486_504.out
                            have hns60_1 := NB487_504.out
                            have hns60_2 := NB495_504.out
                            have hms60_0 := NB504_486.out
                            have hms60_1 := NB504_487.out
                            have hms60_2 := NB504_495.out
                            refine skip_ (w1 := ?_) (by rfl) rfl ?_ ?_
                            rotate_left
                            · go_simp
                              rfl
                            refine hK.out _ _ ⟨((cell_far (p := ⟨gb504, _, none⟩) NB495_504.out _).trans (((cell_far (p := ⟨gb504, _, none⟩) NB495_504.out _).trans (hHeld.1)))), ((cell_far (p := ⟨gb504, _, none⟩) NB495_504.out _).trans (((cell_far (p := ⟨gb504, _, none⟩) NB495_504.out _).trans (hHeld.2.1)))), ((cell_far (p := ⟨gb504, _, none⟩) (by first | exact Nat.ne_of_lt (Nat.lt_of_lt_of_le (by have := World.block_lt_of_cell? _ _ hw496_0; first | rwa [add_block] at this | exact this) GW504.out) | (rw [add_block]; exact Nat.ne_of_lt (Nat.lt_of_lt_of_le (by have := World.block_lt_of_cell? _ _ hw496_0; first | rwa [add_block] at this | exact this) GW504.out)) | (show (Addr.add _ _).block ≠ _; rw [add_block]; exact Nat.ne_of_lt (Nat.lt_of_lt_of_le (by have := World.block_lt_of_cell? _ _ hw496_0; first | rwa [add_block] at this | exact this) GW504.out)) | (dsimp only; exact Nat.ne_of_lt (Nat.lt_of_lt_of_le (by have := World.block_lt_of_cell? _ _ hw496_0; first | rwa [add_block] at this | exact this) GW504.out))) _).trans (((cell_far (p := ⟨gb504, _, none⟩) (by first | exact Nat.ne_of_lt (Nat.lt_of_lt_of_le (by have := World.block_lt_of_cell? _ _ hw496_0; first | rwa [add_block] at this | exact this) GW504.out) | (rw [add_block]; exact Nat.ne_of_lt (Nat.lt_of_lt_of_le (by have := World.block_lt_of_cell? _ _ hw496_0; first | rwa [add_block] at this | exact this) GW504.out)) | (show (Addr.add _ _).block ≠ _; rw [add_block]; exact Nat.ne_of_lt (Nat.lt_of_lt_of_le (by have := World.block_lt_of_cell? _ _ hw496_0; first | rwa [add_block] at this | exact this) GW504.out)) | (dsimp only; exact Nat.ne_of_lt (Nat.lt_of_lt_of_le (by have := World.block_lt_of_cell? _ _ hw496_0; first | rwa [add_block] at this | exact this) GW504.out))) _).trans (hHeld.2.2))))⟩ (fun hHeld => ?_)
                            clear hK K
                            refine pure_ (i := 13) (N := some 17) (v := ?_) (a' := ?_) #[true, true, true, true, true, true, true, true, true, true, true, true, true, true] rfl rfl (any_of HT_.out (by kernel_rfl)) (fun _ _ _ h => h) (Or.inl ⟨by rfl, ?_⟩) ?_ ?_
                            rotate_left
                            · intro w'
                              go_simp
                              with_reducible rfl
                            rotate_left
                            · simp only [Act.put, List.setIfInBounds_toArray, List.set_cons_zero, List.set_cons_succ, i64_w, i32_w]
                              rfl
                            refine done_ (done_of HT_.out (by kernel_rfl)) ?_
                            have hnb61 := NB487_486.out
                            have hnc61 := NB486_487.out
                            have hnb62 := NB487_495.out
                            have hnc62 := NB495_487.out
                            have hnb63 := NB487_504.out
                            have hnc63 := NB504_487.out
                            have hcz64_0 : w56.cell? ⟨gb487, 0, none⟩ = some (.slice none 0 0) := (blk_cell BK487.out 0).trans rfl
                            have hcz64_1 : w56.cell? ⟨gb487, 1, none⟩ = some (.slice none 0 0) := (blk_cell BK487.out 1).trans rfl
                            have hfz64_0 := blk_frozen BK487.out 0
                            have hfz64_1 := blk_frozen BK487.out 1
                            try go_wp2
                            refine bodyPost_ret (results_ctt rfl _ _ gb487 25 #[.slice none 0 0, .slice none 0 0] (0, 0) _ rfl (by (with_reducible repeat (first | refine blk_drewN ?_ _ | refine blk_drew ?_ | refine blk_alloc ?_ _)); refine blk_put (cs := #[.slice none 0 0, .slice none 0 0]) ?_ 1 _ rfl; (with_reducible repeat (first | refine blk_drewN ?_ _ | refine blk_drew ?_ | refine blk_alloc ?_ _)); refine blk_put (cs := #[.slice none 0 0, .slice none 0 0]) ?_ 0 _ rfl; (with_reducible repeat (first | refine blk_drewN ?_ _ | refine blk_drew ?_ | refine blk_alloc ?_ _)); refine blk_far ?_ NB487_504.out _; (with_reducible repeat (first | refine blk_drewN ?_ _ | refine blk_drew ?_ | refine blk_alloc ?_ _)); refine blk_far ?_ NB487_504.out _; (with_reducible repeat (first | refine blk_drewN ?_ _ | refine blk_drew ?_ | refine blk_alloc ?_ _)); exact BK487.out) Try.underlying25 rfl (by kernel_rfl)) rfl ?_
                            exact ⟨_, _, by first | rfl | (simp [errW_none, errW_some] <;> rfl) | (simp [*, errW_none, errW_some] <;> rfl), by first | exact Kd.R_nil _ _ _ _ _ | exact Kd.N_nil _ _ _ _ _ | exact Kd.V_nil _ _ _ _ _ | exact Kd.Q_nil _ _ _ _ _ | exact Kd.S_nil _ _ _ _ _, by first | exact Kd.R_nil _ _ _ _ _ | exact Kd.N_nil _ _ _ _ _ | exact Kd.V_nil _ _ _ _ _ | exact Kd.Q_nil _ _ _ _ _ | exact Kd.S_nil _ _ _ _ _, by repeat (first | (with_reducible first | exact HB.out | apply below_alloc | apply pw_below_drewN | apply below_drew1 | refine below_set ?_ GE486.out | refine below_set ?_ GE487.out | refine below_set ?_ GE495.out | refine below_set ?_ GE504.out) | exact HB.out)⟩
                        · rw [if_neg c31] at H
                          exact absurd H (by simp)
                      · rw [if_neg c30] at H
                        exact absurd H (by simp)
                    · replace c29 := Bool.eq_false_iff.mpr c29
                      subst c29
                      have H1 : (if x4_14 ≤ (l3.length : Int) then (some (x496000_3, x496001_3, false, 0)) else ((sextonref04_Sync.f kj26 x496000_3 x496001_3).bind fun bt505 => (some (bt505.1, bt505.2.1, true, 0)))) = some (r1, r2, r3, r4) := by rw [if_neg (show ¬ (false = true) by decide)] at H; exact H
                      clear H
                      have H := H1
                      clear H1
                      by_cases c65 : x4_14 ≤ (l3.length : Int)
                      · rw [if_pos c65] at H
                        have c65b0 : decide (x4_14 ≤ (l3.length : Int)) = true := decide_eq_true c65
                        clear c65
                        simp only [Option.some.injEq, Prod.mk.injEq] at H
                        obtain ⟨rfl, rfl, rfl, rfl⟩ := H
                        have hnb66 := NB495_486.out
                        have hnc66 := NB486_495.out
                        have hnb67 := NB495_487.out
                        have hnc67 := NB487_495.out
                        have hcz68_0 : wc.cell? ⟨gb495, 0, none⟩ = some (u496000) := (blk_cell BK495.out 0).trans rfl
                        have hcz68_1 : wc.cell? ⟨gb495, 1, none⟩ = some (u496001) := (blk_cell BK495.out 1).trans rfl
                        have hfz68_0 := blk_frozen BK495.out 0
                        have hfz68_1 := blk_frozen BK495.out 1
                        obtain ⟨Ao69, co69, eo69⟩ := Kd.R_slice HO_496000.out
                        subst eo69
                        have hnb70 := NB487_486.out
                        have hnc70 := NB486_487.out
                        have hcz71_0 : wc.cell? ⟨gb487, 0, none⟩ = some (.slice none 0 0) := (blk_cell BK487.out 0).trans rfl
                        have hcz71_1 : wc.cell? ⟨gb487, 1, none⟩ = some (.slice none 0 0) := (blk_cell BK487.out 1).trans rfl
                        have hfz71_0 := blk_frozen BK487.out 0
                        have hfz71_1 := blk_frozen BK487.out 1
                        obtain ⟨Ao72, co72, eo72⟩ := Kd.R_slice HO_496001.out
                        subst eo72
                        go_wp2
                        refine bodyPost_ret (results_ctt rfl _ _ gb487 25 #[.slice Ao69 x496000_3.length co69, .slice Ao72 x496001_3.length co72] (0, 0) _ rfl (by (with_reducible repeat (first | refine blk_drewN ?_ _ | refine blk_drew ?_ | refine blk_alloc ?_ _)); refine blk_put (cs := #[.slice Ao69 x496000_3.length co69, .slice none 0 0]) ?_ 1 _ rfl; (with_reducible repeat (first | refine blk_drewN ?_ _ | refine blk_drew ?_ | refine blk_alloc ?_ _)); refine blk_put (cs := #[.slice none 0 0, .slice none 0 0]) ?_ 0 _ rfl; (with_reducible repeat (first | refine blk_drewN ?_ _ | refine blk_drew ?_ | refine blk_alloc ?_ _)); exact BK487.out) Try.underlying25 rfl (by kernel_rfl)) rfl ?_
                        exact ⟨_, _, by first | rfl | (simp [errW_none, errW_some] <;> rfl) | (simp [*, errW_none, errW_some] <;> rfl), by (with_reducible repeat (first | apply Kd.R_alloc | apply Kd.R_drewN | apply Kd.R_drew)); exact Kd.R_mono (Kd.R_far (p := ⟨gb487, 1, none⟩) (Kd.R_far (p := ⟨gb487, 0, none⟩) (Kd.R_types HO_496000.out BK487.out (by decide)) (fun _ hk => hk.2) (.slice Ao69 x496000_3.length co69)) (fun _ hk => hk.2) (.slice Ao72 x496001_3.length co72)) (fun _ hk => trivial), by (with_reducible repeat (first | apply Kd.R_alloc | apply Kd.R_drewN | apply Kd.R_drew)); exact Kd.R_mono (Kd.R_far (p := ⟨gb487, 1, none⟩) (Kd.R_far (p := ⟨gb487, 0, none⟩) (Kd.R_types HO_496001.out BK487.out (by decide)) (fun _ hk => hk.2) (.slice Ao69 x496000_3.length co69)) (fun _ hk => hk.2) (.slice Ao72 x496001_3.length co72)) (fun _ hk => trivial), by repeat (first | (with_reducible first | exact HB.out | apply below_alloc | apply pw_below_drewN | apply below_drew1 | refine below_set ?_ GE486.out | refine below_set ?_ GE487.out | refine below_set ?_ GE495.out) | exact HB.out)⟩
                      · rw [if_neg c65] at H
                        have c65b0 : decide (x4_14 ≤ (l3.length : Int)) = false := decide_eq_false c65
                        clear c65
                        replace H := Option.bind_eq_some_iff.mp H
                        obtain ⟨⟨t505, t508, t511⟩, A730, H⟩ := H
                        replace H : (some (t505, t508, true, 0)) = some (r1, r2, r3, r4) := H
                        have A73 := Aside0.mk A730
                        clear A730
                        simp only [Option.some.injEq, Prod.mk.injEq] at H
                        obtain ⟨rfl, rfl, rfl, rfl⟩ := H
                        have hnb74 := NB495_486.out
                        have hnc74 := NB486_495.out
                        have hnb75 := NB495_487.out
                        have hnc75 := NB487_495.out
                        have hcz76_0 : wc.cell? ⟨gb495, 0, none⟩ = some (u496000) := (blk_cell BK495.out 0).trans rfl
                        have hcz76_1 : wc.cell? ⟨gb495, 1, none⟩ = some (u496001) := (blk_cell BK495.out 1).trans rfl
                        have hfz76_0 := blk_frozen BK495.out 0
                        have hfz76_1 := blk_frozen BK495.out 1
                        obtain ⟨Ao77, co77, eo77⟩ := Kd.R_slice HO_496000.out
                        subst eo77
                        obtain ⟨Ao78, co78, eo78⟩ := Kd.R_slice HO_496001.out
                        subst eo78
                        go_wp2_with (first | ((with_reducible refine gate_callee (f := 18) rfl ?_); refine goesL_ (some 76) rfl rfl Try.func18 (by kernel_rfl) rfl #[.agg #[.slice Ao77 x496000_3.length co77, .slice Ao78 x496001_3.length co78]] rfl (by (try simp only [List.map_toArray, List.map_cons, List.map_nil]); first | done | rfl | (simp only [List.length_drop, List.length_take]; rfl)) ?_; (with_reducible refine (sextonref04_Sync.calls kj26 _ _ x496000_3 _ _ x496001_3 t505 t508 t511 _ ?side1 ?side2 ?side3 ?side4 A73.out).mono ?_); (case side1 => repeat (first | exact (Kd.R_reads' HO_496000.out).2.2 | (with_reducible refine Kd.C_alloc ?_ _) | (with_reducible refine Kd.C_drewN ?_ _) | (with_reducible refine Kd.C_drew ?_))); (case side2 => exact (Kd.R_reads' HO_496000.out).2.1); (case side3 => repeat (first | exact (Kd.R_reads' HO_496001.out).2.2 | (with_reducible refine Kd.C_alloc ?_ _) | (with_reducible refine Kd.C_drewN ?_ _) | (with_reducible refine Kd.C_drew ?_))); (case side4 => exact (Kd.R_reads' HO_496001.out).2.1); rintro e w79 ⟨v506, v509, rfl, ho0, ho1, hb⟩; refine ⟨_, rfl, ?_⟩; have n0_ := Aside0.mk (Kd.R_elder' (by (with_reducible repeat (first | apply Kd.R_alloc | apply Kd.R_drewN | apply Kd.R_drew)); exact HO_496000.out) (Kd.R_base ho0) hb); have n1_ := Aside0.mk (Kd.R_elder' (by (with_reducible repeat (first | apply Kd.R_alloc | apply Kd.R_drewN | apply Kd.R_drew)); exact HO_496001.out) (Kd.R_base ho1) hb); have n2_ := Aside0.mk (Kd.R_lower (Kd.R_new' ho0 (Kd.R_lt (by (with_reducible repeat (first | apply Kd.R_alloc | apply Kd.R_drewN | apply Kd.R_drew)); exact HO_496000.out))) (below_size (by repeat (first | (with_reducible first | exact HB.out | apply below_alloc | apply pw_below_drewN | apply below_drew1 | refine below_set ?_ GE486.out | refine below_set ?_ GE487.out | refine below_set ?_ GE495.out) | exact HB.out)))); have n3_ := Aside0.mk (Kd.R_lower (Kd.R_new' ho1 (Kd.R_lt (by (with_reducible repeat (first | apply Kd.R_alloc | apply Kd.R_drewN | apply Kd.R_drew)); exact HO_496001.out))) (below_size (by repeat (first | (with_reducible first | exact HB.out | apply below_alloc | apply pw_below_drewN | apply below_drew1 | refine below_set ?_ GE486.out | refine below_set ?_ GE487.out | refine below_set ?_ GE495.out) | exact HB.out)))); have n4_ := Aside0.mk (blk_below (g := gb486) (o := .cells #[.slice A0_0 l0_0.length c0_0, .slice A0_1 l0_1.length c0_1] 25 (0, 0)) (by (with_reducible repeat (first | refine blk_drewN ?_ _ | refine blk_drew ?_ | refine blk_alloc ?_ _)); exact BK486.out) hb); have n5_ := Aside0.mk (blk_below (g := gb487) (o := .cells #[.slice none 0 0, .slice none 0 0] 25 (0, 0)) (by (with_reducible repeat (first | refine blk_drewN ?_ _ | refine blk_drew ?_ | refine blk_alloc ?_ _)); exact BK487.out) hb); have n6_ := Aside0.mk (blk_below (g := gb495) (o := .cells #[.slice Ao77 x496000_3.length co77, .slice Ao78 x496001_3.length co78] 25 (0, 0)) (by (with_reducible repeat (first | refine blk_drewN ?_ _ | refine blk_drew ?_ | refine blk_alloc ?_ _)); exact BK495.out) hb); have n7_ := Aside0.mk (below_step (by repeat (first | (with_reducible first | exact HB.out | apply below_alloc | apply pw_below_drewN | apply below_drew1 | refine below_set ?_ GE486.out | refine below_set ?_ GE487.out | refine below_set ?_ GE495.out) | exact HB.out)) hb); clear HO_496000; clear HO_496001; clear BK486; clear BK487; clear BK495; clear HB; have HO_496000 := n0_; have HO_496001 := n1_; have HO507 := n2_; have HO510 := n3_; have BK486 := n4_; have BK487 := n5_; have BK495 := n6_; have HB := n7_; clear n0_ n1_ n2_ n3_ n4_ n5_ n6_ n7_; (try clear hb); (try clear hb2); (try clear hk); (try clear hi); (try clear ho0); (try clear ho1)) | ((with_reducible refine gate_dst (N := 18) rfl ?_); (try (refine gate_guard (by rfl) ?_; dsimp only)); refine box_event ?hg (N := 18) ?hd (cs := #[.slice none 0 0, .slice none 0 0]) (t := 25) ?hr ?_; (case hd => rfl); (case hg => rfl); (case hr => first | (go_simp; done) | (go_simp; rfl)); intro gb512 hg w80 hbox hb; have n0_ := Aside0.mk (Kd.R_below (by (with_reducible repeat (first | apply Kd.R_alloc | apply Kd.R_drewN | apply Kd.R_drew)); exact HO_496000.out) hb); have n1_ := Aside0.mk (Kd.R_below (by (with_reducible repeat (first | apply Kd.R_alloc | apply Kd.R_drewN | apply Kd.R_drew)); exact HO_496001.out) hb); have n2_ := Aside0.mk (Kd.R_below (by (with_reducible repeat (first | apply Kd.R_alloc | apply Kd.R_drewN | apply Kd.R_drew)); exact HO507.out) hb); have n3_ := Aside0.mk (Kd.R_below (by (with_reducible repeat (first | apply Kd.R_alloc | apply Kd.R_drewN | apply Kd.R_drew)); exact HO510.out) hb); have n4_ := Aside0.mk (blk_below (g := gb486) (o := .cells #[.slice A0_0 l0_0.length c0_0, .slice A0_1 l0_1.length c0_1] 25 (0, 0)) (by (with_reducible repeat (first | refine blk_drewN ?_ _ | refine blk_drew ?_ | refine blk_alloc ?_ _)); exact BK486.out) hb); have n5_ := Aside0.mk (blk_below (g := gb487) (o := .cells #[.slice none 0 0, .slice none 0 0] 25 (0, 0)) (by (with_reducible repeat (first | refine blk_drewN ?_ _ | refine blk_drew ?_ | refine blk_alloc ?_ _)); exact BK487.out) hb); have n6_ := Aside0.mk (blk_below (g := gb495) (o := .cells #[.slice Ao77 x496000_3.length co77, .slice Ao78 x496001_3.length co78] 25 (0, 0)) (by (with_reducible repeat (first | refine blk_drewN ?_ _ | refine blk_drew ?_ | refine blk_alloc ?_ _)); exact BK495.out) hb); have n7_ := Aside0.mk (below_step (by repeat (first | (with_reducible first | exact HB.out | apply below_alloc | apply pw_below_drewN | apply below_drew1 | refine below_set ?_ GE486.out | refine below_set ?_ GE487.out | refine below_set ?_ GE495.out) | exact HB.out)) hb); have n8_ := Aside0.mk (hbox); have n9_ := Aside0.mk ((by rw [hg]; exact (below_size (by repeat (first | (with_reducible first | exact HB.out | apply below_alloc | apply pw_below_drewN | apply below_drew1 | refine below_set ?_ GE486.out | refine below_set ?_ GE487.out | refine below_set ?_ GE495.out) | exact HB.out))) : w.heap.size ≤ gb512)); have n10_ := Aside0.mk ((by rw [hg]; exact (below_size (by repeat (first | (with_reducible first | exact HB.out | apply below_alloc | apply pw_below_drewN | apply below_drew1 | refine below_set ?_ GE486.out | refine below_set ?_ GE487.out | refine below_set ?_ GE495.out) | exact HB.out))) : w.heap.size ≤ gb512)); have n11_ := Aside0.mk ((by rw [hg]; exact Nat.ne_of_lt (blk_lt (g := gb486) (o := .cells #[.slice A0_0 l0_0.length c0_0, .slice A0_1 l0_1.length c0_1] 25 (0, 0)) (by (with_reducible repeat (first | refine blk_drewN ?_ _ | refine blk_drew ?_ | refine blk_alloc ?_ _)); exact BK486.out)) : gb486 ≠ gb512)); have n12_ := Aside0.mk ((by rw [hg]; exact Nat.ne_of_gt (blk_lt (g := gb486) (o := .cells #[.slice A0_0 l0_0.length c0_0, .slice A0_1 l0_1.length c0_1] 25 (0, 0)) (by (with_reducible repeat (first | refine blk_drewN ?_ _ | refine blk_drew ?_ | refine blk_alloc ?_ _)); exact BK486.out)) : gb512 ≠ gb486)); have n13_ := Aside0.mk ((by rw [hg]; exact Nat.ne_of_lt (blk_lt (g := gb487) (o := .cells #[.slice none 0 0, .slice none 0 0] 25 (0, 0)) (by (with_reducible repeat (first | refine blk_drewN ?_ _ | refine blk_drew ?_ | refine blk_alloc ?_ _)); exact BK487.out)) : gb487 ≠ gb512)); have n14_ := Aside0.mk ((by rw [hg]; exact Nat.ne_of_gt (blk_lt (g := gb487) (o := .cells #[.slice none 0 0, .slice none 0 0] 25 (0, 0)) (by (with_reducible repeat (first | refine blk_drewN ?_ _ | refine blk_drew ?_ | refine blk_alloc ?_ _)); exact BK487.out)) : gb512 ≠ gb487)); have n15_ := Aside0.mk ((by rw [hg]; exact Nat.ne_of_lt (blk_lt (g := gb495) (o := .cells #[.slice Ao77 x496000_3.length co77, .slice Ao78 x496001_3.length co78] 25 (0, 0)) (by (with_reducible repeat (first | refine blk_drewN ?_ _ | refine blk_drew ?_ | refine blk_alloc ?_ _)); exact BK495.out)) : gb495 ≠ gb512)); have n16_ := Aside0.mk ((by rw [hg]; exact Nat.ne_of_gt (blk_lt (g := gb495) (o := .cells #[.slice Ao77 x496000_3.length co77, .slice Ao78 x496001_3.length co78] 25 (0, 0)) (by (with_reducible repeat (first | refine blk_drewN ?_ _ | refine blk_drew ?_ | refine blk_alloc ?_ _)); exact BK495.out)) : gb512 ≠ gb495)); clear HO_496000; clear HO_496001; clear HO507; clear HO510; clear BK486; clear BK487; clear BK495; clear HB; have HO_496000 := n0_; have HO_496001 := n1_; have HO507 := n2_; have HO510 := n3_; have BK486 := n4_; have BK487 := n5_; have BK495 := n6_; have HB := n7_; have BK512 := n8_; have GW512 := n9_; have GE512 := n10_; have NB486_512 := n11_; have NB512_486 := n12_; have NB487_512 := n13_; have NB512_487 := n14_; have NB495_512 := n15_; have NB512_495 := n16_; clear n0_ n1_ n2_ n3_ n4_ n5_ n6_ n7_ n8_ n9_ n10_ n11_ n12_ n13_ n14_ n15_ n16_; clear hb hbox hg; obtain ⟨Ao81, co81, eo81⟩ := Kd.R_slice HO507.out; subst eo81; have hnb82 := NB512_486.out; have hnc82 := NB486_512.out; have hnb83 := NB512_487.out; have hnc83 := NB487_512.out; have hnb84 := NB512_495.out; have hnc84 := NB495_512.out; have hcz85_0 : w80.cell? ⟨gb512, 0, none⟩ = some (.slice none 0 0) := (blk_cell BK512.out 0).trans rfl; have hcz85_1 : w80.cell? ⟨gb512, 1, none⟩ = some (.slice none 0 0) := (blk_cell BK512.out 1).trans rfl; have hfz85_0 := blk_frozen BK512.out 0; have hfz85_1 := blk_frozen BK512.out 1; obtain ⟨Ao86, co86, eo86⟩ := Kd.R_slice HO510.out; subst eo86; have hnb87 := NB487_486.out; have hnc87 := NB486_487.out; have hcz88_0 : w80.cell? ⟨gb487, 0, none⟩ = some (.slice none 0 0) := (blk_cell BK487.out 0).trans rfl; have hcz88_1 : w80.cell? ⟨gb487, 1, none⟩ = some (.slice none 0 0) := (blk_cell BK487.out 1).trans rfl; have hfz88_0 := blk_frozen BK487.out 0; have hfz88_1 := blk_frozen BK487.out 1))
                        refine bodyPost_ret (results_ctt rfl _ _ gb487 25 #[.slice Ao81 t505.length co81, .slice Ao86 t508.length co86] (0, 0) _ rfl (by (with_reducible repeat (first | refine blk_drewN ?_ _ | refine blk_drew ?_ | refine blk_alloc ?_ _)); refine blk_put (cs := #[.slice Ao81 t505.length co81, .slice none 0 0]) ?_ 1 _ rfl; (with_reducible repeat (first | refine blk_drewN ?_ _ | refine blk_drew ?_ | refine blk_alloc ?_ _)); refine blk_put (cs := #[.slice none 0 0, .slice none 0 0]) ?_ 0 _ rfl; (with_reducible repeat (first | refine blk_drewN ?_ _ | refine blk_drew ?_ | refine blk_alloc ?_ _)); refine blk_far ?_ NB487_512.out _; (with_reducible repeat (first | refine blk_drewN ?_ _ | refine blk_drew ?_ | refine blk_alloc ?_ _)); refine blk_far ?_ NB487_512.out _; (with_reducible repeat (first | refine blk_drewN ?_ _ | refine blk_drew ?_ | refine blk_alloc ?_ _)); exact BK487.out) Try.underlying25 rfl (by kernel_rfl)) rfl ?_
                        exact ⟨_, _, by first | rfl | (simp [errW_none, errW_some] <;> rfl) | (simp [*, errW_none, errW_some] <;> rfl), by (with_reducible repeat (first | apply Kd.R_alloc | apply Kd.R_drewN | apply Kd.R_drew)); exact Kd.R_mono (Kd.R_far (p := ⟨gb487, 1, none⟩) (Kd.R_far (p := ⟨gb487, 0, none⟩) (Kd.R_far (p := ⟨gb512, 1, none⟩) (Kd.R_far (p := ⟨gb512, 0, none⟩) (Kd.R_types (Kd.R_types HO507.out BK512.out (by decide)) BK487.out (by decide)) (fun _ hk => hk.1.2) (.slice Ao81 t505.length co81)) (fun _ hk => hk.1.2) (.slice Ao86 t508.length co86)) (fun _ hk => hk.2) (.slice Ao81 t505.length co81)) (fun _ hk => hk.2) (.slice Ao86 t508.length co86)) (fun _ hk => trivial), by (with_reducible repeat (first | apply Kd.R_alloc | apply Kd.R_drewN | apply Kd.R_drew)); exact Kd.R_mono (Kd.R_far (p := ⟨gb487, 1, none⟩) (Kd.R_far (p := ⟨gb487, 0, none⟩) (Kd.R_far (p := ⟨gb512, 1, none⟩) (Kd.R_far (p := ⟨gb512, 0, none⟩) (Kd.R_types (Kd.R_types HO510.out BK512.out (by decide)) BK487.out (by decide)) (fun _ hk => hk.1.2) (.slice Ao81 t505.length co81)) (fun _ hk => hk.1.2) (.slice Ao86 t508.length co86)) (fun _ hk => hk.2) (.slice Ao81 t505.length co81)) (fun _ hk => hk.2) (.slice Ao86 t508.length co86)) (fun _ hk => trivial), by repeat (first | (with_reducible first | exact HB.out | apply below_alloc | apply pw_below_drewN | apply below_drew1 | refine below_set ?_ GE486.out | refine below_set ?_ GE487.out | refine below_set ?_ GE495.out | refine below_set ?_ GE512.out) | exact HB.out)⟩
  · rw [if_neg c7] at H
    have c7b0 : (t488 == 0) = false := beq_eq_false_iff_ne.mpr c7
    have c7b1 : (t488 != 0) = true := bne_iff_ne.mpr c7
    simp only [Option.some.injEq, Prod.mk.injEq] at H
    obtain ⟨rfl, rfl, rfl, rfl⟩ := H
    go_enter Try.func34, Try.ntmps34
    go_wp2_with (first | ((with_reducible refine gate_dst (N := 5) rfl ?_); (try (refine gate_guard (by rfl) ?_; dsimp only)); refine box_event ?hg (N := 5) ?hd (cs := #[.slice A0_0 l0_0.length c0_0, .slice A0_1 l0_1.length c0_1]) (t := 25) ?hr ?_; (case hd => rfl); (case hg => rfl); (case hr => first | (go_simp; done) | (go_simp; rfl)); intro gb486 hg w89 hbox hb; have n0_ := Aside0.mk (below_step (by repeat (first | (with_reducible first | exact HB.out | apply below_alloc | apply pw_below_drewN | apply below_drew1) | exact HB.out)) hb); have n1_ := Aside0.mk (hbox); have n2_ := Aside0.mk ((by rw [hg]; exact (below_size (by repeat (first | (with_reducible first | exact HB.out | apply below_alloc | apply pw_below_drewN | apply below_drew1) | exact HB.out))) : w.heap.size ≤ gb486)); have n3_ := Aside0.mk ((by rw [hg]; exact (below_size (by repeat (first | (with_reducible first | exact HB.out | apply below_alloc | apply pw_below_drewN | apply below_drew1) | exact HB.out))) : w.heap.size ≤ gb486)); clear HB; have HB := n0_; have BK486 := n1_; have GW486 := n2_; have GE486 := n3_; clear n0_ n1_ n2_ n3_; clear hb hbox hg) | ((with_reducible refine gate_dst (N := 10) rfl ?_); (try (refine gate_guard (by rfl) ?_; dsimp only)); refine box_event ?hg (N := 10) ?hd (cs := #[.slice none 0 0, .slice none 0 0]) (t := 25) ?hr ?_; (case hd => rfl); (case hg => rfl); (case hr => first | (go_simp; done) | (go_simp; rfl)); intro gb487 hg w90 hbox hb; have n0_ := Aside0.mk (blk_below (g := gb486) (o := .cells #[.slice A0_0 l0_0.length c0_0, .slice A0_1 l0_1.length c0_1] 25 (0, 0)) (by (with_reducible repeat (first | refine blk_drewN ?_ _ | refine blk_drew ?_ | refine blk_alloc ?_ _)); exact BK486.out) hb); have n1_ := Aside0.mk (below_step (by repeat (first | (with_reducible first | exact HB.out | apply below_alloc | apply pw_below_drewN | apply below_drew1 | refine below_set ?_ GE486.out) | exact HB.out)) hb); have n2_ := Aside0.mk (hbox); have n3_ := Aside0.mk ((by rw [hg]; exact (below_size (by repeat (first | (with_reducible first | exact HB.out | apply below_alloc | apply pw_below_drewN | apply below_drew1 | refine below_set ?_ GE486.out) | exact HB.out))) : w.heap.size ≤ gb487)); have n4_ := Aside0.mk ((by rw [hg]; exact (below_size (by repeat (first | (with_reducible first | exact HB.out | apply below_alloc | apply pw_below_drewN | apply below_drew1 | refine below_set ?_ GE486.out) | exact HB.out))) : w.heap.size ≤ gb487)); have n5_ := Aside0.mk ((by rw [hg]; exact Nat.ne_of_lt (blk_lt (g := gb486) (o := .cells #[.slice A0_0 l0_0.length c0_0, .slice A0_1 l0_1.length c0_1] 25 (0, 0)) (by (with_reducible repeat (first | refine blk_drewN ?_ _ | refine blk_drew ?_ | refine blk_alloc ?_ _)); exact BK486.out)) : gb486 ≠ gb487)); have n6_ := Aside0.mk ((by rw [hg]; exact Nat.ne_of_gt (blk_lt (g := gb486) (o := .cells #[.slice A0_0 l0_0.length c0_0, .slice A0_1 l0_1.length c0_1] 25 (0, 0)) (by (with_reducible repeat (first | refine blk_drewN ?_ _ | refine blk_drew ?_ | refine blk_alloc ?_ _)); exact BK486.out)) : gb487 ≠ gb486)); clear BK486; clear HB; have BK486 := n0_; have HB := n1_; have BK487 := n2_; have GW487 := n3_; have GE487 := n4_; have NB486_487 := n5_; have NB487_486 := n6_; clear n0_ n1_ n2_ n3_ n4_ n5_ n6_; clear hb hbox hg; have hnb91 := NB486_487.out; have hnc91 := NB487_486.out; have hcz92_0 : w90.cell? ⟨gb486, 0, none⟩ = some (.slice A0_0 l0_0.length c0_0) := (blk_cell BK486.out 0).trans rfl; have hcz92_1 : w90.cell? ⟨gb486, 1, none⟩ = some (.slice A0_1 l0_1.length c0_1) := (blk_cell BK486.out 1).trans rfl; have hfz92_0 := blk_frozen BK486.out 0; have hfz92_1 := blk_frozen BK486.out 1) | ((with_reducible refine gate_callee (f := 53) rfl ?_); refine goesL_ (some 23) rfl rfl Try.func53 (by kernel_rfl) rfl #[.agg #[.slice A0_0 l0_0.length c0_0, .slice A0_1 l0_1.length c0_1], .int .i64 a1, .int .i64 a2] rfl (by (try simp only [List.map_toArray, List.map_cons, List.map_nil]); first | done | rfl | (simp only [List.length_drop, List.length_take]; rfl)) ?_; (with_reducible refine (sextonref07_open.calls k _ _ l0_0 _ _ l0_1 a1 a2 t488 _ ?side1 ?side2 ?side3 ?side4 A6.out).mono ?_); (case side1 => repeat (first | exact (Kd.C_below HR0_0.out HB.out) | (with_reducible refine Kd.C_alloc ?_ _) | (with_reducible refine Kd.C_drewN ?_ _) | (with_reducible refine Kd.C_drew ?_))); (case side2 => exact HC0_0.out); (case side3 => repeat (first | exact (Kd.C_below HR0_1.out HB.out) | (with_reducible refine Kd.C_alloc ?_ _) | (with_reducible refine Kd.C_drewN ?_ _) | (with_reducible refine Kd.C_drew ?_))); (case side4 => exact HC0_1.out); rintro e w93 ⟨rfl, hb⟩; refine ⟨_, rfl, ?_⟩; have n0_ := Aside0.mk (blk_below (g := gb486) (o := .cells #[.slice A0_0 l0_0.length c0_0, .slice A0_1 l0_1.length c0_1] 25 (0, 0)) (by (with_reducible repeat (first | refine blk_drewN ?_ _ | refine blk_drew ?_ | refine blk_alloc ?_ _)); exact BK486.out) hb); have n1_ := Aside0.mk (blk_below (g := gb487) (o := .cells #[.slice none 0 0, .slice none 0 0] 25 (0, 0)) (by (with_reducible repeat (first | refine blk_drewN ?_ _ | refine blk_drew ?_ | refine blk_alloc ?_ _)); exact BK487.out) hb); have n2_ := Aside0.mk (below_step (by repeat (first | (with_reducible first | exact HB.out | apply below_alloc | apply pw_below_drewN | apply below_drew1 | refine below_set ?_ GE486.out | refine below_set ?_ GE487.out) | exact HB.out)) hb); clear BK486; clear BK487; clear HB; have BK486 := n0_; have BK487 := n1_; have HB := n2_; clear n0_ n1_ n2_; (try clear hb); (try clear hb2); (try clear hk); (try clear hi); have hcz94_0 : w93.cell? ⟨gb487, 0, none⟩ = some (.slice none 0 0) := (blk_cell BK487.out 0).trans rfl; have hcz94_1 : w93.cell? ⟨gb487, 1, none⟩ = some (.slice none 0 0) := (blk_cell BK487.out 1).trans rfl; have hfz94_0 := blk_frozen BK487.out 0; have hfz94_1 := blk_frozen BK487.out 1))
    refine bodyPost_ret (results_ctt rfl _ _ gb487 25 #[.slice none 0 0, .slice none 0 0] (0, 0) _ rfl (by (with_reducible repeat (first | refine blk_drewN ?_ _ | refine blk_drew ?_ | refine blk_alloc ?_ _)); refine blk_put (cs := #[.slice none 0 0, .slice none 0 0]) ?_ 1 _ rfl; (with_reducible repeat (first | refine blk_drewN ?_ _ | refine blk_drew ?_ | refine blk_alloc ?_ _)); refine blk_put (cs := #[.slice none 0 0, .slice none 0 0]) ?_ 0 _ rfl; (with_reducible repeat (first | refine blk_drewN ?_ _ | refine blk_drew ?_ | refine blk_alloc ?_ _)); exact BK487.out) Try.underlying25 rfl (by kernel_rfl)) rfl ?_
    exact ⟨_, _, by first | rfl | (simp [errW_none, errW_some] <;> rfl) | (simp [*, errW_none, errW_some] <;> rfl), by first | exact Kd.R_nil _ _ _ _ _ | exact Kd.N_nil _ _ _ _ _ | exact Kd.V_nil _ _ _ _ _ | exact Kd.Q_nil _ _ _ _ _ | exact Kd.S_nil _ _ _ _ _, by first | exact Kd.R_nil _ _ _ _ _ | exact Kd.N_nil _ _ _ _ _ | exact Kd.V_nil _ _ _ _ _ | exact Kd.Q_nil _ _ _ _ _ | exact Kd.S_nil _ _ _ _ _, by repeat (first | (with_reducible first | exact HB.out | apply below_alloc | apply pw_below_drewN | apply below_drew1 | refine below_set ?_ GE486.out | refine below_set ?_ GE487.out) | exact HB.out)⟩

end Go.Proofs.Ytoibofhmlokglaa.P
-- Written by a program of this session (xprint.py) over the kit's print.py.
namespace Go.Proofs.Ytoibofhmlokglaa.P
open Go.RowKit Go.Proofs.YtoibofhmlokglaaW.PrintWords Go.Proofs.YtoibofhmlokglaaW.PrintLast Go.Proofs.YtoibofhmlokglaaW.PrintMore
attribute [local go_sem] max2_int min2_int max_two min_two max_three min_three max_four min_four   -- for this text's walks alone
set_option linter.unusedVariables false
set_option linter.unusedSimpArgs false

/-! ### sextonref07_Room: function 36 -/
def sextonref07_Room.f (k : Nat) (l0_0 : List ByteArray) (l0_1 : List (S40)) (a1 : Int) (a2 : Int) : Option (Int × Int) := (sextonref07_Open.f k l0_0 l0_1 a1 a2).bind fun bt519 => (if bt519.2 = 0 then (some (wrap64 ((wrap64 ((l0_0.length : Int) - a1)) - (bt519.1.length : Int)), 0)) else (some (0, bt519.2)))
set_option maxHeartbeats 8000000 in
set_option maxRecDepth 100000 in
theorem sextonref07_Room.calls (k : Nat) (A0_0 : Option Addr) (c0_0 : Nat) (l0_0 : List ByteArray) (A0_1 : Option Addr) (c0_1 : Nat) (l0_1 : List (S40)) (a1 : Int) (a2 : Int) (r1 : Int) (r2 : Int) (w : World) (hr0_0 : Kd.C Kd.string w A0_0 l0_0.length l0_0) (hc0_0 : l0_0.length ≤ c0_0) (hr0_1 : Kd.C k40 w A0_1 l0_1.length l0_1) (hc0_1 : l0_1.length ≤ c0_1) (h : sextonref07_Room.f k l0_0 l0_1 a1 a2 = some (r1, r2)) :
    Calls Try.prog 36 #[.agg #[.slice A0_0 l0_0.length c0_0, .slice A0_1 l0_1.length c0_1], .int .i64 a1, .int .i64 a2] w fun e w' => e = .returned (.tuple #[.int .i64 r1, .int .i64 r2]) ∧ Below w.heap.size w w' := by
  have hu25 := Try.underlying25
  have HR0_0 := Aside0.mk hr0_0
  have HC0_0 := Aside0.mk hc0_0
  clear hr0_0 hc0_0
  have HR0_1 := Aside0.mk hr0_1
  have HC0_1 := Aside0.mk hc0_1
  clear hr0_1 hc0_1
  have HB := Aside0.mk (Below.refl w.heap.size w)
  have H : ((sextonref07_Open.f k l0_0 l0_1 a1 a2).bind fun bt519 => (if bt519.2 = 0 then (some (wrap64 ((wrap64 ((l0_0.length : Int) - a1)) - (bt519.1.length : Int)), 0)) else (some (0, bt519.2)))) = some (r1, r2) := h
  clear h
  replace H := Option.bind_eq_some_iff.mp H
  obtain ⟨⟨t519, t522⟩, A40, H⟩ := H
  replace H : (if t522 = 0 then (some (wrap64 ((wrap64 ((l0_0.length : Int) - a1)) - (t519.length : Int)), 0)) else (some (0, t522))) = some (r1, r2) := H
  have A4 := Aside0.mk A40
  clear A40
  by_cases c5 : t522 = 0
  · rw [if_pos c5] at H
    have c5b0 : (t522 == 0) = true := beq_iff_eq.mpr c5
    have c5b1 : (t522 != 0) = false := bne_eq_false_iff_eq.mpr c5
    clear c5
    simp only [Option.some.injEq, Prod.mk.injEq] at H
    obtain ⟨rfl, rfl⟩ := H
    go_enter Try.func36, Try.ntmps36
    go_wp2_with (first | ((with_reducible refine gate_dst (N := 3) rfl ?_); refine box_event ?hg (N := 3) ?hd (cs := #[.slice A0_0 l0_0.length c0_0, .slice A0_1 l0_1.length c0_1]) (t := 25) ?hr ?_; (case hd => rfl); (case hg => rfl); (case hr => first | (go_simp; done) | (go_simp; rfl)); intro gb518 hg w6 hbox hb; have n0_ := Aside0.mk (below_step (by repeat (first | (with_reducible first | exact HB.out | apply below_alloc | apply pw_below_drewN | apply below_drew1) | exact HB.out)) hb); have n1_ := Aside0.mk (hbox); have n2_ := Aside0.mk ((by rw [hg]; exact (below_size (by repeat (first | (with_reducible first | exact HB.out | apply below_alloc | apply pw_below_drewN | apply below_drew1) | exact HB.out))) : w.heap.size ≤ gb518)); have n3_ := Aside0.mk ((by rw [hg]; exact (below_size (by repeat (first | (with_reducible first | exact HB.out | apply below_alloc | apply pw_below_drewN | apply below_drew1) | exact HB.out))) : w.heap.size ≤ gb518)); clear HB; have HB := n0_; have BK518 := n1_; have GW518 := n2_; have GE518 := n3_; clear n0_ n1_ n2_ n3_; clear hb hbox hg; have hcz7_0 : w6.cell? ⟨gb518, 0, none⟩ = some (.slice A0_0 l0_0.length c0_0) := (blk_cell BK518.out 0).trans rfl; have hcz7_1 : w6.cell? ⟨gb518, 1, none⟩ = some (.slice A0_1 l0_1.length c0_1) := (blk_cell BK518.out 1).trans rfl; have hfz7_0 := blk_frozen BK518.out 0; have hfz7_1 := blk_frozen BK518.out 1) | ((with_reducible refine gate_callee (f := 30) rfl ?_); refine goesL_ (some 14) rfl rfl Try.func30 (by kernel_rfl) rfl #[.agg #[.slice A0_0 l0_0.length c0_0, .slice A0_1 l0_1.length c0_1], .int .i64 a1, .int .i64 a2] rfl (by (try simp only [List.map_toArray, List.map_cons, List.map_nil]); first | done | rfl | (simp only [List.length_drop, List.length_take]; rfl)) ?_; (with_reducible refine (sextonref07_Open.calls k _ _ l0_0 _ _ l0_1 a1 a2 t519 t522 _ ?side1 ?side2 ?side3 ?side4 A4.out).mono ?_); (case side1 => repeat (first | exact (Kd.C_below HR0_0.out HB.out) | (with_reducible refine Kd.C_alloc ?_ _) | (with_reducible refine Kd.C_drewN ?_ _) | (with_reducible refine Kd.C_drew ?_))); (case side2 => exact HC0_0.out); (case side3 => repeat (first | exact (Kd.C_below HR0_1.out HB.out) | (with_reducible refine Kd.C_alloc ?_ _) | (with_reducible refine Kd.C_drewN ?_ _) | (with_reducible refine Kd.C_drew ?_))); (case side4 => exact HC0_1.out); rintro e w8 ⟨v520, rfl, ho0, hb⟩; refine ⟨_, rfl, ?_⟩; have n0_ := Aside0.mk (Kd.R_lower ho0 (below_size (by repeat (first | (with_reducible first | exact HB.out | apply below_alloc | apply pw_below_drewN | apply below_drew1 | refine below_set ?_ GE518.out) | exact HB.out)))); have n1_ := Aside0.mk (blk_below (g := gb518) (o := .cells #[.slice A0_0 l0_0.length c0_0, .slice A0_1 l0_1.length c0_1] 25 (0, 0)) (by (with_reducible repeat (first | refine blk_drewN ?_ _ | refine blk_drew ?_ | refine blk_alloc ?_ _)); exact BK518.out) hb); have n2_ := Aside0.mk (below_step (by repeat (first | (with_reducible first | exact HB.out | apply below_alloc | apply pw_below_drewN | apply below_drew1 | refine below_set ?_ GE518.out) | exact HB.out)) hb); clear BK518; clear HB; have HO521 := n0_; have BK518 := n1_; have HB := n2_; clear n0_ n1_ n2_; (try clear hb); (try clear hb2); (try clear hk); (try clear hi); (try clear ho0); have hcz9_0 : w8.cell? ⟨gb518, 0, none⟩ = some (.slice A0_0 l0_0.length c0_0) := (blk_cell BK518.out 0).trans rfl; have hcz9_1 : w8.cell? ⟨gb518, 1, none⟩ = some (.slice A0_1 l0_1.length c0_1) := (blk_cell BK518.out 1).trans rfl; have hfz9_0 := blk_frozen BK518.out 0; have hfz9_1 := blk_frozen BK518.out 1; obtain ⟨Ao10, co10, eo10⟩ := Kd.R_slice HO521.out; subst eo10))
    go_ret2
    exact ⟨by first | rfl | (simp [errW_none, errW_some] <;> rfl) | (simp [*, errW_none, errW_some] <;> rfl), by repeat (first | (with_reducible first | exact HB.out | apply below_alloc | apply pw_below_drewN | apply below_drew1 | refine below_set ?_ GE518.out) | exact HB.out)⟩
  · rw [if_neg c5] at H
    have c5b0 : (t522 == 0) = false := beq_eq_false_iff_ne.mpr c5
    have c5b1 : (t522 != 0) = true := bne_iff_ne.mpr c5
    simp only [Option.some.injEq, Prod.mk.injEq] at H
    obtain ⟨rfl, rfl⟩ := H
    go_enter Try.func36, Try.ntmps36
    go_wp2_with (first | ((with_reducible refine gate_dst (N := 3) rfl ?_); refine box_event ?hg (N := 3) ?hd (cs := #[.slice A0_0 l0_0.length c0_0, .slice A0_1 l0_1.length c0_1]) (t := 25) ?hr ?_; (case hd => rfl); (case hg => rfl); (case hr => first | (go_simp; done) | (go_simp; rfl)); intro gb518 hg w11 hbox hb; have n0_ := Aside0.mk (below_step (by repeat (first | (with_reducible first | exact HB.out | apply below_alloc | apply pw_below_drewN | apply below_drew1) | exact HB.out)) hb); have n1_ := Aside0.mk (hbox); have n2_ := Aside0.mk ((by rw [hg]; exact (below_size (by repeat (first | (with_reducible first | exact HB.out | apply below_alloc | apply pw_below_drewN | apply below_drew1) | exact HB.out))) : w.heap.size ≤ gb518)); have n3_ := Aside0.mk ((by rw [hg]; exact (below_size (by repeat (first | (with_reducible first | exact HB.out | apply below_alloc | apply pw_below_drewN | apply below_drew1) | exact HB.out))) : w.heap.size ≤ gb518)); clear HB; have HB := n0_; have BK518 := n1_; have GW518 := n2_; have GE518 := n3_; clear n0_ n1_ n2_ n3_; clear hb hbox hg; have hcz12_0 : w11.cell? ⟨gb518, 0, none⟩ = some (.slice A0_0 l0_0.length c0_0) := (blk_cell BK518.out 0).trans rfl; have hcz12_1 : w11.cell? ⟨gb518, 1, none⟩ = some (.slice A0_1 l0_1.length c0_1) := (blk_cell BK518.out 1).trans rfl; have hfz12_0 := blk_frozen BK518.out 0; have hfz12_1 := blk_frozen BK518.out 1) | ((with_reducible refine gate_callee (f := 30) rfl ?_); refine goesL_ (some 14) rfl rfl Try.func30 (by kernel_rfl) rfl #[.agg #[.slice A0_0 l0_0.length c0_0, .slice A0_1 l0_1.length c0_1], .int .i64 a1, .int .i64 a2] rfl (by (try simp only [List.map_toArray, List.map_cons, List.map_nil]); first | done | rfl | (simp only [List.length_drop, List.length_take]; rfl)) ?_; (with_reducible refine (sextonref07_Open.calls k _ _ l0_0 _ _ l0_1 a1 a2 t519 t522 _ ?side1 ?side2 ?side3 ?side4 A4.out).mono ?_); (case side1 => repeat (first | exact (Kd.C_below HR0_0.out HB.out) | (with_reducible refine Kd.C_alloc ?_ _) | (with_reducible refine Kd.C_drewN ?_ _) | (with_reducible refine Kd.C_drew ?_))); (case side2 => exact HC0_0.out); (case side3 => repeat (first | exact (Kd.C_below HR0_1.out HB.out) | (with_reducible refine Kd.C_alloc ?_ _) | (with_reducible refine Kd.C_drewN ?_ _) | (with_reducible refine Kd.C_drew ?_))); (case side4 => exact HC0_1.out); rintro e w13 ⟨v520, rfl, ho0, hb⟩; refine ⟨_, rfl, ?_⟩; have n0_ := Aside0.mk (Kd.R_lower ho0 (below_size (by repeat (first | (with_reducible first | exact HB.out | apply below_alloc | apply pw_below_drewN | apply below_drew1 | refine below_set ?_ GE518.out) | exact HB.out)))); have n1_ := Aside0.mk (blk_below (g := gb518) (o := .cells #[.slice A0_0 l0_0.length c0_0, .slice A0_1 l0_1.length c0_1] 25 (0, 0)) (by (with_reducible repeat (first | refine blk_drewN ?_ _ | refine blk_drew ?_ | refine blk_alloc ?_ _)); exact BK518.out) hb); have n2_ := Aside0.mk (below_step (by repeat (first | (with_reducible first | exact HB.out | apply below_alloc | apply pw_below_drewN | apply below_drew1 | refine below_set ?_ GE518.out) | exact HB.out)) hb); clear BK518; clear HB; have HO521 := n0_; have BK518 := n1_; have HB := n2_; clear n0_ n1_ n2_; (try clear hb); (try clear hb2); (try clear hk); (try clear hi); (try clear ho0)))
    go_ret2
    exact ⟨by first | rfl | (simp [errW_none, errW_some] <;> rfl) | (simp [*, errW_none, errW_some] <;> rfl), by repeat (first | (with_reducible first | exact HB.out | apply below_alloc | apply pw_below_drewN | apply below_drew1 | refine below_set ?_ GE518.out) | exact HB.out)⟩

end Go.Proofs.Ytoibofhmlokglaa.P
-- Written by a program of this session (xprint.py) over the kit's print.py.
namespace Go.Proofs.Ytoibofhmlokglaa.P
open Go.RowKit Go.Proofs.YtoibofhmlokglaaW.PrintWords Go.Proofs.YtoibofhmlokglaaW.PrintLast Go.Proofs.YtoibofhmlokglaaW.PrintMore
attribute [local go_sem] max2_int min2_int max_two min_two max_three min_three max_four min_four   -- for this text's walks alone
set_option linter.unusedVariables false
set_option linter.unusedSimpArgs false

theorem eqA40 (d : Nat) (w : World) (x0 y0 : Int) (x1 y1 : ByteArray) :
    (Op.equalIn (d + 2) 40 (.agg #[.int .i64 x0, .string x1]) (.agg #[.int .i64 y0, .string y1])).run Try.prog w = .ok (x0 == y0 && (x1.toList == y1.toList)) w := by
  refine eqA_of Try.underlying40 (by kernel_rfl) ?_
  refine eqf_cons (by rfl) (by go_simp; rfl) (by go_simp; rfl) (by go_simp) ?_
  exact eqf_last (by rfl) (by go_simp; rfl) (by go_simp; rfl) (by go_simp)
end Go.Proofs.Ytoibofhmlokglaa.P
