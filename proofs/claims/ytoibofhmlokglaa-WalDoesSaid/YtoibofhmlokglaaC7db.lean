/-
  Texts that the claims of this chapter share, joined.
-/
import Derived.Test.YtoibofhmlokglaaPx0
import Derived.Test.YtoibofhmlokglaaC7da
import Derived.RangeFuncNested
import Derived.RangeFuncBound
import Derived.RangeFuncCalls
import Derived.RangeFuncLeaves
import Derived.RangeFuncBox
import Derived.Shelf.Abstract
import Derived.Shelf.RegionOpen
import Derived.WalkKit
import Derived.OwnWalkIn
import Derived.TacticsInMore
import Derived.LoopNIn
import Derived.LoopIn
import Derived.Outline
import Derived.Maps.AppendAt
import Derived.OwnWalk
set_option linter.unusedVariables false
set_option linter.unusedSimpArgs false
-- Written by a program of this session (xprint.py) over the kit's print.py.
namespace Go.Proofs.Ytoibofhmlokglaa.P
open Go.RowKit Go.Proofs.YtoibofhmlokglaaW.PrintWords Go.Proofs.YtoibofhmlokglaaW.PrintLast Go.Proofs.YtoibofhmlokglaaW.PrintMore
attribute [local go_sem] max2_int min2_int max_two min_two max_three min_three max_four min_four   -- for this text's walks alone
set_option linter.unusedVariables false
set_option linter.unusedSimpArgs false

/-! ### disk_open: function 41 -/
def disk_open.f (l0_0 : List ByteArray) (l0_1 : List (S40)) (a1 : Int) : Option (Int) := (disk_Check.f l0_0 l0_1).bind fun t119 => (if t119 = true then (if a1 < 0 then (some 40) else (if a1 ≥ (l0_0.length : Int) then (some 40) else (some 0))) else (some 1))
set_option maxHeartbeats 8000000 in
set_option maxRecDepth 100000 in
theorem disk_open.calls (A0_0 : Option Addr) (c0_0 : Nat) (l0_0 : List ByteArray) (A0_1 : Option Addr) (c0_1 : Nat) (l0_1 : List (S40)) (a1 : Int) (r : Int) (w : World) (hr0_0 : Kd.C Kd.string w A0_0 l0_0.length l0_0) (hc0_0 : l0_0.length ≤ c0_0) (hr0_1 : Kd.C k40 w A0_1 l0_1.length l0_1) (hc0_1 : l0_1.length ≤ c0_1) (h : disk_open.f l0_0 l0_1 a1 = some r) :
    Calls Try.prog 41 #[.agg #[.slice A0_0 l0_0.length c0_0, .slice A0_1 l0_1.length c0_1], .int .i64 a1] w fun e w' => e = .returned (.int .i64 r) ∧ Below w.heap.size w w' := by
  have hu25 := Try.underlying25
  have HR0_0 := Aside0.mk hr0_0
  have HC0_0 := Aside0.mk hc0_0
  clear hr0_0 hc0_0
  have HR0_1 := Aside0.mk hr0_1
  have HC0_1 := Aside0.mk hc0_1
  clear hr0_1 hc0_1
  have HB := Aside0.mk (Below.refl w.heap.size w)
  have H : ((disk_Check.f l0_0 l0_1).bind fun t119 => (if t119 = true then (if a1 < 0 then (some 40) else (if a1 ≥ (l0_0.length : Int) then (some 40) else (some 0))) else (some 1))) = some r := h
  clear h
  replace H := Option.bind_eq_some_iff.mp H
  obtain ⟨t119, A30, H⟩ := H
  replace H : (if t119 = true then (if a1 < 0 then (some 40) else (if a1 ≥ (l0_0.length : Int) then (some 40) else (some 0))) else (some 1)) = some r := H
  have A3 := Aside0.mk A30
  clear A30
  by_cases c4 : t119 = true
  · subst c4
    have H1 : (if a1 < 0 then (some 40) else (if a1 ≥ (l0_0.length : Int) then (some 40) else (some 0))) = some r := by rw [if_pos rfl] at H; exact H
    clear H
    have H := H1
    clear H1
    by_cases c5 : a1 < 0
    · rw [if_pos c5] at H
      have c5b0 : decide (a1 < 0) = true := decide_eq_true c5
      clear c5
      obtain rfl := Option.some.inj H
      go_enter Try.func41, Try.ntmps41
      go_wp2_with (first | ((with_reducible refine gate_dst (N := 2) rfl ?_); (try (refine gate_guard (by rfl) ?_; dsimp only)); refine box_event ?hg (N := 2) ?hd (cs := #[.slice A0_0 l0_0.length c0_0, .slice A0_1 l0_1.length c0_1]) (t := 25) ?hr ?_; (case hd => rfl); (case hg => rfl); (case hr => first | (go_simp; done) | (go_simp; rfl)); intro gb118 hg w6 hbox hb; have n0_ := Aside0.mk (below_step (by repeat (first | (with_reducible first | exact HB.out | apply below_alloc | apply pw_below_drewN | apply below_drew1) | exact HB.out)) hb); have n1_ := Aside0.mk (hbox); have n2_ := Aside0.mk ((by rw [hg]; exact (below_size (by repeat (first | (with_reducible first | exact HB.out | apply below_alloc | apply pw_below_drewN | apply below_drew1) | exact HB.out))) : w.heap.size ≤ gb118)); have n3_ := Aside0.mk ((by rw [hg]; exact (below_size (by repeat (first | (with_reducible first | exact HB.out | apply below_alloc | apply pw_below_drewN | apply below_drew1) | exact HB.out))) : w.heap.size ≤ gb118)); clear HB; have HB := n0_; have BK118 := n1_; have GW118 := n2_; have GE118 := n3_; clear n0_ n1_ n2_ n3_; clear hb hbox hg; have hcz7_0 : w6.cell? ⟨gb118, 0, none⟩ = some (.slice A0_0 l0_0.length c0_0) := (blk_cell BK118.out 0).trans rfl; have hcz7_1 : w6.cell? ⟨gb118, 1, none⟩ = some (.slice A0_1 l0_1.length c0_1) := (blk_cell BK118.out 1).trans rfl; have hfz7_0 := blk_frozen BK118.out 0; have hfz7_1 := blk_frozen BK118.out 1) | ((with_reducible refine gate_callee (f := 24) rfl ?_); refine goesL_ (some 7) rfl rfl Try.func24 (by kernel_rfl) rfl #[.agg #[.slice A0_0 l0_0.length c0_0, .slice A0_1 l0_1.length c0_1]] rfl (by (try simp only [List.map_toArray, List.map_cons, List.map_nil]); first | done | rfl | (simp only [List.length_drop, List.length_take]; rfl)) ?_; (with_reducible refine (disk_Check.calls _ _ l0_0 _ _ l0_1 true _ ?side1 ?side2 ?side3 ?side4 A3.out).mono ?_); (case side1 => repeat (first | exact (Kd.C_below HR0_0.out HB.out) | (with_reducible refine Kd.C_alloc ?_ _) | (with_reducible refine Kd.C_drewN ?_ _) | (with_reducible refine Kd.C_drew ?_))); (case side2 => exact HC0_0.out); (case side3 => repeat (first | exact (Kd.C_below HR0_1.out HB.out) | (with_reducible refine Kd.C_alloc ?_ _) | (with_reducible refine Kd.C_drewN ?_ _) | (with_reducible refine Kd.C_drew ?_))); (case side4 => exact HC0_1.out); rintro e w8 ⟨rfl, hb⟩; refine ⟨_, rfl, ?_⟩; have n0_ := Aside0.mk (blk_below (g := gb118) (o := .cells #[.slice A0_0 l0_0.length c0_0, .slice A0_1 l0_1.length c0_1] 25 (0, 0)) (by (with_reducible repeat (first | refine blk_drewN ?_ _ | refine blk_drew ?_ | refine blk_alloc ?_ _)); exact BK118.out) hb); have n1_ := Aside0.mk (below_step (by repeat (first | (with_reducible first | exact HB.out | apply below_alloc | apply pw_below_drewN | apply below_drew1 | refine below_set ?_ GE118.out) | exact HB.out)) hb); clear BK118; clear HB; have BK118 := n0_; have HB := n1_; clear n0_ n1_; (try clear hb); (try clear hb2); (try clear hk); (try clear hi)))
      go_ret
      exact ⟨by first | rfl | (simp [errW_none, errW_some] <;> rfl) | (simp [*, errW_none, errW_some] <;> rfl), by repeat (first | (with_reducible first | exact HB.out | apply below_alloc | apply pw_below_drewN | apply below_drew1 | refine below_set ?_ GE118.out) | exact HB.out)⟩
    · rw [if_neg c5] at H
      have c5b0 : decide (a1 < 0) = false := decide_eq_false c5
      clear c5
      by_cases c9 : a1 ≥ (l0_0.length : Int)
      · rw [if_pos c9] at H
        have c9b0 : decide ((l0_0.length : Int) ≤ a1) = true := decide_eq_true c9
        clear c9
        obtain rfl := Option.some.inj H
        go_enter Try.func41, Try.ntmps41
        go_wp2_with (first | ((with_reducible refine gate_dst (N := 2) rfl ?_); (try (refine gate_guard (by rfl) ?_; dsimp only)); refine box_event ?hg (N := 2) ?hd (cs := #[.slice A0_0 l0_0.length c0_0, .slice A0_1 l0_1.length c0_1]) (t := 25) ?hr ?_; (case hd => rfl); (case hg => rfl); (case hr => first | (go_simp; done) | (go_simp; rfl)); intro gb118 hg w10 hbox hb; have n0_ := Aside0.mk (below_step (by repeat (first | (with_reducible first | exact HB.out | apply below_alloc | apply pw_below_drewN | apply below_drew1) | exact HB.out)) hb); have n1_ := Aside0.mk (hbox); have n2_ := Aside0.mk ((by rw [hg]; exact (below_size (by repeat (first | (with_reducible first | exact HB.out | apply below_alloc | apply pw_below_drewN | apply below_drew1) | exact HB.out))) : w.heap.size ≤ gb118)); have n3_ := Aside0.mk ((by rw [hg]; exact (below_size (by repeat (first | (with_reducible first | exact HB.out | apply below_alloc | apply pw_below_drewN | apply below_drew1) | exact HB.out))) : w.heap.size ≤ gb118)); clear HB; have HB := n0_; have BK118 := n1_; have GW118 := n2_; have GE118 := n3_; clear n0_ n1_ n2_ n3_; clear hb hbox hg; have hcz11_0 : w10.cell? ⟨gb118, 0, none⟩ = some (.slice A0_0 l0_0.length c0_0) := (blk_cell BK118.out 0).trans rfl; have hcz11_1 : w10.cell? ⟨gb118, 1, none⟩ = some (.slice A0_1 l0_1.length c0_1) := (blk_cell BK118.out 1).trans rfl; have hfz11_0 := blk_frozen BK118.out 0; have hfz11_1 := blk_frozen BK118.out 1) | ((with_reducible refine gate_callee (f := 24) rfl ?_); refine goesL_ (some 7) rfl rfl Try.func24 (by kernel_rfl) rfl #[.agg #[.slice A0_0 l0_0.length c0_0, .slice A0_1 l0_1.length c0_1]] rfl (by (try simp only [List.map_toArray, List.map_cons, List.map_nil]); first | done | rfl | (simp only [List.length_drop, List.length_take]; rfl)) ?_; (with_reducible refine (disk_Check.calls _ _ l0_0 _ _ l0_1 true _ ?side1 ?side2 ?side3 ?side4 A3.out).mono ?_); (case side1 => repeat (first | exact (Kd.C_below HR0_0.out HB.out) | (with_reducible refine Kd.C_alloc ?_ _) | (with_reducible refine Kd.C_drewN ?_ _) | (with_reducible refine Kd.C_drew ?_))); (case side2 => exact HC0_0.out); (case side3 => repeat (first | exact (Kd.C_below HR0_1.out HB.out) | (with_reducible refine Kd.C_alloc ?_ _) | (with_reducible refine Kd.C_drewN ?_ _) | (with_reducible refine Kd.C_drew ?_))); (case side4 => exact HC0_1.out); rintro e w12 ⟨rfl, hb⟩; refine ⟨_, rfl, ?_⟩; have n0_ := Aside0.mk (blk_below (g := gb118) (o := .cells #[.slice A0_0 l0_0.length c0_0, .slice A0_1 l0_1.length c0_1] 25 (0, 0)) (by (with_reducible repeat (first | refine blk_drewN ?_ _ | refine blk_drew ?_ | refine blk_alloc ?_ _)); exact BK118.out) hb); have n1_ := Aside0.mk (below_step (by repeat (first | (with_reducible first | exact HB.out | apply below_alloc | apply pw_below_drewN | apply below_drew1 | refine below_set ?_ GE118.out) | exact HB.out)) hb); clear BK118; clear HB; have BK118 := n0_; have HB := n1_; clear n0_ n1_; (try clear hb); (try clear hb2); (try clear hk); (try clear hi); have hcz13_0 : w12.cell? ⟨gb118, 0, none⟩ = some (.slice A0_0 l0_0.length c0_0) := (blk_cell BK118.out 0).trans rfl; have hcz13_1 : w12.cell? ⟨gb118, 1, none⟩ = some (.slice A0_1 l0_1.length c0_1) := (blk_cell BK118.out 1).trans rfl; have hfz13_0 := blk_frozen BK118.out 0; have hfz13_1 := blk_frozen BK118.out 1))
        go_ret
        exact ⟨by first | rfl | (simp [errW_none, errW_some] <;> rfl) | (simp [*, errW_none, errW_some] <;> rfl), by repeat (first | (with_reducible first | exact HB.out | apply below_alloc | apply pw_below_drewN | apply below_drew1 | refine below_set ?_ GE118.out) | exact HB.out)⟩
      · rw [if_neg c9] at H
        have c9b0 : decide ((l0_0.length : Int) ≤ a1) = false := decide_eq_false c9
        clear c9
        obtain rfl := Option.some.inj H
        go_enter Try.func41, Try.ntmps41
        go_wp2_with (first | ((with_reducible refine gate_dst (N := 2) rfl ?_); (try (refine gate_guard (by rfl) ?_; dsimp only)); refine box_event ?hg (N := 2) ?hd (cs := #[.slice A0_0 l0_0.length c0_0, .slice A0_1 l0_1.length c0_1]) (t := 25) ?hr ?_; (case hd => rfl); (case hg => rfl); (case hr => first | (go_simp; done) | (go_simp; rfl)); intro gb118 hg w14 hbox hb; have n0_ := Aside0.mk (below_step (by repeat (first | (with_reducible first | exact HB.out | apply below_alloc | apply pw_below_drewN | apply below_drew1) | exact HB.out)) hb); have n1_ := Aside0.mk (hbox); have n2_ := Aside0.mk ((by rw [hg]; exact (below_size (by repeat (first | (with_reducible first | exact HB.out | apply below_alloc | apply pw_below_drewN | apply below_drew1) | exact HB.out))) : w.heap.size ≤ gb118)); have n3_ := Aside0.mk ((by rw [hg]; exact (below_size (by repeat (first | (with_reducible first | exact HB.out | apply below_alloc | apply pw_below_drewN | apply below_drew1) | exact HB.out))) : w.heap.size ≤ gb118)); clear HB; have HB := n0_; have BK118 := n1_; have GW118 := n2_; have GE118 := n3_; clear n0_ n1_ n2_ n3_; clear hb hbox hg; have hcz15_0 : w14.cell? ⟨gb118, 0, none⟩ = some (.slice A0_0 l0_0.length c0_0) := (blk_cell BK118.out 0).trans rfl; have hcz15_1 : w14.cell? ⟨gb118, 1, none⟩ = some (.slice A0_1 l0_1.length c0_1) := (blk_cell BK118.out 1).trans rfl; have hfz15_0 := blk_frozen BK118.out 0; have hfz15_1 := blk_frozen BK118.out 1) | ((with_reducible refine gate_callee (f := 24) rfl ?_); refine goesL_ (some 7) rfl rfl Try.func24 (by kernel_rfl) rfl #[.agg #[.slice A0_0 l0_0.length c0_0, .slice A0_1 l0_1.length c0_1]] rfl (by (try simp only [List.map_toArray, List.map_cons, List.map_nil]); first | done | rfl | (simp only [List.length_drop, List.length_take]; rfl)) ?_; (with_reducible refine (disk_Check.calls _ _ l0_0 _ _ l0_1 true _ ?side1 ?side2 ?side3 ?side4 A3.out).mono ?_); (case side1 => repeat (first | exact (Kd.C_below HR0_0.out HB.out) | (with_reducible refine Kd.C_alloc ?_ _) | (with_reducible refine Kd.C_drewN ?_ _) | (with_reducible refine Kd.C_drew ?_))); (case side2 => exact HC0_0.out); (case side3 => repeat (first | exact (Kd.C_below HR0_1.out HB.out) | (with_reducible refine Kd.C_alloc ?_ _) | (with_reducible refine Kd.C_drewN ?_ _) | (with_reducible refine Kd.C_drew ?_))); (case side4 => exact HC0_1.out); rintro e w16 ⟨rfl, hb⟩; refine ⟨_, rfl, ?_⟩; have n0_ := Aside0.mk (blk_below (g := gb118) (o := .cells #[.slice A0_0 l0_0.length c0_0, .slice A0_1 l0_1.length c0_1] 25 (0, 0)) (by (with_reducible repeat (first | refine blk_drewN ?_ _ | refine blk_drew ?_ | refine blk_alloc ?_ _)); exact BK118.out) hb); have n1_ := Aside0.mk (below_step (by repeat (first | (with_reducible first | exact HB.out | apply below_alloc | apply pw_below_drewN | apply below_drew1 | refine below_set ?_ GE118.out) | exact HB.out)) hb); clear BK118; clear HB; have BK118 := n0_; have HB := n1_; clear n0_ n1_; (try clear hb); (try clear hb2); (try clear hk); (try clear hi); have hcz17_0 : w16.cell? ⟨gb118, 0, none⟩ = some (.slice A0_0 l0_0.length c0_0) := (blk_cell BK118.out 0).trans rfl; have hcz17_1 : w16.cell? ⟨gb118, 1, none⟩ = some (.slice A0_1 l0_1.length c0_1) := (blk_cell BK118.out 1).trans rfl; have hfz17_0 := blk_frozen BK118.out 0; have hfz17_1 := blk_frozen BK118.out 1))
        go_ret
        exact ⟨by first | rfl | (simp [errW_none, errW_some] <;> rfl) | (simp [*, errW_none, errW_some] <;> rfl), by repeat (first | (with_reducible first | exact HB.out | apply below_alloc | apply pw_below_drewN | apply below_drew1 | refine below_set ?_ GE118.out) | exact HB.out)⟩
  · replace c4 := Bool.eq_false_iff.mpr c4
    subst c4
    have H1 : (some 1) = some r := by rw [if_neg (show ¬ (false = true) by decide)] at H; exact H
    clear H
    have H := H1
    clear H1
    obtain rfl := Option.some.inj H
    go_enter Try.func41, Try.ntmps41
    go_wp2_with (first | ((with_reducible refine gate_dst (N := 2) rfl ?_); (try (refine gate_guard (by rfl) ?_; dsimp only)); refine box_event ?hg (N := 2) ?hd (cs := #[.slice A0_0 l0_0.length c0_0, .slice A0_1 l0_1.length c0_1]) (t := 25) ?hr ?_; (case hd => rfl); (case hg => rfl); (case hr => first | (go_simp; done) | (go_simp; rfl)); intro gb118 hg w18 hbox hb; have n0_ := Aside0.mk (below_step (by repeat (first | (with_reducible first | exact HB.out | apply below_alloc | apply pw_below_drewN | apply below_drew1) | exact HB.out)) hb); have n1_ := Aside0.mk (hbox); have n2_ := Aside0.mk ((by rw [hg]; exact (below_size (by repeat (first | (with_reducible first | exact HB.out | apply below_alloc | apply pw_below_drewN | apply below_drew1) | exact HB.out))) : w.heap.size ≤ gb118)); have n3_ := Aside0.mk ((by rw [hg]; exact (below_size (by repeat (first | (with_reducible first | exact HB.out | apply below_alloc | apply pw_below_drewN | apply below_drew1) | exact HB.out))) : w.heap.size ≤ gb118)); clear HB; have HB := n0_; have BK118 := n1_; have GW118 := n2_; have GE118 := n3_; clear n0_ n1_ n2_ n3_; clear hb hbox hg; have hcz19_0 : w18.cell? ⟨gb118, 0, none⟩ = some (.slice A0_0 l0_0.length c0_0) := (blk_cell BK118.out 0).trans rfl; have hcz19_1 : w18.cell? ⟨gb118, 1, none⟩ = some (.slice A0_1 l0_1.length c0_1) := (blk_cell BK118.out 1).trans rfl; have hfz19_0 := blk_frozen BK118.out 0; have hfz19_1 := blk_frozen BK118.out 1) | ((with_reducible refine gate_callee (f := 24) rfl ?_); refine goesL_ (some 7) rfl rfl Try.func24 (by kernel_rfl) rfl #[.agg #[.slice A0_0 l0_0.length c0_0, .slice A0_1 l0_1.length c0_1]] rfl (by (try simp only [List.map_toArray, List.map_cons, List.map_nil]); first | done | rfl | (simp only [List.length_drop, List.length_take]; rfl)) ?_; (with_reducible refine (disk_Check.calls _ _ l0_0 _ _ l0_1 false _ ?side1 ?side2 ?side3 ?side4 A3.out).mono ?_); (case side1 => repeat (first | exact (Kd.C_below HR0_0.out HB.out) | (with_reducible refine Kd.C_alloc ?_ _) | (with_reducible refine Kd.C_drewN ?_ _) | (with_reducible refine Kd.C_drew ?_))); (case side2 => exact HC0_0.out); (case side3 => repeat (first | exact (Kd.C_below HR0_1.out HB.out) | (with_reducible refine Kd.C_alloc ?_ _) | (with_reducible refine Kd.C_drewN ?_ _) | (with_reducible refine Kd.C_drew ?_))); (case side4 => exact HC0_1.out); rintro e w20 ⟨rfl, hb⟩; refine ⟨_, rfl, ?_⟩; have n0_ := Aside0.mk (blk_below (g := gb118) (o := .cells #[.slice A0_0 l0_0.length c0_0, .slice A0_1 l0_1.length c0_1] 25 (0, 0)) (by (with_reducible repeat (first | refine blk_drewN ?_ _ | refine blk_drew ?_ | refine blk_alloc ?_ _)); exact BK118.out) hb); have n1_ := Aside0.mk (below_step (by repeat (first | (with_reducible first | exact HB.out | apply below_alloc | apply pw_below_drewN | apply below_drew1 | refine below_set ?_ GE118.out) | exact HB.out)) hb); clear BK118; clear HB; have BK118 := n0_; have HB := n1_; clear n0_ n1_; (try clear hb); (try clear hb2); (try clear hk); (try clear hi)))
    go_ret
    exact ⟨by first | rfl | (simp [errW_none, errW_some] <;> rfl) | (simp [*, errW_none, errW_some] <;> rfl), by repeat (first | (with_reducible first | exact HB.out | apply below_alloc | apply pw_below_drewN | apply below_drew1 | refine below_set ?_ GE118.out) | exact HB.out)⟩

end Go.Proofs.Ytoibofhmlokglaa.P
/-
  disk.Write, by hand. For every disk, number and text.
-/
namespace Go.Proofs.Ytoibofhmlokglaa.P
open Go.RowKit Go.Shelf Go.Proofs.YtoibofhmlokglaaW.PrintWords Go.Proofs.YtoibofhmlokglaaW.PrintLast Go.Proofs.YtoibofhmlokglaaW.PrintMore Go.Proofs.Plain

/-- What disk.Write answers. -/
def writeV (l0 : List ByteArray) (l1 : List S40) (at_ : Int) (s : ByteArray) : List ByteArray × List S40 × Int :=
  if checkB l0 l1 = false then ([], [], 1) else if at_ < 0 ∨ at_ ≥ (l0.length : Int) then ([], [], 40) else if longS s = true then ([], [], 1) else if l1.length = 100 then ([], [], 41) else (l0, l1 ++ [⟨at_, s⟩], 0)
def disk_Write.f (l0_0 : List ByteArray) (l0_1 : List S40) (a1 : Int) (a2 : ByteArray) : Option (List ByteArray × List S40 × Int) := some (writeV l0_0 l0_1 a1 a2)

theorem open_f (l0 : List ByteArray) (l1 : List S40) (at_ : Int) : disk_open.f l0 l1 at_ = some (if checkB l0 l1 = false then 1 else if at_ < 0 ∨ at_ ≥ (l0.length : Int) then 40 else 0) := by
  unfold disk_open.f disk_Check.f
  simp only [Option.bind_some]
  cases checkB l0 l1
  · rfl
  · by_cases h1 : at_ < 0
    · simp [h1]
    · by_cases h2 : at_ ≥ (l0.length : Int)
      · simp [h1, h2]
      · simp [h1, h2]

theorem disk_short_new (w : World) (s : ByteArray) :
    Calls Try.prog 42 #[.slice (some ⟨w.heap.size, 0, none⟩) 1 1] (w.alloc (.cells #[.string s] 9)) fun e w' => e = .returned (.bool (!(longS s))) ∧ Below w.heap.size w w' := by
  have h := disk_short_calls _ 1 [s] _ (one_str w s 9)
  refine h.mono ?_
  rintro e w' ⟨rfl, hb⟩
  exact ⟨by simp, ((Below.refl _ _).alloc (Nat.le_refl _) _).trans (hb.mono (by simp))⟩

theorem row_block {w : World} {base : Nat} {e : TypeId} {size n c : Nat} {A : Option Addr} {xs : List Value} (h : w.ownsRow base e size (.slice A n c) n xs) (hn : 0 < n) : ∃ go cells, A = some ⟨go, 0, none⟩ ∧ w.heap[go]? = some (.cells cells e (0, 0)) := by
  rcases h.2 with ⟨he, h0⟩ | ⟨g', cap, cur, he, _, hg, _⟩
  · omega
  · injection he with ha _ _; exact ⟨g', cur, ha, hg⟩

section
variable (A0 : Option Addr) (c0 : Nat) (l0 : List ByteArray) (A1 : Option Addr) (c1 : Nat) (l1 : List S40) (at_ : Int) (s : ByteArray) (w : World)
  (hr0 : Kd.C Kd.string w A0 l0.length l0) (hc0 : l0.length ≤ c0) (hr1 : Kd.C k40 w A1 l1.length l1) (hc1 : l1.length ≤ c1)
include hr0 hc0 hr1 hc1

set_option maxHeartbeats 8000000 in
set_option maxRecDepth 100000 in
theorem disk_Write_yes (hck : checkB l0 l1 = true) (ha : ¬ (at_ < 0 ∨ at_ ≥ (l0.length : Int))) (hs : longS s = false) (hl : ¬ l1.length = 100) :
    Calls Try.prog 13 #[.agg #[.slice A0 l0.length c0, .slice A1 l1.length c1], .int .i64 at_, .string s] w fun e w' => ∃ v0_ v1_ : Value, e = .returned (.tuple #[.agg #[v0_, v1_], .int .i64 0]) ∧ Kd.R Kd.string 9 w' w.heap.size (fun _ => True) v0_ l0 ∧ Kd.R k40 40 w' w.heap.size (fun _ => True) v1_ (l1 ++ [⟨at_, s⟩]) ∧ Below w.heap.size w w' := by
  have hk1 : 1 ≤ l0.length ∧ l0.length ≤ 200 ∧ l1.length ≤ 100 := by
    unfold checkB at hck
    simp only [Bool.and_eq_true, decide_eq_true_eq] at hck
    exact ⟨hck.1.1.1.1, hck.1.1.1.2, hck.1.1.2⟩
  obtain ⟨k1, k2, k3⟩ := hk1
  have hop := open_f l0 l1 at_
  rw [if_neg (by rw [hck]; decide), if_neg ha] at hop
  have HR0 := Aside0.mk hr0
  have HR1 := Aside0.mk hr1
  obtain ⟨D, hD⟩ : ∃ D, D = Obj.cells #[.slice A0 l0.length c0, .slice A1 l1.length c1] 25 := ⟨_, rfl⟩
  have hB2 : Below w.heap.size w ((w.alloc D).alloc (.cells #[.slice none 0 0, .slice none 0 0] 25)) := ((Below.refl _ _).alloc (Nat.le_refl _) _).alloc (by simp) _
  have HB2 := Aside0.mk hB2
  have HC := Aside0.mk (disk_open.calls A0 c0 l0 A1 c1 l1 at_ 0 _ (Kd.C_below hr0 hB2) hc0 (Kd.C_below hr1 hB2) hc1 hop)
  have hE := blk_new (w.alloc D) (.cells #[.slice none 0 0, .slice none 0 0] 25)
  rw [World.size_alloc] at hE
  have HE := Aside0.mk hE
  have HD := Aside0.mk (blk_alloc (blk_new w D) (.cells #[.slice none 0 0, .slice none 0 0] 25))
  have HCL := Aside0.mk (show slices_Clone_WN.f l1 = some l1 by unfold slices_Clone_WN.f; rw [if_pos (by omega)])
  have HS := Aside0.mk hs
  have e100 : ((l1.length : Int) == 100) = false := by simp; omega
  have e100n : (l1.length == 100) = false := by simpa using hl
  subst hD
  clear hB2 hE hr0 hr1 hck hop ha hs hl
  go_enter Try.func13, Try.ntmps13
  go_wp2_with (first | (go_at_call 41; refine HC.out.mono ?_; rintro e w3 ⟨rfl, hb3⟩; have HE3 := Aside0.mk (blk_below HE.out hb3); have HD3 := Aside0.mk (blk_below HD.out hb3); have HB3 := Aside0.mk (HB2.out.trans (hb3.mono HB2.out.size)); clear hb3) | (go_at_call 42; refine (disk_short_new _ _).mono ?_; rintro e w4 ⟨rfl, hb4⟩; have HE4 := Aside0.mk (blk_below HE3.out hb4); have HD4 := Aside0.mk (blk_below HD3.out hb4); have HB4 := Aside0.mk (HB3.out.trans (hb4.mono HB3.out.size)); clear hb4; have d0 := blk_cell HD4.out 0; have d1 := blk_cell HD4.out 1; rw [HS.out]) | ((with_reducible refine gate_dst (N := 33) rfl ?_); refine Kd.R_make Kd.string (w0 := w) w.heap.size 9 rfl rfl 22 (.tmp 32) (.tmp 32) rfl (l0.length : Int) rfl rfl Try.underlying22 (.string ⟨#[]⟩) 16 slices_Clone_string_string_info rfl (by decide) (by omega) ⟨#[]⟩ (ok := fun _ => True) (okp := fun _ => False) rfl (fun _ h => h.elim) trivial (by omega) (by omega) HB4.out HB4.out.size ?_; intro v5 w5 ho5 hb5 hg5 _; have HO5 := Aside0.mk ho5; have HB5 := Aside0.mk hb5; have HE5 := Aside0.mk (blk_grown HE4.out hg5 (by simp)); have HD5 := Aside0.mk (blk_grown HD4.out hg5 (by simp)); obtain ⟨A5, c5, rfl⟩ := Kd.R_slice ho5; simp only [List.length_replicate, Int.toNat_natCast] at *; clear ho5 hb5 hg5 d0 d1; have HT6 := Aside0.mk (blk_new w5 (.cells #[.slice A5 l0.length c5, .slice none 0 0] 25)); have HD6 := Aside0.mk (blk_alloc HD5.out (.cells #[.slice A5 l0.length c5, .slice none 0 0] 25)); have HE6 := Aside0.mk (blk_alloc HE5.out (.cells #[.slice A5 l0.length c5, .slice none 0 0] 25)); have HB6 := Aside0.mk (HB5.out.alloc HB5.out.size (.cells #[.slice A5 l0.length c5, .slice none 0 0] 25)); have HO6 := Aside0.mk (Kd.R_below HO5.out ((Below.refl w5.heap.size w5).alloc (Nat.le_refl _) (.cells #[.slice A5 l0.length c5, .slice none 0 0] 25))); have d0 := blk_cell HD6.out 0; have d1 := blk_cell HD6.out 1) | ((with_reducible refine gate_builtin (b := .copy) (xs := #[.tmp 36, .tmp 38]) rfl ?_); refine copy_strs rfl (.tmp 36) (.tmp 38) rfl (.slice A5 l0.length c5) rfl A0 l0.length c0 rfl (List.replicate l0.length ⟨#[]⟩) l0 HO6.out (Kd.C_below HR0.out HB6.out) (by simp) (by omega) ?_; intro w7 ho7 hg7; have HO7 := Aside0.mk ho7; have HB7 := Aside0.mk (HB6.out.grown hg7 HB6.out.size (fun k e => (Kd.R_bound HO6.out).1 k e |>.2.1)); have HE7 := Aside0.mk (blk_grown HE6.out hg7 (Kd.R_ne HO6.out HE6.out (by decide))); have HD7 := Aside0.mk (blk_grown HD6.out hg7 (Kd.R_ne HO6.out HD6.out (by decide))); have HT7 := Aside0.mk (blk_grown HT6.out hg7 (Kd.R_ne HO6.out HT6.out (by decide))); clear ho7 hg7 d0 d1; have d0 := blk_cell HD7.out 0; have d1 := blk_cell HD7.out 1) | (go_at_call 43; refine (slices_Clone_WN.calls A1 c1 l1 l1 _ (Kd.C_below HR1.out HB7.out) hc1 HCL.out).mono ?_; rintro e w8 ⟨v8, rfl, ho8, hb8⟩; have HO8 := Aside0.mk (Kd.R_below HO7.out hb8); have HE8 := Aside0.mk (blk_below HE7.out hb8); have HT8 := Aside0.mk (blk_below HT7.out hb8); have HP8 := Aside0.mk (Kd.R_lower ho8 HB7.out.size); have HB8 := Aside0.mk (HB7.out.trans (hb8.mono HB7.out.size)); obtain ⟨A8, c8, rfl⟩ := Kd.R_slice ho8; clear ho8 hb8 d0 d1) | ((with_reducible refine gate_builtin (b := .append) (xs := #[.tmp 42, .tmp 46]) rfl ?_); at_builtin; refine Kd.R_append k40 (w0 := w) w.heap.size rfl (.tmp 42) (.tmp 46) 23 40 (.agg #[(.int .i64 0), (.string ⟨#[]⟩)]) 24 rfl Try.underlying23 slices_Clone_WN_info rfl (by decide) (by omega) (.slice A8 l1.length c8) l1 ⟨at_, s⟩ [.int .i64 at_, .string s] (fun _ => True) (fun _ => False) rfl rfl (k40_mkM _ _ _ _) (fun _ hk => hk.elim) (fun _ _ => trivial) HP8.out HB8.out HB8.out.size (by omega) ?_; intro v9 w9 ho9 hb9 hg9 _; have HP9 := Aside0.mk ho9; have HB9 := Aside0.mk hb9; have HE9 := Aside0.mk (blk_grown HE8.out hg9 (Kd.R_ne HP8.out HE8.out (by decide))); have HT9 := Aside0.mk (blk_grown HT8.out hg9 (Kd.R_ne HP8.out HT8.out (by decide))); obtain ⟨A9, c9, rfl⟩ := Kd.R_slice ho9; have HG9 := Aside0.mk hg9; clear ho9 hb9 hg9; have t0 := blk_cell HT9.out 0; have t1 := blk_cell HT9.out 1; have tf := blk_frozen HT9.out 1; have hsl : (l1 ++ [(⟨at_, s⟩ : S40)]).length = l1.length + 1 := (by simp); rw [hsl] at HP9; clear hsl; have hlt5 := blk_lt HE5.out; have HE10 := Aside0.mk (blk_far HE9.out (p := ⟨w5.heap.size, 1, none⟩) (by show w.heap.size + 1 ≠ w5.heap.size; omega) (.slice A9 (l1.length + 1) c9)); have HT10 := Aside0.mk (blk_set HT9.out 1 (.slice A9 (l1.length + 1) c9)); have e0 := blk_cell HE10.out 0; have e1 := blk_cell HE10.out 1; have f0 := blk_frozen HE10.out 0; have f1 := blk_frozen HE10.out 1))
  obtain ⟨go, cells, hA5, hgo⟩ := row_block (Kd.own_of_R HO8.out) (by omega)
  have HO9 : Kd.R Kd.string 9 w9 w.heap.size (fun _ => True) (.slice A5 l0.length c5) l0 := Kd.R_of_own ((Kd.own_of_R HO8.out).kept HG9.out (.inr (by rw [hA5]; exact Kd.R_ne HP8.out hgo (by decide)))) (fun _ _ => trivial)
  have HE11 := blk_set HE10.out 0 (.slice A5 l0.length c5)
  have HE12 := blk_set HE11 1 (.slice A9 (l1.length + 1) c9)
  have qs : ∀ q, q ∈ 9 :: Kd.string.E → q ≠ 25 := by intro q hq; simp [Kd.string, Kd.scalar] at hq; subst hq; decide
  have qw : ∀ q, q ∈ 40 :: k40.E → q ≠ 25 := by intro q hq; simp [k40, Kd.iso, Kd.pair, Kd.int, Kd.string, Kd.scalar] at hq; subst hq; decide
  have g0 := blk_cell HE12 0
  have g1 := blk_cell HE12 1
  have hs5 : w.heap.size ≤ w5.heap.size := HB5.out.size
  refine bodyPost_ret (v := .tuple #[.agg #[.slice A5 l0.length c5, .slice A9 (l1.length + 1) c9], .int .i64 0]) ?_ rfl ⟨_, _, rfl, Kd.R_set (Kd.R_set (Kd.R_set HO9 HT9.out qs 1 _) HE10.out qs 0 _) HE11 qs 1 _, Kd.R_set (Kd.R_set (Kd.R_set HP9.out HT9.out qw 1 _) HE10.out qw 0 _) HE11 qw 1 _, ((HB9.out.setCell (p := ⟨w5.heap.size, 1, none⟩) hs5 _).setCell (p := ⟨w.heap.size + 1, 0, none⟩) (by simp) _).setCell (p := ⟨w.heap.size + 1, 1, none⟩) (by simp) _⟩
  simp [results, Try.results13, go_sem, g0, g1]

set_option maxHeartbeats 4000000 in
set_option maxRecDepth 100000 in
theorem disk_Write_open (er : Int) (hop : disk_open.f l0 l1 at_ = some er) (hne : er ≠ 0) :
    Calls Try.prog 13 #[.agg #[.slice A0 l0.length c0, .slice A1 l1.length c1], .int .i64 at_, .string s] w fun e w' => e = .returned (.tuple #[.agg #[.slice none 0 0, .slice none 0 0], .int .i64 er]) ∧ Below w.heap.size w w' := by
  have HR0 := Aside0.mk hr0
  obtain ⟨D, hD⟩ : ∃ D, D = Obj.cells #[.slice A0 l0.length c0, .slice A1 l1.length c1] 25 := ⟨_, rfl⟩
  have hB2 : Below w.heap.size w ((w.alloc D).alloc (.cells #[.slice none 0 0, .slice none 0 0] 25)) := ((Below.refl _ _).alloc (Nat.le_refl _) _).alloc (by simp) _
  have HB2 := Aside0.mk hB2
  have HC := Aside0.mk (disk_open.calls A0 c0 l0 A1 c1 l1 at_ er _ (Kd.C_below hr0 hB2) hc0 (Kd.C_below hr1 hB2) hc1 hop)
  have hE := blk_new (w.alloc D) (.cells #[.slice none 0 0, .slice none 0 0] 25)
  rw [World.size_alloc] at hE
  have HE := Aside0.mk hE
  have HD := Aside0.mk (blk_alloc (blk_new w D) (.cells #[.slice none 0 0, .slice none 0 0] 25))
  subst hD
  clear hB2 hE hr0 hr1 hop
  have e2 : (er != 0) = true := by simpa using hne
  clear hne
  go_enter Try.func13, Try.ntmps13
  go_wp2_with (go_at_call 41; refine HC.out.mono ?_; rintro e w3 ⟨rfl, hb3⟩; have HE3 := Aside0.mk (blk_below HE.out hb3); have HD3 := Aside0.mk (blk_below HD.out hb3); have HB3 := Aside0.mk (HB2.out.trans (hb3.mono HB2.out.size)); clear hb3; have e0 := blk_cell HE3.out 0; have e1 := blk_cell HE3.out 1; have f0 := blk_frozen HE3.out 0; have f1 := blk_frozen HE3.out 1)
  have g0 := blk_cell (blk_set (blk_set HE3.out 0 (.slice none 0 0)) 1 (.slice none 0 0)) 0
  have g1 := blk_cell (blk_set (blk_set HE3.out 0 (.slice none 0 0)) 1 (.slice none 0 0)) 1
  refine bodyPost_ret (v := .tuple #[.agg #[.slice none 0 0, .slice none 0 0], .int .i64 er]) ?_ rfl ⟨rfl, (HB3.out.setCell (p := ⟨w.heap.size + 1, 0, none⟩) (by simp) _).setCell (p := ⟨w.heap.size + 1, 1, none⟩) (by simp) _⟩
  simp [results, Try.results13, go_sem, g0, g1]

set_option maxHeartbeats 4000000 in
set_option maxRecDepth 100000 in
theorem disk_Write_long (hop : disk_open.f l0 l1 at_ = some 0) (hs : longS s = true) :
    Calls Try.prog 13 #[.agg #[.slice A0 l0.length c0, .slice A1 l1.length c1], .int .i64 at_, .string s] w fun e w' => e = .returned (.tuple #[.agg #[.slice none 0 0, .slice none 0 0], .int .i64 1]) ∧ Below w.heap.size w w' := by
  have HR0 := Aside0.mk hr0
  obtain ⟨D, hD⟩ : ∃ D, D = Obj.cells #[.slice A0 l0.length c0, .slice A1 l1.length c1] 25 := ⟨_, rfl⟩
  have hB2 : Below w.heap.size w ((w.alloc D).alloc (.cells #[.slice none 0 0, .slice none 0 0] 25)) := ((Below.refl _ _).alloc (Nat.le_refl _) _).alloc (by simp) _
  have HB2 := Aside0.mk hB2
  have HC := Aside0.mk (disk_open.calls A0 c0 l0 A1 c1 l1 at_ 0 _ (Kd.C_below hr0 hB2) hc0 (Kd.C_below hr1 hB2) hc1 hop)
  have hE := blk_new (w.alloc D) (.cells #[.slice none 0 0, .slice none 0 0] 25)
  rw [World.size_alloc] at hE
  have HE := Aside0.mk hE
  have HD := Aside0.mk (blk_alloc (blk_new w D) (.cells #[.slice none 0 0, .slice none 0 0] 25))
  subst hD
  clear hB2 hE hr0 hr1 hop
  have HS := Aside0.mk hs
  clear hs
  go_enter Try.func13, Try.ntmps13
  go_wp2_with (first | (go_at_call 41; refine HC.out.mono ?_; rintro e w3 ⟨rfl, hb3⟩; have HE3 := Aside0.mk (blk_below HE.out hb3); have HD3 := Aside0.mk (blk_below HD.out hb3); have HB3 := Aside0.mk (HB2.out.trans (hb3.mono HB2.out.size)); clear hb3) | (go_at_call 42; refine (disk_short_new _ _).mono ?_; rintro e w4 ⟨rfl, hb4⟩; have HE4 := Aside0.mk (blk_below HE3.out hb4); have HD4 := Aside0.mk (blk_below HD3.out hb4); have HB4 := Aside0.mk (HB3.out.trans (hb4.mono HB3.out.size)); clear hb4; have d0 := blk_cell HD4.out 0; have d1 := blk_cell HD4.out 1; rw [HS.out]; have e0 := blk_cell HE4.out 0; have e1 := blk_cell HE4.out 1; have f0 := blk_frozen HE4.out 0; have f1 := blk_frozen HE4.out 1))
  have g0 := blk_cell (blk_set (blk_set HE4.out 0 (.slice none 0 0)) 1 (.slice none 0 0)) 0
  have g1 := blk_cell (blk_set (blk_set HE4.out 0 (.slice none 0 0)) 1 (.slice none 0 0)) 1
  refine bodyPost_ret (v := .tuple #[.agg #[.slice none 0 0, .slice none 0 0], .int .i64 1]) ?_ rfl ⟨rfl, (HB4.out.setCell (p := ⟨w.heap.size + 1, 0, none⟩) (by simp) _).setCell (p := ⟨w.heap.size + 1, 1, none⟩) (by simp) _⟩
  simp [results, Try.results13, go_sem, g0, g1]

set_option maxHeartbeats 4000000 in
set_option maxRecDepth 100000 in
theorem disk_Write_full (hop : disk_open.f l0 l1 at_ = some 0) (hs : longS s = false) (hl : l1.length = 100) :
    Calls Try.prog 13 #[.agg #[.slice A0 l0.length c0, .slice A1 l1.length c1], .int .i64 at_, .string s] w fun e w' => e = .returned (.tuple #[.agg #[.slice none 0 0, .slice none 0 0], .int .i64 41]) ∧ Below w.heap.size w w' := by
  have HR0 := Aside0.mk hr0
  obtain ⟨D, hD⟩ : ∃ D, D = Obj.cells #[.slice A0 l0.length c0, .slice A1 l1.length c1] 25 := ⟨_, rfl⟩
  have hB2 : Below w.heap.size w ((w.alloc D).alloc (.cells #[.slice none 0 0, .slice none 0 0] 25)) := ((Below.refl _ _).alloc (Nat.le_refl _) _).alloc (by simp) _
  have HB2 := Aside0.mk hB2
  have HC := Aside0.mk (disk_open.calls A0 c0 l0 A1 c1 l1 at_ 0 _ (Kd.C_below hr0 hB2) hc0 (Kd.C_below hr1 hB2) hc1 hop)
  have hE := blk_new (w.alloc D) (.cells #[.slice none 0 0, .slice none 0 0] 25)
  rw [World.size_alloc] at hE
  have HE := Aside0.mk hE
  have HD := Aside0.mk (blk_alloc (blk_new w D) (.cells #[.slice none 0 0, .slice none 0 0] 25))
  subst hD
  clear hB2 hE hr0 hr1 hop
  have HS := Aside0.mk hs
  have e100 : ((l1.length : Int) == 100) = true := by simp; omega
  have e100n : (l1.length == 100) = true := by simpa using hl
  clear hs hl
  go_enter Try.func13, Try.ntmps13
  go_wp2_with (first | (go_at_call 41; refine HC.out.mono ?_; rintro e w3 ⟨rfl, hb3⟩; have HE3 := Aside0.mk (blk_below HE.out hb3); have HD3 := Aside0.mk (blk_below HD.out hb3); have HB3 := Aside0.mk (HB2.out.trans (hb3.mono HB2.out.size)); clear hb3) | (go_at_call 42; refine (disk_short_new _ _).mono ?_; rintro e w4 ⟨rfl, hb4⟩; have HE4 := Aside0.mk (blk_below HE3.out hb4); have HD4 := Aside0.mk (blk_below HD3.out hb4); have HB4 := Aside0.mk (HB3.out.trans (hb4.mono HB3.out.size)); clear hb4; have d0 := blk_cell HD4.out 0; have d1 := blk_cell HD4.out 1; rw [HS.out]; have e0 := blk_cell HE4.out 0; have e1 := blk_cell HE4.out 1; have f0 := blk_frozen HE4.out 0; have f1 := blk_frozen HE4.out 1))
  have g0 := blk_cell (blk_set (blk_set HE4.out 0 (.slice none 0 0)) 1 (.slice none 0 0)) 0
  have g1 := blk_cell (blk_set (blk_set HE4.out 0 (.slice none 0 0)) 1 (.slice none 0 0)) 1
  refine bodyPost_ret (v := .tuple #[.agg #[.slice none 0 0, .slice none 0 0], .int .i64 41]) ?_ rfl ⟨rfl, (HB4.out.setCell (p := ⟨w.heap.size + 1, 0, none⟩) (by simp) _).setCell (p := ⟨w.heap.size + 1, 1, none⟩) (by simp) _⟩
  simp [results, Try.results13, go_sem, g0, g1]
end

theorem disk_Write.calls (A0_0 : Option Addr) (c0_0 : Nat) (l0_0 : List ByteArray) (A0_1 : Option Addr) (c0_1 : Nat) (l0_1 : List S40) (a1 : Int) (a2 : ByteArray) (r1 : List ByteArray) (r2 : List S40) (r3 : Int) (w : World) (hr0_0 : Kd.C Kd.string w A0_0 l0_0.length l0_0) (hc0_0 : l0_0.length ≤ c0_0) (hr0_1 : Kd.C k40 w A0_1 l0_1.length l0_1) (hc0_1 : l0_1.length ≤ c0_1) (h : disk_Write.f l0_0 l0_1 a1 a2 = some (r1, r2, r3)) :
    Calls Try.prog 13 #[.agg #[.slice A0_0 l0_0.length c0_0, .slice A0_1 l0_1.length c0_1], .int .i64 a1, .string a2] w fun e w' => ∃ v0_ v1_ : Value, e = .returned (.tuple #[.agg #[v0_, v1_], .int .i64 r3]) ∧ Kd.R Kd.string 9 w' w.heap.size (fun _ => True) v0_ r1 ∧ Kd.R k40 40 w' w.heap.size (fun _ => True) v1_ r2 ∧ Below w.heap.size w w' := by
  have hv : writeV l0_0 l0_1 a1 a2 = (r1, r2, r3) := by simpa [disk_Write.f] using h
  have hop := open_f l0_0 l0_1 a1
  unfold writeV at hv
  by_cases h1 : checkB l0_0 l0_1 = false
  · rw [if_pos h1] at hv hop
    simp only [Prod.mk.injEq] at hv
    obtain ⟨rfl, rfl, rfl⟩ := hv
    refine (disk_Write_open A0_0 c0_0 l0_0 A0_1 c0_1 l0_1 a1 a2 w hr0_0 hc0_0 hr0_1 hc0_1 1 hop (by decide)).mono ?_
    rintro e w' ⟨rfl, hb⟩
    exact ⟨_, _, rfl, Kd.R_nil _ _ _ _ _, Kd.R_nil _ _ _ _ _, hb⟩
  · rw [if_neg h1] at hv hop
    by_cases h2 : a1 < 0 ∨ a1 ≥ (l0_0.length : Int)
    · rw [if_pos h2] at hv hop
      simp only [Prod.mk.injEq] at hv
      obtain ⟨rfl, rfl, rfl⟩ := hv
      refine (disk_Write_open A0_0 c0_0 l0_0 A0_1 c0_1 l0_1 a1 a2 w hr0_0 hc0_0 hr0_1 hc0_1 40 hop (by decide)).mono ?_
      rintro e w' ⟨rfl, hb⟩
      exact ⟨_, _, rfl, Kd.R_nil _ _ _ _ _, Kd.R_nil _ _ _ _ _, hb⟩
    · rw [if_neg h2] at hv hop
      by_cases h3 : longS a2 = true
      · rw [if_pos h3] at hv
        simp only [Prod.mk.injEq] at hv
        obtain ⟨rfl, rfl, rfl⟩ := hv
        refine (disk_Write_long A0_0 c0_0 l0_0 A0_1 c0_1 l0_1 a1 a2 w hr0_0 hc0_0 hr0_1 hc0_1 hop h3).mono ?_
        rintro e w' ⟨rfl, hb⟩
        exact ⟨_, _, rfl, Kd.R_nil _ _ _ _ _, Kd.R_nil _ _ _ _ _, hb⟩
      · rw [if_neg h3] at hv
        have h3' : longS a2 = false := by simpa using h3
        by_cases h4 : l0_1.length = 100
        · rw [if_pos h4] at hv
          simp only [Prod.mk.injEq] at hv
          obtain ⟨rfl, rfl, rfl⟩ := hv
          refine (disk_Write_full A0_0 c0_0 l0_0 A0_1 c0_1 l0_1 a1 a2 w hr0_0 hc0_0 hr0_1 hc0_1 hop h3' h4).mono ?_
          rintro e w' ⟨rfl, hb⟩
          exact ⟨_, _, rfl, Kd.R_nil _ _ _ _ _, Kd.R_nil _ _ _ _ _, hb⟩
        · rw [if_neg h4] at hv
          simp only [Prod.mk.injEq] at hv
          obtain ⟨rfl, rfl, rfl⟩ := hv
          exact disk_Write_yes A0_0 c0_0 l0_0 A0_1 c0_1 l0_1 a1 a2 w hr0_0 hc0_0 hr0_1 hc0_1 (by simpa using h1) h2 h3' h4
end Go.Proofs.Ytoibofhmlokglaa.P
/-
  disk.Crash, by hand. For every disk and choice.
-/
namespace Go.Proofs.Ytoibofhmlokglaa.P
open Go.RowKit Go.Shelf Go.Proofs.YtoibofhmlokglaaW.PrintWords Go.Proofs.YtoibofhmlokglaaW.PrintLast Go.Proofs.YtoibofhmlokglaaW.PrintMore Go.Proofs.Plain

/-- Whether a choice keeps number i. -/
def keepB (l : List Bool) (i : Int) : Bool := decide (i < (l.length : Int)) && rdOf false l i

set_option maxHeartbeats 2000000 in
theorem disk_Crash1_calls (i : Nat) (B : Nat) (A : Option Addr) (c : Nat) (l : List Bool) (w : World) (hb : w.cell? ⟨B, 0, none⟩ = some (.slice A l.length c)) (hr : Kd.C Kd.bool w A l.length l) :
    Calls Try.prog 47 #[.int .i64 (i : Int), .pointer (some ⟨B, 0, none⟩)] w fun e w' => e = .returned (.bool (keepB l i)) ∧ w' = w := by
  by_cases h : i < l.length
  · obtain ⟨ad, rfl, hx⟩ := Kd.at_bool hr (i : Int) (by omega) (by omega)
    rw [Int.toNat_natCast] at hx
    have hk := Aside0.mk (show keepB l i = rdOf false l (i : Int) by unfold keepB; rw [decide_eq_true (by omega)]; rfl)
    obtain ⟨b, hbb⟩ : ∃ b, b = rdOf false l (i : Int) := ⟨_, rfl⟩
    rw [← hbb] at hx hk
    have hd : decide ((i : Int) < (l.length : Int)) = true := decide_eq_true (by omega)
    have hd2 : decide (i < l.length) = true := decide_eq_true h
    have hm := hr.2.1
    clear hbb hr
    go_enter Try.func47, Try.ntmps47
    go_wp2
    go_ret
    exact ⟨by rw [hk.out]; cases b <;> rfl, rfl⟩
  · have hk := Aside0.mk (show keepB l i = false by unfold keepB; rw [decide_eq_false (by omega)]; rfl)
    have hd : decide ((i : Int) < (l.length : Int)) = false := decide_eq_false (by omega)
    have hd2 : decide (i < l.length) = false := decide_eq_false h
    clear hr h
    go_enter Try.func47, Try.ntmps47
    go_wp2
    go_ret
    exact ⟨by rw [hk.out]; rfl, rfl⟩
theorem crash_pred (B : Nat) (A : Option Addr) (c : Nat) (l : List Bool) (w : World) (hb : w.cell? ⟨B, 0, none⟩ = some (.slice A l.length c)) (hB : B < w.heap.size) (hr : Kd.C Kd.bool w A l.length l) : PredI 47 #[.pointer (some ⟨B, 0, none⟩)] (keepB l) w :=
  ⟨enters_of Try.func47 (by kernel_rfl) rfl, fun i w1 h1 => (disk_Crash1_calls i B A c l w1 ((h1.cell (p := ⟨B, 0, none⟩) hB).trans hb) (Kd.C_below hr h1)).mono (by rintro e w2 ⟨rfl, rfl⟩; exact ⟨rfl, Below.refl _ _⟩)⟩

/-- What disk.Crash answers. -/
def disk_Crash.f (l0_0 : List ByteArray) (l0_1 : List S40) (l1 : List Bool) : Option (List ByteArray × List S40 × Int) := some (doneV (keepB l1) l0_0 l0_1)

set_option maxHeartbeats 4000000 in
set_option maxRecDepth 100000 in
theorem disk_Crash.calls (A0_0 : Option Addr) (c0_0 : Nat) (l0_0 : List ByteArray) (A0_1 : Option Addr) (c0_1 : Nat) (l0_1 : List S40) (A1 : Option Addr) (c1 : Nat) (l1 : List Bool) (r1 : List ByteArray) (r2 : List S40) (r3 : Int) (w : World) (hr0_0 : Kd.C Kd.string w A0_0 l0_0.length l0_0) (hc0_0 : l0_0.length ≤ c0_0) (hr0_1 : Kd.C k40 w A0_1 l0_1.length l0_1) (hc0_1 : l0_1.length ≤ c0_1) (hr1 : Kd.C Kd.bool w A1 l1.length l1) (hc1 : l1.length ≤ c1) (h : disk_Crash.f l0_0 l0_1 l1 = some (r1, r2, r3)) :
    Calls Try.prog 19 #[.agg #[.slice A0_0 l0_0.length c0_0, .slice A0_1 l0_1.length c0_1], .slice A1 l1.length c1] w fun e w' => ∃ v0_ v1_ : Value, e = .returned (.tuple #[.agg #[v0_, v1_], .int .i64 r3]) ∧ Kd.R Kd.string 9 w' w.heap.size (fun _ => True) v0_ r1 ∧ Kd.R k40 40 w' w.heap.size (fun _ => True) v1_ r2 ∧ Below w.heap.size w w' := by
  have hv : doneV (keepB l1) l0_0 l0_1 = (r1, r2, r3) := by simpa [disk_Crash.f] using h
  have hw := doneV_wait (keepB l1) l0_0 l0_1
  rw [hv] at hw
  simp only at hw
  subst hw
  obtain ⟨D, hD⟩ : ∃ D, D = Obj.cells #[.slice A0_0 l0_0.length c0_0, .slice A0_1 l0_1.length c0_1] 25 := ⟨_, rfl⟩
  have hB2 : Below w.heap.size w (((w.alloc D).alloc (.cells #[.slice A1 l1.length c1] 26)).alloc (.cells #[.slice none 0 0, .slice none 0 0] 25)) := (((Below.refl _ _).alloc (Nat.le_refl _) _).alloc (by simp) _).alloc (by simp; omega) _
  have HB2 := Aside0.mk hB2
  have hbx0 := blk_alloc (blk_new (w.alloc D) (.cells #[.slice A1 l1.length c1] 26)) (.cells #[.slice none 0 0, .slice none 0 0] 25)
  rw [World.size_alloc] at hbx0
  have hC := disk_done_any 47 #[.pointer (some ⟨w.heap.size + 1, 0, none⟩)] (keepB l1) A0_0 c0_0 l0_0 A0_1 c0_1 l0_1 _ (Kd.C_below hr0_0 hB2) hc0_0 (Kd.C_below hr0_1 hB2) hc0_1 (crash_pred (w.heap.size + 1) A1 c1 l1 _ (blk_cell hbx0 0) (by simp) (Kd.C_below hr1 hB2))
  rw [hv] at hC
  have HC := Aside0.mk hC
  have hE := blk_new ((w.alloc D).alloc (.cells #[.slice A1 l1.length c1] 26)) (.cells #[.slice none 0 0, .slice none 0 0] 25)
  rw [World.size_alloc, World.size_alloc] at hE
  have HE := Aside0.mk hE
  subst hD
  clear hB2 hE hr0_0 hr0_1 hC hv h hr1 hbx0
  go_enter Try.func19, Try.ntmps19
  go_wp2_with (go_at_call 45; refine HC.out.mono ?_; rintro e w3 ⟨v0, rfl, hR3, hb3⟩; have HR3 := Aside0.mk (Kd.R_lower hR3 HB2.out.size); have HE3 := Aside0.mk (blk_below HE.out hb3); have HB3 := Aside0.mk (HB2.out.trans (hb3.mono HB2.out.size)); have e0 := blk_cell HE3.out 0; have e1 := blk_cell HE3.out 1; have f0 := blk_frozen HE3.out 0; have f1 := blk_frozen HE3.out 1; obtain ⟨A, c, rfl⟩ := Kd.R_slice hR3; clear hb3 hR3)
  have g0 := blk_cell (blk_set (blk_set HE3.out 0 (.slice A r1.length c)) 1 (.slice none 0 0)) 0
  have g1 := blk_cell (blk_set (blk_set HE3.out 0 (.slice A r1.length c)) 1 (.slice none 0 0)) 1
  refine bodyPost_ret (v := .tuple #[.agg #[.slice A r1.length c, .slice none 0 0], .int .i64 r3]) ?_ rfl ⟨_, _, rfl, Kd.R_set (Kd.R_set HR3.out HE3.out (by intro q hq; simp [Kd.string, Kd.scalar] at hq; subst hq; decide) 0 _) (blk_set HE3.out 0 _) (by intro q hq; simp [Kd.string, Kd.scalar] at hq; subst hq; decide) 1 _, Kd.R_nil _ _ _ _ _, (HB3.out.setCell (p := ⟨w.heap.size + 1 + 1, 0, none⟩) (by simp; omega) _).setCell (p := ⟨w.heap.size + 1 + 1, 1, none⟩) (by simp; omega) _⟩
  simp [results, Try.results19, go_sem, g0, g1]
end Go.Proofs.Ytoibofhmlokglaa.P
-- Written by a program of this session (xprint.py) over the kit's print.py.
namespace Go.Proofs.Ytoibofhmlokglaa.P
open Go.RowKit Go.Proofs.YtoibofhmlokglaaW.PrintWords Go.Proofs.YtoibofhmlokglaaW.PrintLast Go.Proofs.YtoibofhmlokglaaW.PrintMore
attribute [local go_sem] max2_int min2_int max_two min_two max_three min_three max_four min_four   -- for this text's walks alone
set_option linter.unusedVariables false
set_option linter.unusedSimpArgs false

/-! ### disk_Read: function 15 -/
end Go.Proofs.Ytoibofhmlokglaa.P
/-
  What disk.Read and disk.Write tell, plainly.
-/
namespace Go.Proofs.Ytoibofhmlokglaa.P
open Go.RowKit Go.Proofs.YtoibofhmlokglaaW.PrintWords Go.Proofs.YtoibofhmlokglaaW.PrintLast Go.Proofs.Plain

theorem wrap_at {x : Int} (h0 : -9223372036854775808 ≤ x) (h1 : x ≤ 9223372036854775807) : wrap64 x = x := by unfold wrap64; omega

/-- What disk.Read answers. -/
def readV (l0 : List ByteArray) (l1 : List S40) (at_ : Int) : ByteArray × Int :=
  if checkB l0 l1 = false then (⟨#[]⟩, 1) else if at_ < 0 ∨ at_ ≥ (l0.length : Int) then (⟨#[]⟩, 40) else (rdOf ByteArray.empty (applyW (fun _ => true) 0 l1 l0) at_, 0)

theorem check_write {l0 : List ByteArray} {l1 : List S40} {at_ : Int} {s : ByteArray} (h : checkB l0 l1 = true) (ha : ¬ (at_ < 0 ∨ at_ ≥ (l0.length : Int))) (hs : longS s = false) (hl : ¬ l1.length = 100) :
    checkB l0 (l1 ++ [⟨at_, s⟩]) = true := by
  unfold checkB at h ⊢
  simp only [Bool.and_eq_true, decide_eq_true_eq, Bool.not_eq_true'] at h ⊢
  obtain ⟨⟨⟨⟨h1, h2⟩, h3⟩, h4⟩, h5⟩ := h
  refine ⟨⟨⟨⟨h1, h2⟩, by simp; omega⟩, h4⟩, ?_⟩
  rw [List.any_append, h5]
  simp only [List.any_cons, List.any_nil, Bool.or_false, Bool.false_or]
  unfold oddW
  rw [hs]
  simp only [Bool.or_false, Bool.or_eq_false_iff, decide_eq_false_iff_not]
  omega

theorem rdOf_set (l : List ByteArray) (i : Int) (s : ByteArray) (k : Int) (hi : 0 ≤ i) (hil : i < (l.length : Int)) (hk : 0 ≤ k) : rdOf ByteArray.empty (l.set i.toNat s) k = if k = i then s else rdOf ByteArray.empty l k := by
  unfold rdOf
  rw [List.getD_eq_getElem?_getD, List.getD_eq_getElem?_getD, List.getElem?_set]
  by_cases h : k = i
  · subst h
    rw [if_pos rfl, if_pos rfl, if_pos (by omega)]; rfl
  · rw [if_neg h, if_neg (by omega)]
end Go.Proofs.Ytoibofhmlokglaa.P
/-
  wal.records, by hand: an iterator over a log's texts.
-/
namespace Go.Proofs.Ytoibofhmlokglaa.P
open Go.RowKit Go.Shelf Go.Proofs.CodecPlain Go.Proofs.YtoibofhmlokglaaW.PrintWords Go.Proofs.YtoibofhmlokglaaW.PrintLast Go.Proofs.YtoibofhmlokglaaW.PrintMore

attribute [local go_sem] Oper.semAt_some

/-- The block B, and the one to which a slice in it points. -/
def OwnB (B : Nat) (W : World) (k : Nat) : Prop := k = B ∨ ∃ n c, W.cell? ⟨B, 0, none⟩ = some (.slice (some ⟨k, 0, none⟩) n c)
/-- What a round keeps: every cells' block but these; and it owns no elder one that it did not own. -/
structure KeepOwn (B : Nat) (W W' : World) : Prop where
  size : W.heap.size ≤ W'.heap.size
  same : ∀ (k : Nat) (o : Obj), W.heap[k]? = some o → o.isCells = true → ¬ OwnB B W k → W'.heap[k]? = some o
  own : ∀ k, k < W.heap.size → OwnB B W' k → OwnB B W k
theorem KeepOwn.trans {B : Nat} {X Y Z : World} (h : KeepOwn B X Y) (g : KeepOwn B Y Z) : KeepOwn B X Z :=
  ⟨Nat.le_trans h.size g.size, fun k o hk ho hn => g.same k o (h.same k o hk ho hn) ho (fun q => hn (h.own k (Array.getElem?_eq_some_iff.1 hk).1 q)), fun k hk q => h.own k hk (g.own k (Nat.lt_of_lt_of_le hk h.size) q)⟩
theorem KeepOwn.putObj {B : Nat} {W : World} {l : Nat} {o : Obj} (o' : Obj) (hl : W.heap[l]? = some o) (ho : o.isCells = false) (hne : B ≠ l) : KeepOwn B W (W.putObj l o') := by
  refine ⟨by simp, fun k ob hk hc _ => ?_, fun k hk q => ?_⟩
  · have hkl : k ≠ l := by
      intro e
      subst e
      rw [hl] at hk
      cases hk
      rw [ho] at hc
      cases hc
    exact (World.putObj_heap_other hkl).trans hk
  · rcases q with q | ⟨n, c, q⟩
    · exact .inl q
    · refine .inr ⟨n, c, ?_⟩
      rw [← q]
      exact (World.cell?_of_block (World.putObj_heap_other hne)).symm
/-- What a disk's blocks say. -/
def contV (l0 : List ByteArray) (l1 : List S40) : List ByteArray := applyW (fun _ => true) 0 l1 l0
theorem grown_of_below0 {W W' : World} (h : Below W.heap.size W W') : W.grownBy W' none := ⟨h.os, h.tape, h.output, h.size, fun k hk _ => h.block k hk⟩
theorem abides_below {β : Type} {B : Nat} {J : β → World → Prop} (h : AbidesFrom B J) {s : β} {W W' : World} (hs : J s W) (hb : Below W.heap.size W W') : J s W' :=
  h s W W' none hs (grown_of_below0 hb) (fun _ e => by cases e)
/-- A log's texts, from a block on. -/
def recsV (ep : Int) : Int → List ByteArray → List ByteArray
  | _, [] => []
  | at_, s :: l => if (recW s).2.2.2 = true ∧ (recW s).1 = ep ∧ (recW s).2.1 = at_ then (recW s).2.2.1 :: recsV ep (at_ + 1) l else []
theorem own_below {B : Nat} {W W' : World} (hB : B < W.heap.size) (hb : Below W.heap.size W W') {k : Nat} (h : OwnB B W' k) : OwnB B W k := by
  rcases h with h | ⟨n, c, h⟩
  · exact .inl h
  · exact .inr ⟨n, c, (World.cell?_of_block (hb.block B hB)).symm.trans h⟩
theorem addr_two (g p j : Nat) : ((⟨g, 0, none⟩ : Addr).add p).add j = ⟨g, p + j, none⟩ := by
  unfold Addr.add
  by_cases h1 : p = 0 <;> by_cases h2 : j = 0 <;> simp [h1, h2]
/-- What the iterator asks of the world in which it is called. -/
def StW (B Be : Nat) (W : World) : Prop := B < W.heap.size ∧ ¬ OwnB B W Be ∧ ∀ k, OwnB B W k → k < W.heap.size

set_option maxHeartbeats 1000000 in
theorem wal_records_in (m : Nat) (A0 : Option Addr) (k0 c0 : Nat) (A1 : Option Addr) (k1 c1 : Nat) (fr ep : Int) (w : World) :
    CallsIn Fence.wide m Try.prog 52 #[.agg #[.slice A0 k0 c0, .slice A1 k1 c1], .int .i64 fr, .int .i64 ep] w fun e w' => e = .returned (.func (.func 62) #[] #[.pointer (some ⟨w.heap.size, 0, none⟩), .pointer (some ⟨w.heap.size + 1, 0, none⟩), .pointer (some ⟨w.heap.size + 1 + 1, 0, none⟩)]) ∧
      w' = ((w.alloc (.cells #[.slice A0 k0 c0, .slice A1 k1 c1] 25)).alloc (.cells #[.int .i64 fr] 3)).alloc (.cells #[.int .i64 ep] 3) := by
  refine callsIn_of_wp Try.func52 rfl trivial ?_ rfl
  simp only [Try.ntmps52, List.size_toArray, List.length_cons, List.length_nil, Nat.reduceAdd, Nat.reduceSub, Array.replicate_succ, Array.replicate_zero, List.push_toArray, List.append_toArray, List.nil_append, List.cons_append]
  gi_wp2
  go_ret
  exact ⟨rfl, rfl⟩

set_option maxRecDepth 100000 in
set_option maxHeartbeats 4000000 in
theorem wal_records1_in (n : Nat) (hn : 1 ≤ n) (w0 : World) (A0 : Option Addr) (c0 : Nat) (l0 : List ByteArray) (A1 : Option Addr) (c1 : Nat) (l1 : List S40) (hr0 : Kd.C Kd.string w0 A0 l0.length l0) (hc0 : l0.length ≤ c0) (hr1 : Kd.C k40 w0 A1 l1.length l1) (hc1 : l1.length ≤ c1)
    (fr ep : Int) (hck : checkB l0 l1 = true) (hf0 : 0 ≤ fr) (hf1 : fr < l0.length) (B lo Bd Bf Be : Nat) (J Jx : List ByteArray → World → Prop) (W : World) (hW : Below w0.heap.size w0 W) (hSt : StW B Be W) (hJ : AbidesFrom W.heap.size J)
    (hY : ∀ pre x W1, J pre W1 → pre.length < 200 → YieldAt Fence.wide (n - 1) Try.prog lo #[.string x] W1 fun e W' =>
      (e = .returned (.bool true) ∧ J (pre ++ [x]) W' ∧ KeepOwn B W1 W') ∨ (e = .returned (.bool false) ∧ Jx (pre ++ [x]) W'))
    (hBd : W.heap[Bd]? = some (.cells #[.slice A0 l0.length c0, .slice A1 l1.length c1] 25 (0, 0))) (hBf : Boxed W Bf 3 (.int .i64 fr)) (hBe : Boxed W Be 3 (.int .i64 ep)) (h0 : J [] W) :
    CallsIn Fence.wide n Try.prog 62 #[.func (.yield lo) #[] #[], .pointer (some ⟨Bd, 0, none⟩), .pointer (some ⟨Bf, 0, none⟩), .pointer (some ⟨Be, 0, none⟩)] W fun e W' => (∃ v, e = .returned v) ∧
      ((∃ xs, xs = recsV ep 0 ((contV l0 l1).drop fr.toNat) ∧ J xs W') ∨ (∃ pre, Jx pre W')) := by
  obtain ⟨p, rfl⟩ := Int.eq_ofNat_of_zero_le hf0
  simp only [Int.ofNat_eq_natCast, Int.toNat_natCast] at *
  have hlen : (contV l0 l1).length = l0.length := applyW_length _ _ _ _
  obtain ⟨hb1, hb2, _⟩ := check_len hck
  have hsy : disk_Sync.f l0 l1 = some (contV l0 l1, [], 0) := by unfold disk_Sync.f doneV; rw [if_pos hck]; rfl
  obtain ⟨L, hL⟩ : ∃ L, L = contV l0 l1 := ⟨_, rfl⟩
  rw [← hL] at hlen hsy ⊢
  have HSY := Aside0.mk (disk_Sync.calls A0 c0 l0 A1 c1 l1 L [] 0 W (Kd.C_below hr0 hW) hc0 (Kd.C_below hr1 hW) hc1 hsy)
  have d0 := blk_cell hBd 0
  have d1 := blk_cell hBd 1
  simp only [List.getElem?_toArray, List.getElem?_cons_zero, List.getElem?_cons_succ] at d0 d1
  have HY := Aside0.mk hY
  have HJ := Aside0.mk hJ
  have HST := Aside0.mk hSt
  have HBF := Aside0.mk hBf
  have HBE := Aside0.mk hBe
  obtain ⟨iS, hiS, _, hz1, _⟩ := info_parts (show (Try.prog.info? 9).map (fun i => (i.zero, i.size, i.bytes)) = some (some (.string ⟨#[]⟩), 1, 16) by kernel_rfl)
  clear hY hJ hSt hBf hBe hsy hr0 hr1 hW hBd hL hck
  refine callsIn_of_wp Try.func62 rfl trivial ?_ rfl
  simp only [Try.ntmps62, List.size_toArray, List.length_cons, List.length_nil, Nat.reduceAdd, Nat.reduceSub, Array.replicate_succ, Array.replicate_zero, List.push_toArray, List.append_toArray, List.nil_append, List.cons_append]
  gi_wp2
  refine ⟨trivial, (callsIn_wide.2 HSY.out).mono ?_⟩
  rintro e w1 ⟨v0, v1, rfl, hR0, hR1, hb⟩
  obtain ⟨g, c2, rfl, hg1, hg2, cells, hG⟩ := Kd.R_form hR0 (by omega)
  obtain ⟨A3, c3, rfl⟩ : ∃ A_ c_, v1 = .slice A_ 0 c_ := (by obtain ⟨A_, c_, h_⟩ := Kd.R_slice hR1; exact ⟨A_, c_, h_⟩)
  have hc2 := (Kd.R_reads' hR0).2.1
  have hcell : ∀ i : Nat, i < L.length → cells[i]? = some (.string (rdOf ByteArray.empty L (i : Int))) := by
    intro i hi
    have := (Kd.R_cell ByteArray.empty hR0 (i : Int) (by omega) (by omega)).1
    rw [Int.toNat_natCast, blk_cell hG i] at this
    exact this
  have HB1 := Aside0.mk hb
  have cf := ((HBF.out.kept (grown_of_below0 hb) (by simp)).alloc (.cells #[.slice (some ⟨g, 0, none⟩) L.length c2, .slice A3 0 c3] 25)).cell
  have HBE1 := Aside0.mk (HBE.out.kept (grown_of_below0 hb) (by simp))
  have hJ1 : J [] (w1.alloc (.cells #[.slice (some ⟨g, 0, none⟩) L.length c2, .slice A3 0 c3] 25)) := abides_below HJ.out (abides_below HJ.out h0 hb) ((Below.refl _ w1).alloc (Nat.le_refl _) _)
  obtain ⟨ad, had⟩ : ∃ ad, ad = (⟨g, 0, none⟩ : Addr).add p := ⟨_, rfl⟩
  have hcut : ∀ W : World, (Instr.slice 22 (.slice (some ⟨g, 0, none⟩) L.length c2) (some (.int .i64 (p : Int))) none none).run Try.prog W = .ok (.slice (some ad) (L.length - p) (c2 - p)) W := fun W' => by
    have h_ := cut_from (P := Try.prog) 22 9 .i64 Try.underlying22 hiS 1 hz1 (some ⟨g, 0, none⟩) L.length c2 (p : Int) (by omega) (by omega) W'
    rw [Int.toNat_natCast, if_neg (by omega), Nat.mul_one, Option.map_some, ← had] at h_
    exact h_
  have hu_ := Try.underlying22
  have HLEN := Aside0.mk hlen
  have hpl : p < L.length := by omega
  have HC2 := Aside0.mk hc2
  have HAD := Aside0.mk had
  have HCELL := Aside0.mk hcell
  have HG := Aside0.mk (blk_alloc hG (.cells #[.slice (some ⟨g, 0, none⟩) L.length c2, .slice A3 0 c3] 25))
  have HBX := Aside0.mk (hb.trans (((Below.refl _ w1).alloc (Nat.le_refl _) (.cells #[.slice (some ⟨g, 0, none⟩) L.length c2, .slice A3 0 c3] 25)).mono hb.size))
  have HON := Aside0.mk (show ¬ OwnB B (w1.alloc (.cells #[.slice (some ⟨g, 0, none⟩) L.length c2, .slice A3 0 c3] 25)) g ∧ ¬ OwnB B (w1.alloc (.cells #[.slice (some ⟨g, 0, none⟩) L.length c2, .slice A3 0 c3] 25)) Be from
    ⟨fun q => by have h_ := HST.out.2.2 g (own_below HST.out.1 HBX.out q); omega, fun q => HST.out.2.1 (own_below HST.out.1 HBX.out q)⟩)
  have HBW := Aside0.mk (show B < w1.heap.size by have h_ := HST.out.1; have h2_ := hb.size; omega)
  have HBE2 := Aside0.mk (HBE1.out.alloc (.cells #[.slice (some ⟨g, 0, none⟩) L.length c2, .slice A3 0 c3] 25))
  clear hR0 hR1 hb d0 d1 hlen hc2 had hcell hG hf0 hf1
  gi_wp2
  clear hcut cf
  gi_loopw [22] (fun i wr => ∃ j : Nat, j ≤ L.length - p ∧ i = .int .i64 j ∧ As (∃ pre, pre.length = j ∧ recsV ep 0 (L.drop p) = pre ++ recsV ep (j : Int) ((L.drop p).drop j) ∧ J pre wr) ∧ As (wr.heap[g]? = some (.cells cells 9 (0, 0))) ∧ As (Boxed wr Be 3 (.int .i64 ep)) ∧ As (¬ OwnB B wr g ∧ ¬ OwnB B wr Be ∧ B < wr.heap.size))
    (fun i _ => L.length - p - (intOf i).toNat)
  case atStart => exact ⟨0, Nat.zero_le _, rfl, ⟨[], rfl, rfl, hJ1⟩, ⟨HG.out⟩, ⟨HBE2.out⟩, ⟨HON.out.1, HON.out.2, by simp; have := HBW.out; omega⟩⟩
  case round =>
    obtain ⟨j, hj, rfl, hJp, hGr, hBer, hOr⟩ := hrel
    obtain ⟨pre, hpl2, hrc, hJ2⟩ := hJp.out
    have hlen' := HLEN.out
    by_cases hjl : j < L.length - p
    · have c1 : decide ((j : Int) < ((L.length - p : Nat) : Int)) = true := decide_eq_true (by omega)
      have c2_ : decide (j < L.length - p) = true := decide_eq_true hjl
      have p0 : (0 ≤ (j : Int)) = True := eq_true (by omega)
      have p1 : ((j : Int) < ((L.length - p : Nat) : Int)) = True := eq_true (by omega)
      obtain ⟨s, hs⟩ : ∃ s, s = rdOf ByteArray.empty L ((p + j : Nat) : Int) := ⟨_, rfl⟩
      have hx : wr.cell? (ad.add j) = some (.string s) := by
        rw [HAD.out, addr_two, blk_cell hGr.out (p + j), HCELL.out (p + j) (by omega), hs]
      have hdr : (L.drop p).drop j = s :: (L.drop p).drop (j + 1) := by
        rw [List.drop_drop, List.drop_drop, hs]
        have h_ := List.drop_eq_getElem_cons (l := L) (i := p + j) (by omega)
        rw [h_]
        congr 1
        unfold rdOf
        rw [Int.toNat_natCast, List.getD_eq_getElem?_getD, List.getElem?_eq_getElem (by omega)]
        rfl
      rw [hdr] at hrc
      obtain ⟨a, b, tx, ok, hrec⟩ : ∃ a b tx ok, recW s = (a, b, tx, ok) := ⟨_, _, _, _, rfl⟩
      have HRD := Aside0.mk (fun W => wal_read_calls s W)
      rw [hrec] at HRD
      simp only at HRD
      have heq : ∀ W, Sem.run Try.prog (binOp .neq 75 (.agg #[.int .i64 a, .int .i64 b]) (.agg #[.int .i64 ep, .int .i64 (j : Int)])) W = .ok (.bool (!(a == ep && (b == (j : Int))))) W := fun W => by
        go_simp
        by_cases e1 : a = ep <;> by_cases e2 : b = (j : Int) <;> simp [e1, e2]
      have HRC := Aside0.mk hrc
      have HREC := Aside0.mk hrec
      have HJL := Aside0.mk hjl
      have HPL := Aside0.mk hpl2
      have hL200 : L.length ≤ 200 := by omega
      clear hs hdr hrc hrec hj hpl2 hlen'
      have cE := hBer.out.cell
      gi_wp2
      refine ⟨trivial, (callsIn_wide.2 (HRD.out _)).mono ?_⟩
      rintro e w3 ⟨rfl, hb3⟩
      have cE4 := ((hBer.out.kept (grown_of_below0 hb3) (by simp)).alloc (.cells #[.int .i64 a, .int .i64 b] 75)).cell
      have hBB := Aside0.mk (hb3.trans (((Below.refl _ w3).alloc (Nat.le_refl _) (.cells #[.int .i64 a, .int .i64 b] 75)).mono hb3.size))
      have hJ4 : J pre (w3.alloc (.cells #[.int .i64 a, .int .i64 b] 75)) := abides_below HJ.out hJ2 hBB.out
      clear hb3 cE hJ2
      by_cases hgood : ok = true ∧ a = ep ∧ b = (j : Int)
      · obtain ⟨rfl, rfl, rfl⟩ := hgood
        have hg1 : (a == a && ((j : Int) == (j : Int))) = true := by simp
        obtain ⟨fn, tmps, assign, body, hy, hR⟩ := HY.out pre tx _ hJ4 (by have h_ := HPL.out; omega)
        clear hJ4
        gi_wp2
        refine hR.mono ?_
        rintro e W3 (⟨rfl, hJ3, hk3⟩ | ⟨rfl, hJx3⟩)
        · have HK3 := Aside0.mk hk3
          clear hk3
          gi_wp2
          go_roundw
          case rel =>
            have hG4 := (hBB.out.block g (Array.getElem?_eq_some_iff.1 hGr.out).1).trans hGr.out
            have hE4 := (hBB.out.block Be hBer.out.lt).trans hBer.out
            have hB4 : B < (w3.alloc (.cells #[.int .i64 a, .int .i64 (j : Int)] 75)).heap.size := Nat.lt_of_lt_of_le hOr.out.2.2 hBB.out.size
            have hn1 : ¬ OwnB B (w3.alloc (.cells #[.int .i64 a, .int .i64 (j : Int)] 75)) g := fun q => hOr.out.1 (own_below hOr.out.2.2 hBB.out q)
            have hn2 : ¬ OwnB B (w3.alloc (.cells #[.int .i64 a, .int .i64 (j : Int)] 75)) Be := fun q => hOr.out.2.1 (own_below hOr.out.2.2 hBB.out q)
            have hg4 := (Array.getElem?_eq_some_iff.1 hG4).1
            have he4 := (Array.getElem?_eq_some_iff.1 hE4).1
            refine ⟨j + 1, Nat.succ_le_of_lt HJL.out, rfl, ⟨pre ++ [tx], by rw [List.length_append, HPL.out]; rfl, ?_, hJ3⟩, ⟨HK3.out.same g _ hG4 rfl hn1⟩, ⟨HK3.out.same Be _ hE4 rfl hn2⟩, ⟨fun q => hn1 (HK3.out.own g hg4 q), fun q => hn2 (HK3.out.own Be he4 q), Nat.lt_of_lt_of_le hB4 HK3.out.size⟩⟩
            rw [HRC.out, recsV, HREC.out]
            simp only
            rw [if_pos (by simp), List.append_assoc]
            rfl
          case measure => simp [intOf]; omega
        · gi_wp2
          refine bodyPost_ret (results_none rfl _ _ _) rfl ?_
          exact ⟨⟨_, rfl⟩, .inr ⟨_, hJx3⟩⟩
      · have hend : recsV ep 0 (L.drop p) = pre := by
          rw [HRC.out, recsV, HREC.out]
          simp only
          rw [if_neg hgood, List.append_nil]
        have HEND := Aside0.mk hend
        clear hend
        cases ok
        · gi_wp2
          refine ⟨fun _ h => (by cases h), ?_⟩
          gi_wp2
          refine bodyPost_ret (results_none rfl _ _ _) rfl ?_
          exact ⟨⟨_, rfl⟩, .inl ⟨_, rfl, by rw [HEND.out]; exact hJ4⟩⟩
        · have hbad : (a == ep && (b == (j : Int))) = false := by
            rw [Bool.and_eq_false_iff, beq_eq_false_iff_ne, beq_eq_false_iff_ne]
            by_cases e1 : a = ep
            · exact .inr (fun e2 => hgood ⟨rfl, e1, e2⟩)
            · exact .inl e1
          have HG5 := Aside0.mk hgood
          clear hgood
          gi_wp2
          refine ⟨fun _ h => (by cases h), ?_⟩
          gi_wp2
          refine bodyPost_ret (results_none rfl _ _ _) rfl ?_
          exact ⟨⟨_, rfl⟩, .inl ⟨_, rfl, by rw [HEND.out]; exact hJ4⟩⟩
    · have c1 : decide ((j : Int) < ((L.length - p : Nat) : Int)) = false := decide_eq_false (by omega)
      have c2_ : decide (j < L.length - p) = false := decide_eq_false hjl
      clear hBer hOr hGr
      gi_wp2
      go_end0
      refine ⟨⟨_, rfl⟩, .inl ⟨_, rfl, ?_⟩⟩
      rw [hrc, List.drop_of_length_le (l := L.drop p) (by rw [List.length_drop]; omega)]
      simpa [recsV] using hJ2
end Go.Proofs.Ytoibofhmlokglaa.P
-- Written by a program of this session (xprint.py) over the kit's print.py.
namespace Go.Proofs.Ytoibofhmlokglaa.P
open Go.RowKit Go.Proofs.YtoibofhmlokglaaW.PrintWords Go.Proofs.YtoibofhmlokglaaW.PrintLast Go.Proofs.YtoibofhmlokglaaW.PrintMore
attribute [local go_sem] max2_int min2_int max_two min_two max_three min_three max_four min_four   -- for this text's walks alone
set_option linter.unusedVariables false
set_option linter.unusedSimpArgs false

/-! ### wal_open: function 50 -/
def wal_open.j0 : Nat → Int → Bool → List ByteArray → List (S40) → Option (Int)
  | 0, _, _, _, _ => none
  | k + 1, x1, x7, x366000, x366001 => if x7 = true then (some 1) else (if x1 < 0 then (some 40) else (if x1 ≥ (x366000.length : Int) then (some 40) else (some 0)))
def wal_open.f (k : Nat) (l0_0 : List ByteArray) (l0_1 : List (S40)) (a1 : Int) (a2 : Int) : Option (Int) := (disk_Check.f l0_0 l0_1).bind fun t366 => (if t366 = true then (if a2 < 0 then (wal_open.j0 k a1 true l0_0 l0_1) else (wal_open.j0 k a1 (decide (a2 > 1000000000)) l0_0 l0_1)) else (wal_open.j0 k a1 true l0_0 l0_1))
set_option maxHeartbeats 8000000 in
set_option maxRecDepth 100000 in
theorem wal_open.calls (k : Nat) (A0_0 : Option Addr) (c0_0 : Nat) (l0_0 : List ByteArray) (A0_1 : Option Addr) (c0_1 : Nat) (l0_1 : List (S40)) (a1 : Int) (a2 : Int) (r : Int) (w : World) (hr0_0 : Kd.C Kd.string w A0_0 l0_0.length l0_0) (hc0_0 : l0_0.length ≤ c0_0) (hr0_1 : Kd.C k40 w A0_1 l0_1.length l0_1) (hc0_1 : l0_1.length ≤ c0_1) (h : wal_open.f k l0_0 l0_1 a1 a2 = some r) :
    Calls Try.prog 50 #[.agg #[.slice A0_0 l0_0.length c0_0, .slice A0_1 l0_1.length c0_1], .int .i64 a1, .int .i64 a2] w fun e w' => e = .returned (.int .i64 r) ∧ Below w.heap.size w w' := by
  have hu25 := Try.underlying25
  have HR0_0 := Aside0.mk hr0_0
  have HC0_0 := Aside0.mk hc0_0
  clear hr0_0 hc0_0
  have HR0_1 := Aside0.mk hr0_1
  have HC0_1 := Aside0.mk hc0_1
  clear hr0_1 hc0_1
  have HB := Aside0.mk (Below.refl w.heap.size w)
  have H : ((disk_Check.f l0_0 l0_1).bind fun t366 => (if t366 = true then (if a2 < 0 then (wal_open.j0 k a1 true l0_0 l0_1) else (wal_open.j0 k a1 (decide (a2 > 1000000000)) l0_0 l0_1)) else (wal_open.j0 k a1 true l0_0 l0_1))) = some r := h
  clear h
  have HC4 := Aside0.mk H
  clear H
  go_enter Try.func50, Try.ntmps50
  go_upto_region 1 with (first | ((with_reducible refine gate_dst (N := 3) rfl ?_); (try (refine gate_guard (by rfl) ?_; dsimp only)); refine box_event ?hg (N := 3) ?hd (cs := #[.slice A0_0 l0_0.length c0_0, .slice A0_1 l0_1.length c0_1]) (t := 25) ?hr ?_; (case hd => rfl); (case hg => rfl); (case hr => first | (go_simp; done) | (go_simp; rfl)); intro gb365 hg w5 hbox hb; have n0_ := Aside0.mk (below_step (by repeat (first | (with_reducible first | exact HB.out | apply below_alloc | apply pw_below_drewN | apply below_drew1) | exact HB.out)) hb); have n1_ := Aside0.mk (hbox); have n2_ := Aside0.mk ((by rw [hg]; exact (below_size (by repeat (first | (with_reducible first | exact HB.out | apply below_alloc | apply pw_below_drewN | apply below_drew1) | exact HB.out))) : w.heap.size ≤ gb365)); have n3_ := Aside0.mk ((by rw [hg]; exact (below_size (by repeat (first | (with_reducible first | exact HB.out | apply below_alloc | apply pw_below_drewN | apply below_drew1) | exact HB.out))) : w.heap.size ≤ gb365)); clear HB; have HB := n0_; have BK365 := n1_; have GW365 := n2_; have GE365 := n3_; clear n0_ n1_ n2_ n3_; clear hb hbox hg))
  (try simp only [Act.put, List.setIfInBounds_toArray, List.set_cons_zero, List.set_cons_succ])
  go_cut [7] (fun v7 wc => ∃ (kq : Nat) (x7_3 : Bool), v7 = .bool x7_3 ∧ Aside0 (wal_open.j0 kq a1 x7_3 l0_0 l0_1 = some r) ∧ Aside0 (kq ≤ k) ∧ Aside0 (wc.heap[gb365]? = some (.cells #[(.slice A0_0 l0_0.length c0_0), (.slice A0_1 l0_1.length c0_1)] 25 (0, 0))) ∧ Aside0 (Below w.heap.size w wc))
  case first =>
    have H := HC4.out
    clear HC4
    replace H := Option.bind_eq_some_iff.mp H
    obtain ⟨t366, A60, H⟩ := H
    replace H : (if t366 = true then (if a2 < 0 then (wal_open.j0 k a1 true l0_0 l0_1) else (wal_open.j0 k a1 (decide (a2 > 1000000000)) l0_0 l0_1)) else (wal_open.j0 k a1 true l0_0 l0_1)) = some r := H
    have A6 := Aside0.mk A60
    clear A60
    by_cases c7 : t366 = true
    · subst c7
      have H1 : (if a2 < 0 then (wal_open.j0 k a1 true l0_0 l0_1) else (wal_open.j0 k a1 (decide (a2 > 1000000000)) l0_0 l0_1)) = some r := by rw [if_pos rfl] at H; exact H
      clear H
      have H := H1
      clear H1
      by_cases c8 : a2 < 0
      · rw [if_pos c8] at H
        have c8b0 : decide (a2 < 0) = true := decide_eq_true c8
        clear c8
        (first | rw [c8b0] | (simp only [i64_w, i32_w]; rw [c8b0]) | skip)
        have H' := Aside0.mk H
        clear H
        have hcz9_0 : w5.cell? ⟨gb365, 0, none⟩ = some (.slice A0_0 l0_0.length c0_0) := (blk_cell BK365.out 0).trans rfl
        have hcz9_1 : w5.cell? ⟨gb365, 1, none⟩ = some (.slice A0_1 l0_1.length c0_1) := (blk_cell BK365.out 1).trans rfl
        have hfz9_0 := blk_frozen BK365.out 0
        have hfz9_1 := blk_frozen BK365.out 1
        go_wp2_with (first | ((with_reducible refine gate_callee (f := 24) rfl ?_); refine goesL_ (some 9) rfl rfl Try.func24 (by kernel_rfl) rfl #[.agg #[.slice A0_0 l0_0.length c0_0, .slice A0_1 l0_1.length c0_1]] rfl (by (try simp only [List.map_toArray, List.map_cons, List.map_nil]); first | done | rfl | (simp only [List.length_drop, List.length_take]; rfl)) ?_; (with_reducible refine (disk_Check.calls _ _ l0_0 _ _ l0_1 true _ ?side1 ?side2 ?side3 ?side4 A6.out).mono ?_); (case side1 => repeat (first | exact (Kd.C_below HR0_0.out HB.out) | (with_reducible refine Kd.C_alloc ?_ _) | (with_reducible refine Kd.C_drewN ?_ _) | (with_reducible refine Kd.C_drew ?_))); (case side2 => exact HC0_0.out); (case side3 => repeat (first | exact (Kd.C_below HR0_1.out HB.out) | (with_reducible refine Kd.C_alloc ?_ _) | (with_reducible refine Kd.C_drewN ?_ _) | (with_reducible refine Kd.C_drew ?_))); (case side4 => exact HC0_1.out); rintro e w10 ⟨rfl, hb⟩; refine ⟨_, rfl, ?_⟩; have n0_ := Aside0.mk (blk_below (g := gb365) (o := .cells #[.slice A0_0 l0_0.length c0_0, .slice A0_1 l0_1.length c0_1] 25 (0, 0)) (by (with_reducible repeat (first | refine blk_drewN ?_ _ | refine blk_drew ?_ | refine blk_alloc ?_ _)); exact BK365.out) hb); have n1_ := Aside0.mk (below_step (by repeat (first | (with_reducible first | exact HB.out | apply below_alloc | apply pw_below_drewN | apply below_drew1 | refine below_set ?_ GE365.out) | exact HB.out)) hb); clear BK365; clear HB; have BK365 := n0_; have HB := n1_; clear n0_ n1_; (try clear hb); (try clear hb2); (try clear hk); (try clear hi)))
        go_meet
        case rel => exact ⟨_, (true), (by first | rfl | (simp; done) | (simp [*]; done)), H', ⟨by first | omega | exact Nat.le_refl _⟩, ⟨by (with_reducible repeat (first | refine blk_drewN ?_ _ | refine blk_drew ?_ | refine blk_alloc ?_ _)); exact BK365.out⟩, ⟨by repeat (first | (with_reducible first | exact HB.out | apply below_alloc | apply pw_below_drewN | apply below_drew1 | refine below_set ?_ GE365.out) | exact HB.out)⟩⟩
      · rw [if_neg c8] at H
        have c8b0 : decide (a2 < 0) = false := decide_eq_false c8
        clear c8
        (first | rw [c8b0] | (simp only [i64_w, i32_w]; rw [c8b0]) | skip)
        have H' := Aside0.mk H
        clear H
        have hcz11_0 : w5.cell? ⟨gb365, 0, none⟩ = some (.slice A0_0 l0_0.length c0_0) := (blk_cell BK365.out 0).trans rfl
        have hcz11_1 : w5.cell? ⟨gb365, 1, none⟩ = some (.slice A0_1 l0_1.length c0_1) := (blk_cell BK365.out 1).trans rfl
        have hfz11_0 := blk_frozen BK365.out 0
        have hfz11_1 := blk_frozen BK365.out 1
        go_wp2_with (first | ((with_reducible refine gate_callee (f := 24) rfl ?_); refine goesL_ (some 9) rfl rfl Try.func24 (by kernel_rfl) rfl #[.agg #[.slice A0_0 l0_0.length c0_0, .slice A0_1 l0_1.length c0_1]] rfl (by (try simp only [List.map_toArray, List.map_cons, List.map_nil]); first | done | rfl | (simp only [List.length_drop, List.length_take]; rfl)) ?_; (with_reducible refine (disk_Check.calls _ _ l0_0 _ _ l0_1 true _ ?side1 ?side2 ?side3 ?side4 A6.out).mono ?_); (case side1 => repeat (first | exact (Kd.C_below HR0_0.out HB.out) | (with_reducible refine Kd.C_alloc ?_ _) | (with_reducible refine Kd.C_drewN ?_ _) | (with_reducible refine Kd.C_drew ?_))); (case side2 => exact HC0_0.out); (case side3 => repeat (first | exact (Kd.C_below HR0_1.out HB.out) | (with_reducible refine Kd.C_alloc ?_ _) | (with_reducible refine Kd.C_drewN ?_ _) | (with_reducible refine Kd.C_drew ?_))); (case side4 => exact HC0_1.out); rintro e w12 ⟨rfl, hb⟩; refine ⟨_, rfl, ?_⟩; have n0_ := Aside0.mk (blk_below (g := gb365) (o := .cells #[.slice A0_0 l0_0.length c0_0, .slice A0_1 l0_1.length c0_1] 25 (0, 0)) (by (with_reducible repeat (first | refine blk_drewN ?_ _ | refine blk_drew ?_ | refine blk_alloc ?_ _)); exact BK365.out) hb); have n1_ := Aside0.mk (below_step (by repeat (first | (with_reducible first | exact HB.out | apply below_alloc | apply pw_below_drewN | apply below_drew1 | refine below_set ?_ GE365.out) | exact HB.out)) hb); clear BK365; clear HB; have BK365 := n0_; have HB := n1_; clear n0_ n1_; (try clear hb); (try clear hb2); (try clear hk); (try clear hi)))
        go_meet
        case rel => exact ⟨_, (decide (a2 > 1000000000)), (by first | rfl | (simp; done) | (simp [*]; done)), H', ⟨by first | omega | exact Nat.le_refl _⟩, ⟨by (with_reducible repeat (first | refine blk_drewN ?_ _ | refine blk_drew ?_ | refine blk_alloc ?_ _)); exact BK365.out⟩, ⟨by repeat (first | (with_reducible first | exact HB.out | apply below_alloc | apply pw_below_drewN | apply below_drew1 | refine below_set ?_ GE365.out) | exact HB.out)⟩⟩
    · replace c7 := Bool.eq_false_iff.mpr c7
      subst c7
      have H1 : (wal_open.j0 k a1 true l0_0 l0_1) = some r := by rw [if_neg (show ¬ (false = true) by decide)] at H; exact H
      clear H
      have H := H1
      clear H1
      have H' := Aside0.mk H
      clear H
      have hcz13_0 : w5.cell? ⟨gb365, 0, none⟩ = some (.slice A0_0 l0_0.length c0_0) := (blk_cell BK365.out 0).trans rfl
      have hcz13_1 : w5.cell? ⟨gb365, 1, none⟩ = some (.slice A0_1 l0_1.length c0_1) := (blk_cell BK365.out 1).trans rfl
      have hfz13_0 := blk_frozen BK365.out 0
      have hfz13_1 := blk_frozen BK365.out 1
      go_wp2_with (first | ((with_reducible refine gate_callee (f := 24) rfl ?_); refine goesL_ (some 9) rfl rfl Try.func24 (by kernel_rfl) rfl #[.agg #[.slice A0_0 l0_0.length c0_0, .slice A0_1 l0_1.length c0_1]] rfl (by (try simp only [List.map_toArray, List.map_cons, List.map_nil]); first | done | rfl | (simp only [List.length_drop, List.length_take]; rfl)) ?_; (with_reducible refine (disk_Check.calls _ _ l0_0 _ _ l0_1 false _ ?side1 ?side2 ?side3 ?side4 A6.out).mono ?_); (case side1 => repeat (first | exact (Kd.C_below HR0_0.out HB.out) | (with_reducible refine Kd.C_alloc ?_ _) | (with_reducible refine Kd.C_drewN ?_ _) | (with_reducible refine Kd.C_drew ?_))); (case side2 => exact HC0_0.out); (case side3 => repeat (first | exact (Kd.C_below HR0_1.out HB.out) | (with_reducible refine Kd.C_alloc ?_ _) | (with_reducible refine Kd.C_drewN ?_ _) | (with_reducible refine Kd.C_drew ?_))); (case side4 => exact HC0_1.out); rintro e w14 ⟨rfl, hb⟩; refine ⟨_, rfl, ?_⟩; have n0_ := Aside0.mk (blk_below (g := gb365) (o := .cells #[.slice A0_0 l0_0.length c0_0, .slice A0_1 l0_1.length c0_1] 25 (0, 0)) (by (with_reducible repeat (first | refine blk_drewN ?_ _ | refine blk_drew ?_ | refine blk_alloc ?_ _)); exact BK365.out) hb); have n1_ := Aside0.mk (below_step (by repeat (first | (with_reducible first | exact HB.out | apply below_alloc | apply pw_below_drewN | apply below_drew1 | refine below_set ?_ GE365.out) | exact HB.out)) hb); clear BK365; clear HB; have BK365 := n0_; have HB := n1_; clear n0_ n1_; (try clear hb); (try clear hb2); (try clear hk); (try clear hi)))
      go_meet
      case rel => exact ⟨_, (true), (by first | rfl | (simp; done) | (simp [*]; done)), H', ⟨by first | omega | exact Nat.le_refl _⟩, ⟨by (with_reducible repeat (first | refine blk_drewN ?_ _ | refine blk_drew ?_ | refine blk_alloc ?_ _)); exact BK365.out⟩, ⟨by repeat (first | (with_reducible first | exact HB.out | apply below_alloc | apply pw_below_drewN | apply below_drew1 | refine below_set ?_ GE365.out) | exact HB.out)⟩⟩
  case rest =>
    clear HC4
    try clear c2
    try clear p2
    try clear c5
    try clear c7
    try clear c8
    try clear c8b0
    try clear hcz11_0
    try clear hcz11_1
    try clear hcz13_0
    try clear hcz13_1
    try clear hcz9_0
    try clear hcz9_1
    try clear hfz11_0
    try clear hfz11_1
    try clear hfz13_0
    try clear hfz13_1
    try clear hfz9_0
    try clear hfz9_1
    obtain ⟨kq, x7_3, rfl, HA, HJ3, BK365, HB⟩ := hcut
    cases kq with
    | zero => exact absurd HA.out (by simp [wal_open.j0])
    | succ kj3 =>
      have H := HA.out
      clear HA
      simp only [wal_open.j0] at H
      by_cases c15 : x7_3 = true
      · subst c15
        have H1 : (some 1) = some r := by rw [if_pos rfl] at H; exact H
        clear H
        have H := H1
        clear H1
        obtain rfl := Option.some.inj H
        go_wp2
        go_ret
        exact ⟨by first | rfl | (simp [errW_none, errW_some] <;> rfl) | (simp [*, errW_none, errW_some] <;> rfl), by repeat (first | (with_reducible first | exact HB.out | apply below_alloc | apply pw_below_drewN | apply below_drew1 | refine below_set ?_ GE365.out) | exact HB.out)⟩
      · replace c15 := Bool.eq_false_iff.mpr c15
        subst c15
        have H1 : (if a1 < 0 then (some 40) else (if a1 ≥ (l0_0.length : Int) then (some 40) else (some 0))) = some r := by rw [if_neg (show ¬ (false = true) by decide)] at H; exact H
        clear H
        have H := H1
        clear H1
        by_cases c16 : a1 < 0
        · rw [if_pos c16] at H
          have c16b0 : decide (a1 < 0) = true := decide_eq_true c16
          clear c16
          obtain rfl := Option.some.inj H
          go_wp2
          go_ret
          exact ⟨by first | rfl | (simp [errW_none, errW_some] <;> rfl) | (simp [*, errW_none, errW_some] <;> rfl), by repeat (first | (with_reducible first | exact HB.out | apply below_alloc | apply pw_below_drewN | apply below_drew1 | refine below_set ?_ GE365.out) | exact HB.out)⟩
        · rw [if_neg c16] at H
          have c16b0 : decide (a1 < 0) = false := decide_eq_false c16
          clear c16
          by_cases c17 : a1 ≥ (l0_0.length : Int)
          · rw [if_pos c17] at H
            have c17b0 : decide ((l0_0.length : Int) ≤ a1) = true := decide_eq_true c17
            clear c17
            obtain rfl := Option.some.inj H
            have hcz18_0 : wc.cell? ⟨gb365, 0, none⟩ = some (.slice A0_0 l0_0.length c0_0) := (blk_cell BK365.out 0).trans rfl
            have hcz18_1 : wc.cell? ⟨gb365, 1, none⟩ = some (.slice A0_1 l0_1.length c0_1) := (blk_cell BK365.out 1).trans rfl
            have hfz18_0 := blk_frozen BK365.out 0
            have hfz18_1 := blk_frozen BK365.out 1
            go_wp2
            go_ret
            exact ⟨by first | rfl | (simp [errW_none, errW_some] <;> rfl) | (simp [*, errW_none, errW_some] <;> rfl), by repeat (first | (with_reducible first | exact HB.out | apply below_alloc | apply pw_below_drewN | apply below_drew1 | refine below_set ?_ GE365.out) | exact HB.out)⟩
          · rw [if_neg c17] at H
            have c17b0 : decide ((l0_0.length : Int) ≤ a1) = false := decide_eq_false c17
            clear c17
            obtain rfl := Option.some.inj H
            have hcz19_0 : wc.cell? ⟨gb365, 0, none⟩ = some (.slice A0_0 l0_0.length c0_0) := (blk_cell BK365.out 0).trans rfl
            have hcz19_1 : wc.cell? ⟨gb365, 1, none⟩ = some (.slice A0_1 l0_1.length c0_1) := (blk_cell BK365.out 1).trans rfl
            have hfz19_0 := blk_frozen BK365.out 0
            have hfz19_1 := blk_frozen BK365.out 1
            go_wp2
            go_ret
            exact ⟨by first | rfl | (simp [errW_none, errW_some] <;> rfl) | (simp [*, errW_none, errW_some] <;> rfl), by repeat (first | (with_reducible first | exact HB.out | apply below_alloc | apply pw_below_drewN | apply below_drew1 | refine below_set ?_ GE365.out) | exact HB.out)⟩

end Go.Proofs.Ytoibofhmlokglaa.P
/-
  slices.Collect over a log's texts, and wal.Open, by hand.
-/
namespace Go.Proofs.Ytoibofhmlokglaa.P
open Go.RowKit Go.Shelf Go.Proofs.CodecPlain Go.Proofs.YtoibofhmlokglaaW.PrintWords Go.Proofs.YtoibofhmlokglaaW.PrintLast Go.Proofs.YtoibofhmlokglaaW.PrintMore

attribute [local go_sem] Oper.semAt_some

theorem wpListIn_append_at {F : Fence} {n : Nat} {P : Program} (w : World) {ops : Array Oper} {rest : List Oper} {o : Oper} {a : Act} {Q : Exit → Act → World → Prop}
    (hg : o.guard = none) (s x : Operand) (t : TypeId) (hop : o.op = Op.call { callee := Callee.builtin Builtin.append, args := #[s, x], argTypes := #[t, t] })
    (base : Nat) (e : TypeId) (i : TypeInfo) (z : Value) (size bytes : Nat) (h1 : P.underlying t = some (.slice e)) (h2 : P.info? e = some i) (h3 : i.zero = some z) (h4 : i.size = size) (h5 : i.bytes = bytes) (h6 : z.cells.size = size) (h7 : 0 < size)
    (v : Value) (k : Nat) (xs : List Value) (hs : a.eval s = v) (hown : w.ownsRow base e size v k xs) (ad : Addr) (m c : Nat) (news : List Value) (hx : a.eval x = .slice (some ad) m c) (hn : news.length = m * size)
    (hc : ∀ j u, news[j]? = some u → w.cell? (ad.add j) = some u) (h1c : ∀ u ∈ news, u.oneCell' = true) (b1 : k + m ≤ maxLen) (b2 : (k + m) * bytes ≤ 140737488355328) (b3 : base ≤ w.heap.size)
    (hK : ∀ v' w', w'.ownsRow base e size v' (k + m) (xs ++ news) → w.grownBy w' v.ownBlock → (v'.ownBlock = v.ownBlock ∨ v'.ownBlock = some w.heap.size) → wpListIn F n P ops Q rest (a.put o.dst v') w') :
    wpListIn F n P ops Q (o :: rest) a w := by
  refine wpListIn_plain hg fun K hK' => ?_
  obtain ⟨v', w', hrun, r1, r2, _, r3⟩ := run_append_own_at (P := P) w base t o.type e i z size bytes h1 h2 h3 h4 h5 h6 h7 v k xs hown ad m c news hn hc h1c b1 b2 b3
  unfold Oper.wpIn
  refine ⟨?_, ?_⟩
  · simp [Oper.about, hop, resolve, Target.leads, Sem.run_pure]
  · rw [Oper.semAt_plain F _ _ (by rw [hop]; intro c hc'; cases hc')]
    simp [execOp, hop, resolve, invoke, builtin, hs, hx, hrun, Result.andThen]
    exact hK' _ _ (hK v' w' r1 r2 r3)
theorem zip1w (p : Tmp) (v : Value) (arr : Array Value) : (#[p].zip #[v]).foldl (fun t (x : Tmp × Value) => t.setIfInBounds x.1 x.2) arr = arr.setIfInBounds p v := by simp
/-- 'out = append(out, ..)' keeps all but its own row and its box. -/
theorem keepOwn_append {W w1 : World} {B : Nat} {e : TypeId} {base k : Nat} {v v' : Value} {xs : List Value} {tmp : Obj} (hv : Boxed W B 22 v) (hrow : W.ownsRow base e 1 v k xs) (hgrow : (W.alloc tmp).grownBy w1 v.ownBlock)
    (hat : v'.ownBlock = v.ownBlock ∨ v'.ownBlock = some (W.alloc tmp).heap.size) (hv2 : Boxed (w1.setCell ⟨B, 0, none⟩ v') B 22 v') : KeepOwn B W (w1.setCell ⟨B, 0, none⟩ v') := by
  have hsz : (W.alloc tmp).heap.size = W.heap.size + 1 := by simp
  have howns : ∀ q, v.ownBlock = some q → OwnB B W q := by
    intro q hq
    rcases hrow.2 with ⟨rfl, _⟩ | ⟨g, cap, cur, rfl, _⟩
    · simp [Value.ownBlock] at hq
    · have : g = q := by simpa [Value.ownBlock] using hq
      subst this
      exact .inr ⟨_, _, hv.cell⟩
  refine ⟨by have := hgrow.size; have h2 : (w1.setCell ⟨B, 0, none⟩ v').heap.size = w1.heap.size := by simp [World.setCell]
             omega, fun q o hq ho hn => ?_, fun q hq hown => ?_⟩
  · have hlt := (Array.getElem?_eq_some_iff.1 hq).1
    have hqB : q ≠ B := fun e => hn (.inl e)
    have h1 : w1.heap[q]? = (W.alloc tmp).heap[q]? := hgrow.block q (by omega) (fun e => hn (howns q e.symm))
    exact (Below.heap_setCell w1 ⟨B, 0, none⟩ v' q hqB).trans (h1.trans ((Below.heap_alloc W tmp q hlt).trans hq))
  · rcases hown with hown | ⟨n, c, hc⟩
    · exact .inl hown
    · rw [hv2.cell] at hc
      have hc' : v' = .slice (some ⟨q, 0, none⟩) n c := Option.some.inj hc
      rcases hat with hat | hat
      · exact howns q (by rw [← hat, hc']; simp [Value.ownBlock])
      · rw [hc'] at hat
        have : q = (W.alloc tmp).heap.size := by simpa [Value.ownBlock] using hat
        omega

set_option maxRecDepth 100000 in
set_option maxHeartbeats 4000000 in
theorem wal_collect_in (n : Nat) (hn : 3 ≤ n) (w0 : World) (A0 : Option Addr) (c0 : Nat) (l0 : List ByteArray) (A1 : Option Addr) (c1 : Nat) (l1 : List S40) (hr0 : Kd.C Kd.string w0 A0 l0.length l0) (hc0 : l0.length ≤ c0) (hr1 : Kd.C k40 w0 A1 l1.length l1) (hc1 : l1.length ≤ c1)
    (fr ep : Int) (hck : checkB l0 l1 = true) (hf0 : 0 ≤ fr) (hf1 : fr < l0.length) (Bd Bf Be : Nat) (w : World) (hW : Below w0.heap.size w0 w)
    (hBd : w.heap[Bd]? = some (.cells #[.slice A0 l0.length c0, .slice A1 l1.length c1] 25 (0, 0))) (hBf : Boxed w Bf 3 (.int .i64 fr)) (hBe : Boxed w Be 3 (.int .i64 ep)) :
    CallsIn Fence.wide n Try.prog 61 #[.slice none 0 0, .func (.func 62) #[] #[.pointer (some ⟨Bd, 0, none⟩), .pointer (some ⟨Bf, 0, none⟩), .pointer (some ⟨Be, 0, none⟩)]] w
      fun e W' => ∃ v, e = .returned v ∧ Kd.R Kd.string 9 W' w.heap.size (fun _ => True) v (recsV ep 0 ((contV l0 l1).drop fr.toNat)) ∧ Below w.heap.size w W' := by
  obtain ⟨i0, hi, hz0, hz1, hz2⟩ := info_parts (show (Try.prog.info? 9).map (fun i => (i.zero, i.size, i.bytes)) = some (some (.string ⟨#[]⟩), 1, 16) by kernel_rfl)
  have hcf := enters_of Try.func62 (by kernel_rfl) rfl
  obtain ⟨R, hR⟩ : ∃ R, R = recsV ep 0 ((contV l0 l1).drop fr.toNat) := ⟨_, rfl⟩
  have hRl : R.length ≤ 200 := by
    have h2 : ∀ (l : List ByteArray) (a : Int), (recsV ep a l).length ≤ l.length := by
      intro l
      induction l with
      | nil => intro a; simp [recsV]
      | cons s l ih => intro a; unfold recsV; split <;> simp; exact ih _
    have h3 := h2 ((contV l0 l1).drop fr.toNat) 0
    have h4 : (contV l0 l1).length = l0.length := applyW_length _ _ _ _
    have h5 := (check_len hck).2.1
    rw [← hR, List.length_drop] at h3
    omega
  rw [← hR]
  have bL := Boxed.new w 22 (.slice none 0 0)
  have hB0 : Below w.heap.size w (w.alloc (.cells #[.slice none 0 0] 22)) := (Below.refl _ w).alloc (Nat.le_refl _) _
  have hseq : SeqSt (n - 1) Try.prog 62 #[.pointer (some ⟨Bd, 0, none⟩), .pointer (some ⟨Bf, 0, none⟩), .pointer (some ⟨Be, 0, none⟩)] (fun x : ByteArray => #[Value.string x]) (KeepOwn w.heap.size) (fun xs => xs = R) (StW w.heap.size Be) 200 w := by
    intro lo J Jx W hb hst hJ _ hY h0
    have := wal_records1_in (n - 1) (by omega) w0 A0 c0 l0 A1 c1 l1 hr0 hc0 hr1 hc1 fr ep hck hf0 hf1 w.heap.size lo Bd Bf Be J Jx W (hW.trans (hb.mono hW.size)) hst hJ hY ((hb.block Bd (Array.getElem?_eq_some_iff.1 hBd).1).trans hBd) ((hb.block Bf hBf.lt).trans hBf) ((hb.block Be hBe.lt).trans hBe) h0
    rw [← hR] at this
    exact this
  have hBlt := hBe.lt
  clear hr0 hr1 hW hBd hBf hck hf0 hf1
  refine callsIn_of_wp_marks Try.func61 rfl trivial ?_ rfl
  simp only [Try.ntmps61, List.size_toArray, List.length_cons, List.length_nil, Nat.reduceAdd, Nat.reduceSub, Array.replicate_succ, Array.replicate_zero, List.push_toArray, List.append_toArray, List.nil_append, List.cons_append]
  gi_wp2
  refine wpIn_rangeSt (by omega) (gf := 62) (lb := #[.pointer (some ⟨Bd, 0, none⟩), .pointer (some ⟨Bf, 0, none⟩), .pointer (some ⟨Be, 0, none⟩)]) rfl hcf hseq ?hst (fun h k => h.trans k) ?hkb hB0 (fun _ => rfl)
    (fun pre W => (∃ v, Boxed W w.heap.size 22 v ∧ W.ownsRow w.heap.size 9 1 v pre.length (pre.map Value.string) ∧ True) ∧ Below w.heap.size w W) (fun _ _ _ => False)
    (OwnFrom.and (Own.from (holdsRow_own w.heap.size w.heap.size 22 9 1 (fun pre : List ByteArray => pre.length) (fun pre => pre.map Value.string) (fun _ _ => True)) _) (ownFrom_below (Nat.le_refl _) (by simp)))
    (fun _ _ _ _ _ hs _ _ => hs) ⟨⟨_, bL, ⟨rfl, .inl ⟨rfl, rfl⟩⟩, trivial⟩, hB0⟩ ?round ?done ?stop
  case hst =>
    intro W' hb
    have hbx : Boxed W' w.heap.size 22 (.slice none 0 0) := (hb.block w.heap.size (by simp)).trans bL
    have hc := hbx.cell
    have hno : ∀ k, OwnB w.heap.size W' k → k = w.heap.size := by
      rintro k (h | ⟨n, c, h⟩)
      · exact h
      · rw [hc] at h
        simp at h
    have hs := hb.size
    simp only [World.size_alloc] at hs
    exact ⟨by omega, fun q => by have := hno _ q; omega, fun k q => by have := hno k q; omega⟩
  case hkb => exact fun W l o o' hl h ho _ => KeepOwn.putObj o' h ho (by simp at hl; omega)
  case round =>
    rintro lo pre x W ⟨⟨v, hv, hrow, _⟩, hB⟩ hlt
    rw [zip1w]
    simp only [List.setIfInBounds_toArray, List.set_cons_zero, List.set_cons_succ]
    gi_wp2
    refine ⟨trivial, ?_⟩
    rintro W2 ⟨⟨v, hv, hrow, _⟩, hB⟩
    have hc := hv.cell
    gi_wp2_with (gi_at_builtin; refine wpListIn_append_at _ rfl _ _ 22 rfl w.heap.size 9 i0 (.string ⟨#[]⟩) 1 16 Try.underlying22 hi hz0 hz1 hz2 rfl (by decide) _ _ _ rfl (hrow.alloc _) ⟨W2.heap.size, 0, none⟩ 1 1 [.string x] rfl rfl (cell_one_new _ _ _) (by simp [Value.oneCell']) (by simp [maxLen]; omega) (by omega) (by have := hB.size; simp; omega) ?_; intro v' w1 hown' hgrow hat; obtain ⟨g', cap', rfl⟩ := ownsRow_succ hown'; obtain ⟨hv1, hv2, hr2, hk2, hb2⟩ := hv.appended (by decide) hrow hB.size (Nat.le_refl _) hown' hgrow; have hko := keepOwn_append hv hrow hgrow hat hv2; have hc1 := hv1.cell; have hf1 := hv1.frozen)
    refine ⟨hk2.from _, hko, ⟨⟨_, hv2, ?_, trivial⟩, hB.trans hb2⟩⟩
    simpa using hr2
  case done =>
    rintro D ys W hD rfl ⟨⟨v, hv, hrow, _⟩, hB⟩ hK
    have hc := hv.cell
    have hK2 := (World.putObj_heap_other (w := W) (r := D) (o := .deferred none) (k := w.heap.size) (by simp at hD; omega)).trans hv
    have hR2 : Kd.R Kd.string 9 (W.putObj D (.deferred none)) w.heap.size (fun _ => True) v ys := Kd.R_of_own (by
      have := ownsRow_putObj hrow (.deferred none) hK rfl
      exact this) (fun _ _ => trivial)
    gi_wp2
    refine ⟨by simp, .inl ⟨_, _, rfl, run_takeDeferred hK, ?_⟩⟩
    refine ⟨v, ?_, v, rfl, hR2, hB.trans (belowK_b (w := w) (Nat.le_refl _) _ D _ _ (by simp at hD; omega) hK rfl rfl)⟩
    simp [results, Try.results61, go_sem]
  case stop => exact fun _ _ _ _ _ h _ => h.elim

set_option maxHeartbeats 2000000 in
theorem wal_Collect_calls (w0 : World) (A0 : Option Addr) (c0 : Nat) (l0 : List ByteArray) (A1 : Option Addr) (c1 : Nat) (l1 : List S40) (hr0 : Kd.C Kd.string w0 A0 l0.length l0) (hc0 : l0.length ≤ c0) (hr1 : Kd.C k40 w0 A1 l1.length l1) (hc1 : l1.length ≤ c1)
    (fr ep : Int) (hck : checkB l0 l1 = true) (hf0 : 0 ≤ fr) (hf1 : fr < l0.length) (Bd Bf Be : Nat) (w : World) (hW : Below w0.heap.size w0 w)
    (hBd : w.heap[Bd]? = some (.cells #[.slice A0 l0.length c0, .slice A1 l1.length c1] 25 (0, 0))) (hBf : Boxed w Bf 3 (.int .i64 fr)) (hBe : Boxed w Be 3 (.int .i64 ep)) :
    Calls Try.prog 51 #[.func (.func 62) #[] #[.pointer (some ⟨Bd, 0, none⟩), .pointer (some ⟨Bf, 0, none⟩), .pointer (some ⟨Be, 0, none⟩)]] w
      fun e W' => ∃ v, e = .returned v ∧ Kd.R Kd.string 9 W' w.heap.size (fun _ => True) v (recsV ep 0 ((contV l0 l1).drop fr.toNat)) ∧ Below w.heap.size w W' := by
  have HC := Aside0.mk ((callsIn_wide (n := 9)).1 (wal_collect_in 9 (by omega) w0 A0 c0 l0 A1 c1 l1 hr0 hc0 hr1 hc1 fr ep hck hf0 hf1 Bd Bf Be w hW hBd hBf hBe))
  clear hr0 hr1 hck hf0 hf1 hW hBd hBf hBe
  go_enter Try.func51, Try.ntmps51
  go_wp2_with (go_at_call 61; (with_reducible refine HC.out.mono ?_); rintro e w1 ⟨v, rfl, hR, hb⟩; have HR := Aside0.mk hR; have HB := Aside0.mk hb; clear hR hb)
  go_ret
  exact ⟨_, rfl, HR.out, HB.out⟩
/-- The error of a disk, a block and an epoch. -/
def openE (l0 : List ByteArray) (l1 : List S40) (fr ep : Int) : Int := if checkB l0 l1 = false ∨ ep < 0 ∨ 1000000000 < ep then 1 else if fr < 0 ∨ (l0.length : Int) ≤ fr then 40 else 0
theorem open_e (k : Nat) (l0 : List ByteArray) (l1 : List S40) (fr ep : Int) : wal_open.f (k + 1) l0 l1 fr ep = some (openE l0 l1 fr ep) := by
  unfold wal_open.f openE
  simp only [disk_Check.f, Option.bind_some]
  have hj : ∀ b, wal_open.j0 (k + 1) fr b l0 l1 = some (if b = true then 1 else if fr < 0 ∨ (l0.length : Int) ≤ fr then 40 else 0) := by
    intro b
    simp only [wal_open.j0]
    cases b
    · simp only [Bool.false_eq_true, if_false]
      by_cases h1 : fr < 0
      · rw [if_pos h1, if_pos (.inl h1)]
      · rw [if_neg h1]
        by_cases h2 : (l0.length : Int) ≤ fr
        · rw [if_pos h2, if_pos (.inr h2)]
        · rw [if_neg (show ¬ fr ≥ (l0.length : Int) from h2), if_neg (fun q => q.elim h1 h2)]
    · simp
  by_cases hA : checkB l0 l1 = false ∨ ep < 0 ∨ 1000000000 < ep
  · rw [if_pos hA]
    rcases hA with h | h | h
    · rw [h, if_neg (by decide), hj, if_pos rfl]
    · by_cases hc : checkB l0 l1 = true
      · rw [if_pos hc, if_pos h, hj, if_pos rfl]
      · rw [if_neg hc, hj, if_pos rfl]
    · by_cases hc : checkB l0 l1 = true
      · rw [if_pos hc, if_neg (by omega), hj, decide_eq_true (show ep > 1000000000 from h), if_pos rfl]
      · rw [if_neg hc, hj, if_pos rfl]
  · rw [if_neg hA]
    have hc : checkB l0 l1 = true := by
      by_cases hc : checkB l0 l1 = true
      · exact hc
      · exact absurd (.inl (by simpa using hc)) hA
    have h1 : ¬ ep < 0 := fun q => hA (.inr (.inl q))
    have h2 : ¬ ep > 1000000000 := fun q => hA (.inr (.inr q))
    rw [if_pos hc, if_neg h1, hj, decide_eq_false h2, if_neg (by decide)]
theorem openE_ok {l0 : List ByteArray} {l1 : List S40} {fr ep : Int} (h : openE l0 l1 fr ep = 0) : checkB l0 l1 = true ∧ 0 ≤ fr ∧ fr < l0.length ∧ 0 ≤ ep ∧ ep ≤ 1000000000 := by
  unfold openE at h
  by_cases h1 : checkB l0 l1 = false ∨ ep < 0 ∨ 1000000000 < ep
  · rw [if_pos h1] at h; cases h
  · rw [if_neg h1] at h
    by_cases h2 : fr < 0 ∨ (l0.length : Int) ≤ fr
    · rw [if_pos h2] at h; cases h
    · refine ⟨by cases hc : checkB l0 l1; exact absurd (.inl hc) h1; rfl, by omega, by omega, ?_, ?_⟩
      · exact Classical.byContradiction fun q => h1 (.inr (.inl (by omega)))
      · exact Classical.byContradiction fun q => h1 (.inr (.inr (by omega)))
theorem rec_box1 (w : World) (o : Obj) (v : Value) (o2 : Obj) : Boxed (((w.alloc o).alloc (.cells #[v] 3)).alloc o2) (w.heap.size + 1) 3 v := by
  have h := Boxed.new (w.alloc o) 3 v
  rw [World.size_alloc] at h
  exact h.alloc _
theorem rec_box2 (w : World) (o o2 : Obj) (v : Value) : Boxed (((w.alloc o).alloc o2).alloc (.cells #[v] 3)) (w.heap.size + 1 + 1) 3 v := by
  have h := Boxed.new ((w.alloc o).alloc o2) 3 v
  rw [World.size_alloc, World.size_alloc] at h
  exact h
/-- What wal.Open answers. -/
def openV (l0 : List ByteArray) (l1 : List S40) (fr ep : Int) : List ByteArray × Int := if openE l0 l1 fr ep = 0 then (recsV ep 0 ((contV l0 l1).drop fr.toNat), 0) else ([], openE l0 l1 fr ep)
def wal_Open.f (l0 : List ByteArray) (l1 : List S40) (fr ep : Int) : Option (List ByteArray × Int) := some (openV l0 l1 fr ep)

set_option maxRecDepth 100000 in
set_option maxHeartbeats 4000000 in
theorem wal_Open.calls (A0_0 : Option Addr) (c0_0 : Nat) (l0_0 : List ByteArray) (A0_1 : Option Addr) (c0_1 : Nat) (l0_1 : List S40) (a1 : Int) (a2 : Int) (r1 : List ByteArray) (r2 : Int) (w : World) (hr0_0 : Kd.C Kd.string w A0_0 l0_0.length l0_0) (hc0_0 : l0_0.length ≤ c0_0) (hr0_1 : Kd.C k40 w A0_1 l0_1.length l0_1) (hc0_1 : l0_1.length ≤ c0_1) (h : wal_Open.f l0_0 l0_1 a1 a2 = some (r1, r2)) :
    Calls Try.prog 29 #[.agg #[.slice A0_0 l0_0.length c0_0, .slice A0_1 l0_1.length c0_1], .int .i64 a1, .int .i64 a2] w fun e w' => ∃ v0_ : Value, e = .returned (.tuple #[v0_, .int .i64 r2]) ∧ Kd.R Kd.string 9 w' w.heap.size (fun _ => True) v0_ r1 ∧ Below w.heap.size w w' := by
  have hv : openV l0_0 l0_1 a1 a2 = (r1, r2) := by simpa [wal_Open.f] using h
  clear h
  have HB0 := Aside0.mk ((Below.refl w.heap.size w).alloc (Nat.le_refl _) (.cells #[.slice A0_0 l0_0.length c0_0, .slice A0_1 l0_1.length c0_1] 25))
  have HD0 := Aside0.mk (blk_new w (.cells #[.slice A0_0 l0_0.length c0_0, .slice A0_1 l0_1.length c0_1] 25))
  have HOP := Aside0.mk (wal_open.calls 1 A0_0 c0_0 l0_0 A0_1 c0_1 l0_1 a1 a2 (openE l0_0 l0_1 a1 a2) (w.alloc (.cells #[.slice A0_0 l0_0.length c0_0, .slice A0_1 l0_1.length c0_1] 25)) (Kd.C_below hr0_0 HB0.out) hc0_0 (Kd.C_below hr0_1 HB0.out) hc0_1 (open_e 0 _ _ _ _))
  obtain ⟨er, her⟩ : ∃ er, er = openE l0_0 l0_1 a1 a2 := ⟨_, rfl⟩
  unfold openV at hv
  rw [← her] at HOP hv
  have ARM := True.intro
  by_cases he : er = 0
  rotate_left
  · rw [if_neg he] at hv
    simp only [Prod.mk.injEq] at hv
    obtain ⟨h1, h2⟩ := hv
    subst h1
    subst h2
    have hne : (er != 0) = true := by rw [bne_iff_ne]; exact he
    clear he her hr0_0 hr0_1
    go_enter Try.func29, Try.ntmps29
    go_wp2_with (go_at_call 50; (with_reducible refine HOP.out.mono ?_); rintro e w1 ⟨rfl, hb⟩; have HB1 := Aside0.mk (HB0.out.trans (hb.mono (by simp))); have HD1 := Aside0.mk (blk_below HD0.out hb); clear hb; have d0 := blk_cell HD1.out 0; have d1 := blk_cell HD1.out 1; simp only [List.getElem?_toArray, List.getElem?_cons_zero, List.getElem?_cons_succ] at d0 d1)
    go_ret2
    exact ⟨_, rfl, Kd.R_nil _ _ _ _ _, HB1.out⟩
  · rw [if_pos he] at hv
    simp only [Prod.mk.injEq] at hv
    obtain ⟨h1, h2⟩ := hv
    subst h1
    subst h2
    subst he
    obtain ⟨hck, hf0, hf1, _, _⟩ := openE_ok her.symm
    have HRC := Aside0.mk (fun W => (callsIn_wide (n := 3)).1 (wal_records_in 3 A0_0 l0_0.length c0_0 A0_1 l0_1.length c0_1 a1 a2 W))
    have HCO := Aside0.mk (fun (W : World) (Bd Bf Be : Nat) (hW : Below w.heap.size w W) hBd hBf hBe => wal_Collect_calls w A0_0 c0_0 l0_0 A0_1 c0_1 l0_1 hr0_0 hc0_0 hr0_1 hc0_1 a1 a2 hck hf0 hf1 Bd Bf Be W hW hBd hBf hBe)
    clear her hr0_0 hr0_1 hck hf0 hf1
    go_enter Try.func29, Try.ntmps29
    go_wp2_with (first | (go_at_call 50; (with_reducible refine HOP.out.mono ?_); rintro e w1 ⟨rfl, hb⟩; have HB1 := Aside0.mk (HB0.out.trans (hb.mono (by simp))); have HD1 := Aside0.mk (blk_below HD0.out hb); clear hb; have d0 := blk_cell HD1.out 0; have d1 := blk_cell HD1.out 1; simp only [List.getElem?_toArray, List.getElem?_cons_zero, List.getElem?_cons_succ] at d0 d1) | (go_at_call 52; (with_reducible refine (HRC.out _).mono ?_); rintro e w2 ⟨rfl, hw2⟩; have HB2 := Aside0.mk (show Below w.heap.size w w2 by rw [hw2]; exact ((HB1.out.alloc HB1.out.size _).alloc (by have := HB1.out.size; simp; omega) _).alloc (by have := HB1.out.size; simp; omega) _); have HBD := Aside0.mk (show w2.heap[w1.heap.size]? = some (.cells #[.slice A0_0 l0_0.length c0_0, .slice A0_1 l0_1.length c0_1] 25 (0, 0)) by rw [hw2]; exact blk_alloc (blk_alloc (blk_new w1 _) _) _); have HBF := Aside0.mk (show Boxed w2 (w1.heap.size + 1) 3 (.int .i64 a1) by rw [hw2]; exact rec_box1 w1 _ _ _); have HBE := Aside0.mk (show Boxed w2 (w1.heap.size + 1 + 1) 3 (.int .i64 a2) by rw [hw2]; exact rec_box2 w1 _ _ _); clear hw2 d0 d1) | (go_at_call 51; (with_reducible refine (HCO.out _ _ _ _ HB2.out HBD.out HBF.out HBE.out).mono ?_); rintro e w3 ⟨v3, rfl, hR3, hb⟩; have HR3 := Aside0.mk hR3; have HB3 := Aside0.mk (HB2.out.trans (hb.mono HB2.out.size)); clear hb hR3))
    go_ret2
    exact ⟨_, rfl, Kd.R_lower HR3.out HB2.out.size, HB3.out⟩
end Go.Proofs.Ytoibofhmlokglaa.P
-- Written by a program of this session (xprint.py) over the kit's print.py.
namespace Go.Proofs.Ytoibofhmlokglaa.P
open Go.RowKit Go.Proofs.YtoibofhmlokglaaW.PrintWords Go.Proofs.YtoibofhmlokglaaW.PrintLast Go.Proofs.YtoibofhmlokglaaW.PrintMore
attribute [local go_sem] max2_int min2_int max_two min_two max_three min_three max_four min_four   -- for this text's walks alone
set_option linter.unusedVariables false
set_option linter.unusedSimpArgs false

/-! ### wal_mark_put: function 55 -/
def wal_mark_put.f (a0_0 : Int) (a0_1 : Int) (a1 : ByteArray) : Option (ByteArray) := (codec_Number.f a0_0).bind fun bt376 => ((codec_Number.f a0_1).bind fun bt378 => (if bt376.1.size + bt378.1.size ≤ 9223372036854775807 then (if (bt376.1 ++ bt378.1).size + a1.size ≤ 9223372036854775807 then ((crc_Put.f ((bt376.1 ++ bt378.1) ++ a1)).bind fun bt380 => (some bt380.1)) else (none)) else (none)))
set_option maxHeartbeats 8000000 in
set_option maxRecDepth 100000 in
theorem wal_mark_put.calls (a0_0 : Int) (a0_1 : Int) (a1 : ByteArray) (r : ByteArray) (w : World) (h : wal_mark_put.f a0_0 a0_1 a1 = some r) :
    Calls Try.prog 55 #[.agg #[.int .i64 a0_0, .int .i64 a0_1], .string a1] w fun e w' => e = .returned (.string r) ∧ Below w.heap.size w w' := by
  have hu75 := Try.underlying75
  have HB := Aside0.mk (Below.refl w.heap.size w)
  have H : ((codec_Number.f a0_0).bind fun bt376 => ((codec_Number.f a0_1).bind fun bt378 => (if bt376.1.size + bt378.1.size ≤ 9223372036854775807 then (if (bt376.1 ++ bt378.1).size + a1.size ≤ 9223372036854775807 then ((crc_Put.f ((bt376.1 ++ bt378.1) ++ a1)).bind fun bt380 => (some bt380.1)) else (none)) else (none)))) = some r := h
  clear h
  replace H := Option.bind_eq_some_iff.mp H
  obtain ⟨⟨t376, t377⟩, A30, H⟩ := H
  replace H : ((codec_Number.f a0_1).bind fun bt378 => (if t376.size + bt378.1.size ≤ 9223372036854775807 then (if (t376 ++ bt378.1).size + a1.size ≤ 9223372036854775807 then ((crc_Put.f ((t376 ++ bt378.1) ++ a1)).bind fun bt380 => (some bt380.1)) else (none)) else (none))) = some r := H
  have A3 := Aside0.mk A30
  clear A30
  replace H := Option.bind_eq_some_iff.mp H
  obtain ⟨⟨t378, t379⟩, A40, H⟩ := H
  replace H : (if t376.size + t378.size ≤ 9223372036854775807 then (if (t376 ++ t378).size + a1.size ≤ 9223372036854775807 then ((crc_Put.f ((t376 ++ t378) ++ a1)).bind fun bt380 => (some bt380.1)) else (none)) else (none)) = some r := H
  have A4 := Aside0.mk A40
  clear A40
  by_cases c5 : t376.size + t378.size ≤ 9223372036854775807
  · rw [if_pos c5] at H
    have c5b0 := eq_true c5
    have c5b1 : decide (t376.size + t378.size ≤ 9223372036854775807) = true := decide_eq_true c5
    try have c5b2 : (9223372036854775807 < t376.size + t378.size) = False := eq_false (Nat.not_lt.2 c5)
    by_cases c6 : (t376 ++ t378).size + a1.size ≤ 9223372036854775807
    · rw [if_pos c6] at H
      have c6b0 := eq_true c6
      have c6b1 : decide ((t376 ++ t378).size + a1.size ≤ 9223372036854775807) = true := decide_eq_true c6
      try have c6b2 : (9223372036854775807 < (t376 ++ t378).size + a1.size) = False := eq_false (Nat.not_lt.2 c6)
      replace H := Option.bind_eq_some_iff.mp H
      obtain ⟨⟨t380, t381⟩, A70, H⟩ := H
      replace H : (some t380) = some r := H
      have A7 := Aside0.mk A70
      clear A70
      obtain rfl := Option.some.inj H
      go_enter Try.func55, Try.ntmps55
      go_wp2_with (first | ((with_reducible refine gate_dst (N := 2) rfl ?_); refine box_event ?hg (N := 2) ?hd (cs := #[.int .i64 a0_0, .int .i64 a0_1]) (t := 75) ?hr ?_; (case hd => rfl); (case hg => rfl); (case hr => first | (go_simp; done) | (go_simp; rfl)); intro gb375 hg w8 hbox hb; have n0_ := Aside0.mk (below_step (by repeat (first | (with_reducible first | exact HB.out | apply below_alloc | apply pw_below_drewN | apply below_drew1) | exact HB.out)) hb); have n1_ := Aside0.mk (hbox); have n2_ := Aside0.mk ((by rw [hg]; exact (below_size (by repeat (first | (with_reducible first | exact HB.out | apply below_alloc | apply pw_below_drewN | apply below_drew1) | exact HB.out))) : w.heap.size ≤ gb375)); have n3_ := Aside0.mk ((by rw [hg]; exact (below_size (by repeat (first | (with_reducible first | exact HB.out | apply below_alloc | apply pw_below_drewN | apply below_drew1) | exact HB.out))) : w.heap.size ≤ gb375)); clear HB; have HB := n0_; have BK375 := n1_; have GW375 := n2_; have GE375 := n3_; clear n0_ n1_ n2_ n3_; clear hb hbox hg; have hcz9_0 : w8.cell? ⟨gb375, 0, none⟩ = some (.int .i64 a0_0) := (blk_cell BK375.out 0).trans rfl; have hcz9_1 : w8.cell? ⟨gb375, 1, none⟩ = some (.int .i64 a0_1) := (blk_cell BK375.out 1).trans rfl; have hfz9_0 := blk_frozen BK375.out 0; have hfz9_1 := blk_frozen BK375.out 1) | ((with_reducible refine gate_callee (f := 66) rfl ?_); refine goesL_ (some 14) rfl rfl Try.func66 (by kernel_rfl) rfl #[.int .i64 a0_0] rfl (by (try simp only [List.map_toArray, List.map_cons, List.map_nil]); first | done | rfl | (simp only [List.length_drop, List.length_take]; rfl)) ?_; (with_reducible refine (codec_Number.calls a0_0 t376 t377 _ A3.out).mono ?_); rintro e w10 ⟨rfl, hb⟩; refine ⟨_, rfl, ?_⟩; have n0_ := Aside0.mk (blk_below (g := gb375) (o := .cells #[.int .i64 a0_0, .int .i64 a0_1] 75 (0, 0)) (by (with_reducible repeat (first | refine blk_drewN ?_ _ | refine blk_drew ?_ | refine blk_alloc ?_ _)); exact BK375.out) hb); have n1_ := Aside0.mk (below_step (by repeat (first | (with_reducible first | exact HB.out | apply below_alloc | apply pw_below_drewN | apply below_drew1 | refine below_set ?_ GE375.out) | exact HB.out)) hb); clear BK375; clear HB; have BK375 := n0_; have HB := n1_; clear n0_ n1_; (try clear hb); (try clear hb2); (try clear hk); (try clear hi); have hcz11_0 : w10.cell? ⟨gb375, 0, none⟩ = some (.int .i64 a0_0) := (blk_cell BK375.out 0).trans rfl; have hcz11_1 : w10.cell? ⟨gb375, 1, none⟩ = some (.int .i64 a0_1) := (blk_cell BK375.out 1).trans rfl; have hfz11_0 := blk_frozen BK375.out 0; have hfz11_1 := blk_frozen BK375.out 1) | ((with_reducible refine gate_callee (f := 66) rfl ?_); refine goesL_ (some 20) rfl rfl Try.func66 (by kernel_rfl) rfl #[.int .i64 a0_1] rfl (by (try simp only [List.map_toArray, List.map_cons, List.map_nil]); first | done | rfl | (simp only [List.length_drop, List.length_take]; rfl)) ?_; (with_reducible refine (codec_Number.calls a0_1 t378 t379 _ A4.out).mono ?_); rintro e w12 ⟨rfl, hb⟩; refine ⟨_, rfl, ?_⟩; have n0_ := Aside0.mk (blk_below (g := gb375) (o := .cells #[.int .i64 a0_0, .int .i64 a0_1] 75 (0, 0)) (by (with_reducible repeat (first | refine blk_drewN ?_ _ | refine blk_drew ?_ | refine blk_alloc ?_ _)); exact BK375.out) hb); have n1_ := Aside0.mk (below_step (by repeat (first | (with_reducible first | exact HB.out | apply below_alloc | apply pw_below_drewN | apply below_drew1 | refine below_set ?_ GE375.out) | exact HB.out)) hb); clear BK375; clear HB; have BK375 := n0_; have HB := n1_; clear n0_ n1_; (try clear hb); (try clear hb2); (try clear hk); (try clear hi)) | ((with_reducible refine gate_callee (f := 67) rfl ?_); refine goesL_ (some 29) rfl rfl Try.func67 (by kernel_rfl) rfl #[.string ((t376 ++ t378) ++ a1)] rfl (by (try simp only [List.map_toArray, List.map_cons, List.map_nil]); first | done | rfl | (simp only [List.length_drop, List.length_take]; rfl)) ?_; (with_reducible refine (crc_Put.calls ((t376 ++ t378) ++ a1) t380 t381 _ A7.out).mono ?_); rintro e w13 ⟨rfl, hb⟩; refine ⟨_, rfl, ?_⟩; have n0_ := Aside0.mk (blk_below (g := gb375) (o := .cells #[.int .i64 a0_0, .int .i64 a0_1] 75 (0, 0)) (by (with_reducible repeat (first | refine blk_drewN ?_ _ | refine blk_drew ?_ | refine blk_alloc ?_ _)); exact BK375.out) hb); have n1_ := Aside0.mk (below_step (by repeat (first | (with_reducible first | exact HB.out | apply below_alloc | apply pw_below_drewN | apply below_drew1 | refine below_set ?_ GE375.out) | exact HB.out)) hb); clear BK375; clear HB; have BK375 := n0_; have HB := n1_; clear n0_ n1_; (try clear hb); (try clear hb2); (try clear hk); (try clear hi)))
      go_ret
      exact ⟨by first | rfl | (simp [errW_none, errW_some] <;> rfl) | (simp [*, errW_none, errW_some] <;> rfl), by repeat (first | (with_reducible first | exact HB.out | apply below_alloc | apply pw_below_drewN | apply below_drew1 | refine below_set ?_ GE375.out) | exact HB.out)⟩
    · rw [if_neg c6] at H
      exact absurd H (by simp)
  · rw [if_neg c5] at H
    exact absurd H (by simp)

end Go.Proofs.Ytoibofhmlokglaa.P
/-
  wal.Append, by hand.
-/
namespace Go.Proofs.Ytoibofhmlokglaa.P
open Go.RowKit Go.Shelf Go.Proofs.CodecPlain Go.Proofs.YtoibofhmlokglaaW.PrintWords Go.Proofs.YtoibofhmlokglaaW.PrintLast Go.Proofs.YtoibofhmlokglaaW.PrintMore

attribute [local go_sem] Oper.semAt_some

/-- No panic. -/
def calmQ (Q : Exit → Act → World → Prop) : Exit → Act → World → Prop
  | .panic _, _, _ => False
  | .normal, a, w => Q .normal a w
  | .ret, a, w => Q .ret a w
  | .exit i, a, w => Q (.exit i) a w
  | .goto i, a, w => Q (.goto i) a w
  | .outgrown, a, w => Q .outgrown a w
theorem calmQ_le (Q : Exit → Act → World → Prop) : ∀ e a w, calmQ Q e a w → Q e a w
  | .panic _, _, _, h => h.elim
  | .normal, _, _, h => h
  | .ret, _, _, h => h
  | .exit _, _, _, h => h
  | .goto _, _, _, h => h
  | .outgrown, _, _, h => h
/-- What wal.Append answers. -/
def appendV (l : List ByteArray) (u : List S40) (fr ep : Int) (s : ByteArray) : List ByteArray × List S40 × Int :=
  if ¬ openE l u fr ep = 0 then ([], [], openE l u fr ep) else if 200 < s.size then ([], [], 2) else
  if (l.length : Int) ≤ fr + ((recsV ep 0 ((contV l u).drop fr.toNat)).length : Int) then ([], [], 41) else
  writeV l u (fr + ((recsV ep 0 ((contV l u).drop fr.toNat)).length : Int)) (frameOf ((numStr ep ++ numStr ((recsV ep 0 ((contV l u).drop fr.toNat)).length : Int)) ++ s))
def wal_Append.f (l : List ByteArray) (u : List S40) (fr ep : Int) (s : ByteArray) : Option (List ByteArray × List S40 × Int) := some (appendV l u fr ep s)
def AppPost (w : World) (b : List ByteArray) (u : List S40) (er : Int) (e : Ending) (w' : World) : Prop := ∃ v0_ v1_ : Value, e = .returned (.tuple #[.agg #[v0_, v1_], .int .i64 er]) ∧ Kd.R Kd.string 9 w' w.heap.size (fun _ => True) v0_ b ∧ Kd.R k40 40 w' w.heap.size (fun _ => True) v1_ u ∧ Below w.heap.size w w'
theorem recsV_len (ep : Int) : ∀ (l : List ByteArray) (a : Int), (recsV ep a l).length ≤ l.length := by
  intro l
  induction l with
  | nil => intro a; simp [recsV]
  | cons s l ih => intro a; unfold recsV; split <;> simp; exact ih _
theorem put_mark {ep n : Int} {s : ByteArray} (h0 : 0 ≤ ep) (h1 : ep ≤ 1000000000) (h2 : 0 ≤ n) (h3 : n ≤ 1000) (hs : s.size ≤ 200) : wal_mark_put.f ep n s = some (frameOf ((numStr ep ++ numStr n) ++ s)) := by
  have z1 := numStr_size ep
  have z2 := numStr_size n
  unfold wal_mark_put.f codec_Number.f
  rw [if_pos (by omega), if_pos (by omega), Option.bind_some, Option.bind_some]
  simp only
  rw [if_pos (by omega), if_pos (by rw [CodecPlain.size_append]; omega), put_f, if_pos (by rw [CodecPlain.size_append, CodecPlain.size_append]; omega)]
  rfl
theorem R_kept0 {W W' : World} {α : Type} {d : Kd α} {e : Nat} {base : Nat} {ok : Nat → Prop} {v : Value} {xs : List α} (h : d.R e W base ok v xs) {row : Option Nat} (hg : W.grownBy W' row) (hr : ∀ k, row = some k → ∃ o : Obj, W.heap[k]? = some o ∧ o.isCells = false) : d.R e W' base ok v xs :=
  Kd.R_mono (Kd.R_move (Kd.R_bound h) (fun k hk => by
    obtain ⟨_, _, hlt, q, _, cells, hc⟩ := hk
    exact hg.block k hlt (fun e => by
      obtain ⟨o, ho, hn⟩ := hr k e.symm
      rw [hc] at ho
      cases ho
      cases hn))) (fun _ hk => hk.1)
/-- What an Append ends with, behind the marks. -/
theorem app_shut {w0 W : World} {v0 v1 : Value} {er : Int} {D : Nat} {b : List ByteArray} {u : List S40} (hD : w0.heap.size + 2 ≤ D) (hk : W.heap[D]? = some (.deferred (some [])))
    (hz : W.heap[w0.heap.size + 1]? = some (.cells #[v0, v1] 25 (0, 0))) (hP : Kd.R Kd.string 9 W w0.heap.size (fun _ => True) v0 b) (hQ : Kd.R k40 40 W w0.heap.size (fun _ => True) v1 u) (hB : Below w0.heap.size w0 W) :
    (W.putObj D (.deferred none)).heap[w0.heap.size + 1]? = some (.cells #[v0, v1] 25 (0, 0)) ∧ AppPost w0 b u er (.returned (.tuple #[.agg #[v0, v1], .int .i64 er])) (W.putObj D (.deferred none)) := by
  have hc : ∀ k, some D = some k → ∃ o : Obj, W.heap[k]? = some o ∧ o.isCells = false := fun k e => by
    injection e with e
    subst e
    exact ⟨_, hk, rfl⟩
  exact ⟨(World.putObj_heap_other (by omega)).trans hz, _, _, rfl, R_kept0 hP (grownBy_putObj' W D _) hc, R_kept0 hQ (grownBy_putObj' W D _) hc, hB.grown (grownBy_putObj' W D _) hB.size (fun k e => by injection e with e; omega)⟩
/-- The blocks of an Append. -/
structure ApMem (w0 : World) (Dc : Array Value) (Bm : Nat) (ep n : Int) (W : World) : Prop where
  d : W.heap[w0.heap.size]? = some (.cells Dc 25 (0, 0))
  z : W.heap[w0.heap.size + 1]? = some (.cells #[.slice none 0 0, .slice none 0 0] 25 (0, 0))
  m : W.heap[Bm]? = some (.cells #[.int .i64 ep, .int .i64 n] 75 (0, 0))
  bel : Below w0.heap.size w0 W
theorem ApMem.grown {w0 : World} {Dc : Array Value} {Bm : Nat} {ep n : Int} {W W' : World} (h : ApMem w0 Dc Bm ep n W) {row : Option Nat} (hg : W.grownBy W' row) (hlo : ∀ k, row = some k → w0.heap.size ≤ k) (hr : ∀ k, row = some k → ∃ o : Obj, W.heap[k]? = some o ∧ o.isCells = false) : ApMem w0 Dc Bm ep n W' := by
  have hk : ∀ {i : Nat} {a : Array Value} {ty : TypeId}, W.heap[i]? = some (.cells a ty (0, 0)) → W'.heap[i]? = some (.cells a ty (0, 0)) := fun hi => (grownBy_keeps_cells hg hr hi rfl).trans hi
  exact ⟨hk h.d, hk h.z, hk h.m, h.bel.grown hg h.bel.size hlo⟩
theorem ApMem.below {w0 : World} {Dc : Array Value} {Bm : Nat} {ep n : Int} {W W' : World} (h : ApMem w0 Dc Bm ep n W) (hb : Below W.heap.size W W') : ApMem w0 Dc Bm ep n W' :=
  h.grown (grown_of_below0 hb) (fun _ e => by cases e) (fun _ e => by cases e)
theorem ApMem.own {w0 : World} {Dc : Array Value} {Bm : Nat} {ep : Int} {B : Nat} (hB : w0.heap.size ≤ B) : OwnFrom B (fun (pre : List ByteArray) W => ApMem w0 Dc Bm ep (pre.length : Int) W) := fun pre W W' row h hg hr =>
  h.grown hg (fun k e => Nat.le_trans hB (hr k e).1) (fun k e => (hr k e).2)
theorem keepOwn_mark {W : World} {B : Nat} {a b : Int} (h : W.heap[B]? = some (.cells #[.int .i64 a, .int .i64 b] 75 (0, 0))) (x : Int) : KeepOwn B W (W.setCell ⟨B, 1, none⟩ (.int .i64 x)) := by
  refine ⟨by simp [World.setCell], fun k o hk _ hn => (Below.heap_setCell W ⟨B, 1, none⟩ _ k (fun e => hn (.inl e))).trans hk, fun k _ q => ?_⟩
  rcases q with q | ⟨n, c, q⟩
  · exact .inl q
  · have h2 := blk_cell (blk_set h 1 (.int .i64 x)) 0
    rw [h2] at q
    simp at q
theorem own_mark {W : World} {B : Nat} {a b : Int} (h : W.heap[B]? = some (.cells #[.int .i64 a, .int .i64 b] 75 (0, 0))) {k : Nat} (q : OwnB B W k) : k = B := by
  rcases q with q | ⟨n, c, q⟩
  · exact q
  · rw [blk_cell h 0] at q
    simp at q

set_option maxHeartbeats 4000000 in
theorem wal_Append_E (A0 : Option Addr) (c0 : Nat) (l : List ByteArray) (A1 : Option Addr) (c1 : Nat) (u : List S40) (fr ep : Int) (s : ByteArray) (w : World) (hr0 : Kd.C Kd.string w A0 l.length l) (hc0 : l.length ≤ c0) (hr1 : Kd.C k40 w A1 u.length u) (hc1 : u.length ≤ c1) (he : ¬ openE l u fr ep = 0) :
    Calls Try.prog 31 #[.agg #[.slice A0 l.length c0, .slice A1 u.length c1], .int .i64 fr, .int .i64 ep, .string s] w (AppPost w [] [] (openE l u fr ep)) := by
  have HB0 := Aside0.mk (((Below.refl w.heap.size w).alloc (Nat.le_refl _) (.cells #[.slice A0 l.length c0, .slice A1 u.length c1] 25)).alloc (by simp) (.cells #[.slice none 0 0, .slice none 0 0] 25))
  have HD0 := Aside0.mk (blk_alloc (blk_new w (.cells #[.slice A0 l.length c0, .slice A1 u.length c1] 25)) (.cells #[.slice none 0 0, .slice none 0 0] 25))
  have HZ0 := Aside0.mk (show ((w.alloc (.cells #[.slice A0 l.length c0, .slice A1 u.length c1] 25)).alloc (.cells #[.slice none 0 0, .slice none 0 0] 25)).heap[w.heap.size + 1]? = some (.cells #[.slice none 0 0, .slice none 0 0] 25 (0, 0)) by have h_ := blk_new (w.alloc (.cells #[.slice A0 l.length c0, .slice A1 u.length c1] 25)) (.cells #[.slice none 0 0, .slice none 0 0] 25); rw [World.size_alloc] at h_; exact h_)
  have HOP := Aside0.mk (wal_open.calls 1 A0 c0 l A1 c1 u fr ep (openE l u fr ep) ((w.alloc (.cells #[.slice A0 l.length c0, .slice A1 u.length c1] 25)).alloc (.cells #[.slice none 0 0, .slice none 0 0] 25)) (Kd.C_below hr0 HB0.out) hc0 (Kd.C_below hr1 HB0.out) hc1 (open_e 0 _ _ _ _))
  obtain ⟨er, her⟩ : ∃ er, er = openE l u fr ep := ⟨_, rfl⟩
  rw [← her] at HOP he ⊢
  have hne : (er != 0) = true := by rw [bne_iff_ne]; exact he
  clear her he hr0 hr1
  go_enter Try.func31, Try.ntmps31
  go_wp2_with (go_at_call 50; (with_reducible refine HOP.out.mono ?_); rintro e w1 ⟨rfl, hb⟩; have HB1 := Aside0.mk (HB0.out.trans (hb.mono HB0.out.size)); have HD1 := Aside0.mk (blk_below HD0.out hb); have HZ1 := Aside0.mk (blk_below HZ0.out hb); clear hb; have z0 := blk_cell HZ1.out 0; have z1 := blk_cell HZ1.out 1; have fz0 := blk_frozen HZ1.out 0; have fz1 := blk_frozen HZ1.out 1; simp only [List.getElem?_toArray, List.getElem?_cons_zero, List.getElem?_cons_succ] at z0 z1)
  have HZ2 := blk_set (blk_set HZ1.out 0 (.slice none 0 0)) 1 (.slice none 0 0)
  have g0 := blk_cell HZ2 0
  have g1 := blk_cell HZ2 1
  refine bodyPost_ret (v := .tuple #[.agg #[.slice none 0 0, .slice none 0 0], .int .i64 er]) ?_ rfl ⟨_, _, rfl, Kd.R_nil _ _ _ _ _, Kd.R_nil _ _ _ _ _, (HB1.out.setCell (p := ⟨w.heap.size + 1, 0, none⟩) (by show w.heap.size ≤ w.heap.size + 1; omega) _).setCell (p := ⟨w.heap.size + 1, 1, none⟩) (by show w.heap.size ≤ w.heap.size + 1; omega) _⟩
  simp [results, Try.results31, go_sem, g0, g1]
set_option maxRecDepth 100000 in
set_option maxHeartbeats 8000000 in
theorem wal_Append_F (A0 : Option Addr) (c0 : Nat) (l : List ByteArray) (A1 : Option Addr) (c1 : Nat) (u : List S40) (fr ep : Int) (s : ByteArray) (w : World) (hr0 : Kd.C Kd.string w A0 l.length l) (hc0 : l.length ≤ c0) (hr1 : Kd.C k40 w A1 u.length u) (hc1 : u.length ≤ c1) (he : openE l u fr ep = 0) (R : List ByteArray × List S40 × Int) (hR : R = appendV l u fr ep s) :
    Calls Try.prog 31 #[.agg #[.slice A0 l.length c0, .slice A1 u.length c1], .int .i64 fr, .int .i64 ep, .string s] w (AppPost w R.1 R.2.1 R.2.2) := by
  have HB0 := Aside0.mk (((Below.refl w.heap.size w).alloc (Nat.le_refl _) (.cells #[.slice A0 l.length c0, .slice A1 u.length c1] 25)).alloc (by simp) (.cells #[.slice none 0 0, .slice none 0 0] 25))
  have HD0 := Aside0.mk (blk_alloc (blk_new w (.cells #[.slice A0 l.length c0, .slice A1 u.length c1] 25)) (.cells #[.slice none 0 0, .slice none 0 0] 25))
  have HZ0 := Aside0.mk (show ((w.alloc (.cells #[.slice A0 l.length c0, .slice A1 u.length c1] 25)).alloc (.cells #[.slice none 0 0, .slice none 0 0] 25)).heap[w.heap.size + 1]? = some (.cells #[.slice none 0 0, .slice none 0 0] 25 (0, 0)) by have h_ := blk_new (w.alloc (.cells #[.slice A0 l.length c0, .slice A1 u.length c1] 25)) (.cells #[.slice none 0 0, .slice none 0 0] 25); rw [World.size_alloc] at h_; exact h_)
  have HOP := Aside0.mk (wal_open.calls 1 A0 c0 l A1 c1 u fr ep (openE l u fr ep) ((w.alloc (.cells #[.slice A0 l.length c0, .slice A1 u.length c1] 25)).alloc (.cells #[.slice none 0 0, .slice none 0 0] 25)) (Kd.C_below hr0 HB0.out) hc0 (Kd.C_below hr1 HB0.out) hc1 (open_e 0 _ _ _ _))
  obtain ⟨hck, hf0, hf1, he0, he1⟩ := openE_ok he
  obtain ⟨X, hX⟩ : ∃ X, X = recsV ep 0 ((contV l u).drop fr.toNat) := ⟨_, rfl⟩
  unfold appendV at hR
  rw [if_neg (fun q => q he), ← hX] at hR
  rw [he] at HOP
  have hl200 := (check_len hck).2.1
  have hX200 : X.length ≤ 200 := by
    have h3 := recsV_len ep ((contV l u).drop fr.toNat) 0
    have h4 : (contV l u).length = l.length := applyW_length _ _ _ _
    rw [← hX, List.length_drop] at h3
    omega
  have HRC := Aside0.mk (fun W => show Calls Try.prog _ _ W _ by have h_ := (callsIn_wide (n := 3)).1 (wal_records_in 3 A0 l.length c0 A1 u.length c1 fr ep W); exact h_)
  have hcf := enters_of Try.func62 (by kernel_rfl) rfl
  have HIT := Aside0.mk (fun (W : World) (B lo Bd Bf Be : Nat) (J Jx : List ByteArray → World → Prop) hW hst hJ hY hBd hBf hBe h0 => wal_records1_in 8 (by omega) w A0 c0 l A1 c1 u hr0 hc0 hr1 hc1 fr ep hck hf0 hf1 B lo Bd Bf Be J Jx W hW hst hJ hY hBd hBf hBe h0)
  rw [← hX] at HIT
  have HWR := Aside0.mk (fun (W : World) (hb : Below w.heap.size w W) (at_ : Int) (f : ByteArray) (b' : List ByteArray) (u' : List S40) (e' : Int) (hw : writeV l u at_ f = (b', u', e')) => disk_Write.calls A0 c0 l A1 c1 u at_ f b' u' e' W (Kd.C_below hr0 hb) hc0 (Kd.C_below hr1 hb) hc1 (congrArg some hw))
  have HRQ := Aside0.mk hR
  clear hr0 hr1 hck he hX hR
  refine (callsIn_wide (n := 9)).1 (callsIn_of_wp_marks Try.func31 rfl trivial (wpIn_mono ((wpIn_wide (n := 9)).2 ?_) (calmQ_le _)) rfl)
  simp only [Try.ntmps31, List.size_toArray, List.length_cons, List.length_nil, Nat.reduceAdd, Nat.reduceSub, Array.replicate_succ, Array.replicate_zero, List.push_toArray, List.append_toArray, List.nil_append, List.cons_append]
  go_wp2_with (first | (go_at_call 50; (with_reducible refine HOP.out.mono ?_); rintro e w1 ⟨rfl, hb⟩; have HB1 := Aside0.mk (HB0.out.trans (hb.mono HB0.out.size)); have HD1 := Aside0.mk (blk_below HD0.out hb); have HZ1 := Aside0.mk (blk_below HZ0.out hb); clear hb; have HD1a := blk_alloc HD1.out (.cells #[.int .i64 ep, .int .i64 0] 75); have d0 := blk_cell HD1a 0; have d1 := blk_cell HD1a 1; simp only [List.getElem?_toArray, List.getElem?_cons_zero, List.getElem?_cons_succ] at d0 d1; clear HD1a) | (go_at_call 52; (with_reducible refine (HRC.out _).mono ?_); rintro e w2 ⟨rfl, hw2⟩; have HX := Aside0.mk (show Below w1.heap.size w1 w2 by rw [hw2]; exact ((((Below.refl _ w1).alloc (Nat.le_refl _) _).alloc (by simp) _).alloc (by simp; omega) _).alloc (by simp; omega) _); have HAM := Aside0.mk (show ApMem w #[.slice A0 l.length c0, .slice A1 u.length c1] w1.heap.size ep 0 w2 by rw [hw2]; exact ⟨blk_alloc (blk_alloc (blk_alloc (blk_alloc HD1.out _) _) _) _, blk_alloc (blk_alloc (blk_alloc (blk_alloc HZ1.out _) _) _) _, blk_alloc (blk_alloc (blk_alloc (blk_new w1 _) _) _) _, (((HB1.out.alloc HB1.out.size _).alloc (by have := HB1.out.size; simp; omega) _).alloc (by have := HB1.out.size; simp; omega) _).alloc (by have := HB1.out.size; simp; omega) _⟩); have HBD := Aside0.mk (show w2.heap[w1.heap.size + 1]? = some (.cells #[.slice A0 l.length c0, .slice A1 u.length c1] 25 (0, 0)) by rw [hw2]; have h_ := blk_new (w1.alloc (.cells #[.int .i64 ep, .int .i64 0] 75)) (.cells #[.slice A0 l.length c0, .slice A1 u.length c1] 25); rw [World.size_alloc] at h_; exact blk_alloc (blk_alloc h_ _) _); have HBF := Aside0.mk (show Boxed w2 (w1.heap.size + 1 + 1) 3 (.int .i64 fr) by rw [hw2]; have h_ := rec_box1 (w1.alloc (.cells #[.int .i64 ep, .int .i64 0] 75)) (.cells #[.slice A0 l.length c0, .slice A1 u.length c1] 25) (.int .i64 fr) (.cells #[.int .i64 ep] 3); rw [World.size_alloc] at h_; exact h_); have HBE := Aside0.mk (show Boxed w2 (w1.heap.size + 1 + 1 + 1) 3 (.int .i64 ep) by rw [hw2]; have h_ := rec_box2 (w1.alloc (.cells #[.int .i64 ep, .int .i64 0] 75)) (.cells #[.slice A0 l.length c0, .slice A1 u.length c1] 25) (.cells #[.int .i64 fr] 3) (.int .i64 ep); rw [World.size_alloc] at h_; exact h_); have HS2 := Aside0.mk (show w1.heap.size + 4 ≤ w2.heap.size by rw [hw2]; simp); clear hw2 d0 d1))
  refine (wpIn_wide (n := 9)).1 ?_
  have HSZ := Aside0.mk (show w.heap.size + 2 ≤ w1.heap.size by have h_ := HB0.out; have h2_ := blk_lt HZ1.out; omega)
  have hseq : SeqSt (9 - 1) Try.prog 62 #[.pointer (some ⟨w1.heap.size + 1, 0, none⟩), .pointer (some ⟨w1.heap.size + 1 + 1, 0, none⟩), .pointer (some ⟨w1.heap.size + 1 + 1 + 1, 0, none⟩)] (fun x : ByteArray => #[Value.string x]) (KeepOwn w1.heap.size) (fun xs => xs = X) (StW w1.heap.size (w1.heap.size + 1 + 1 + 1)) 200 w2 := by
    intro lo J Jx W hb hst hJ _ hY h0
    exact HIT.out W w1.heap.size lo (w1.heap.size + 1) (w1.heap.size + 1 + 1) (w1.heap.size + 1 + 1 + 1) J Jx (HAM.out.bel.trans (hb.mono HAM.out.bel.size)) hst hJ hY (blk_below HBD.out hb) ((hb.block _ HBF.out.lt).trans HBF.out) ((hb.block _ HBE.out.lt).trans HBE.out) h0
  refine wpIn_rangeSt (n := 9) (by omega) (gf := 62) (lb := #[.pointer (some ⟨w1.heap.size + 1, 0, none⟩), .pointer (some ⟨w1.heap.size + 1 + 1, 0, none⟩), .pointer (some ⟨w1.heap.size + 1 + 1 + 1, 0, none⟩)]) rfl hcf hseq ?hst (fun h k => h.trans k) ?hkb (Below.refl _ _) (fun _ => rfl)
    (fun pre W => ApMem w #[.slice A0 l.length c0, .slice A1 u.length c1] w1.heap.size ep (pre.length : Int) W) (fun _ _ _ => False) (ApMem.own HAM.out.bel.size) (fun _ _ _ _ _ hs _ _ => hs) HAM.out ?round ?done ?stop
  case hst =>
    intro W' hb
    have hm := blk_below HAM.out.m hb
    have hs := hb.size
    have h4 := HS2.out
    exact ⟨by omega, fun q => by have := own_mark hm q; omega, fun k q => by have := own_mark hm q; omega⟩
  case hkb => exact fun W l o o' hl h ho _ => KeepOwn.putObj o' h ho (by have := HS2.out; omega)
  case stop => exact fun _ _ _ _ _ h _ => h.elim
  case round =>
    clear hseq
    intro lo pre x W hm hlt
    rw [zip1w]
    simp only [List.setIfInBounds_toArray, List.set_cons_zero, List.set_cons_succ]
    gi_wp2
    refine ⟨trivial, fun W2 hm => ?_⟩
    have c1_ := blk_cell hm.m 1
    have f1_ := blk_frozen hm.m 1
    simp only [List.getElem?_toArray, List.getElem?_cons_zero, List.getElem?_cons_succ] at c1_
    have HM := Aside0.mk hm
    clear hm
    gi_wp2
    refine ⟨(KeepsOthers.setCell _ _ _).from _, keepOwn_mark HM.out.m _, ?_⟩
    have hd := blk_far HM.out.d (p := ⟨w1.heap.size, 1, none⟩) (by have := HSZ.out; show w.heap.size ≠ w1.heap.size; omega) (.int .i64 ((pre.length : Int) + 1))
    have hz := blk_far HM.out.z (p := ⟨w1.heap.size, 1, none⟩) (by have := HSZ.out; show w.heap.size + 1 ≠ w1.heap.size; omega) (.int .i64 ((pre.length : Int) + 1))
    have hmm := blk_set HM.out.m 1 (.int .i64 ((pre.length : Int) + 1))
    show ApMem w #[.slice A0 l.length c0, .slice A1 u.length c1] w1.heap.size ep ((pre ++ [x]).length : Int) _
    rw [show ((pre ++ [x]).length : Int) = (pre.length : Int) + 1 by rw [List.length_append]; simp]
    exact ⟨hd, hz, hmm, HM.out.bel.setCell (p := ⟨w1.heap.size, 1, none⟩) (by have := HSZ.out; show w.heap.size ≤ w1.heap.size; omega) _⟩
  case done =>
    clear hseq
    rintro D_ ys W hD hys hm hK
    obtain rfl : ys = X := hys
    replace hm : ApMem w #[.slice A0 l.length c0, .slice A1 u.length c1] w1.heap.size ep (ys.length : Int) W := hm
    have hD5 : w.heap.size + 2 ≤ D_ := by have h1 := HSZ.out; have h2 := HS2.out; omega
    have hRR := HRQ.out
    have d0 := blk_cell hm.d 0
    have d1 := blk_cell hm.d 1
    simp only [List.getElem?_toArray, List.getElem?_cons_zero, List.getElem?_cons_succ] at d0 d1
    have m0 := blk_cell hm.m 0
    have m1 := blk_cell hm.m 1
    simp only [List.getElem?_toArray, List.getElem?_cons_zero, List.getElem?_cons_succ] at m0 m1
    have z0 := blk_cell hm.z 0
    have z1 := blk_cell hm.z 1
    have fz0 := blk_frozen hm.z 0
    have fz1 := blk_frozen hm.z 1
    simp only [List.getElem?_toArray, List.getElem?_cons_zero, List.getElem?_cons_succ] at z0 z1
    have k1_ : -9223372036854775808 ≤ fr + (ys.length : Int) := by omega
    have k2_ : fr + (ys.length : Int) ≤ 9223372036854775807 := by omega
    by_cases hs : 200 < s.size
    · rw [if_pos hs] at hRR
      subst hRR
      simp only
      have e1 : decide ((200 : Int) < (s.size : Int)) = true := decide_eq_true (by omega)
      have e2 : decide (200 < s.size) = true := decide_eq_true hs
      have HZ9 := blk_set (blk_set hm.z 0 (.slice none 0 0)) 1 (.slice none 0 0)
      have HB9 := (hm.bel.setCell (p := ⟨w.heap.size + 1, 0, none⟩) (by show w.heap.size ≤ w.heap.size + 1; omega) (.slice none 0 0)).setCell (p := ⟨w.heap.size + 1, 1, none⟩) (by show w.heap.size ≤ w.heap.size + 1; omega) (.slice none 0 0)
      have hK9 := (Below.heap_setCell (W.setCell ⟨w.heap.size + 1, 0, none⟩ (.slice none 0 0)) ⟨w.heap.size + 1, 1, none⟩ (.slice none 0 0) D_ (by show D_ ≠ w.heap.size + 1; omega)).trans ((Below.heap_setCell W ⟨w.heap.size + 1, 0, none⟩ (.slice none 0 0) D_ (by show D_ ≠ w.heap.size + 1; omega)).trans hK)
      clear hs hm
      go_wp2
      obtain ⟨g_, hpost⟩ := app_shut (er := 2) hD5 hK9 HZ9 (Kd.R_nil Kd.string 9 _ w.heap.size (fun _ => True)) (Kd.R_nil k40 40 _ w.heap.size (fun _ => True)) HB9
      have g0 := blk_cell g_ 0
      have g1 := blk_cell g_ 1
      simp only [List.getElem?_toArray, List.getElem?_cons_zero, List.getElem?_cons_succ] at g0 g1
      refine ⟨by simp, .inl ⟨_, _, rfl, run_takeDeferred hK9, ?_⟩⟩
      refine ⟨.tuple #[.agg #[.slice none 0 0, .slice none 0 0], .int .i64 2], ?_, hpost⟩
      simp [results, Try.results31, go_sem, g0, g1]
    rw [if_neg hs] at hRR
    have e1 : decide ((200 : Int) < (s.size : Int)) = false := decide_eq_false (by omega)
    have e2 : decide (200 < s.size) = false := decide_eq_false hs
    have hwf : wrap64 (fr + (ys.length : Int)) = fr + (ys.length : Int) := wrap_at k1_ k2_
    by_cases hsp : (l.length : Int) ≤ fr + (ys.length : Int)
    · rw [if_pos hsp] at hRR
      subst hRR
      simp only
      have e3 : decide ((l.length : Int) ≤ fr + (ys.length : Int)) = true := decide_eq_true hsp
      have HZ9 := blk_set (blk_set hm.z 0 (.slice none 0 0)) 1 (.slice none 0 0)
      have HB9 := (hm.bel.setCell (p := ⟨w.heap.size + 1, 0, none⟩) (by show w.heap.size ≤ w.heap.size + 1; omega) (.slice none 0 0)).setCell (p := ⟨w.heap.size + 1, 1, none⟩) (by show w.heap.size ≤ w.heap.size + 1; omega) (.slice none 0 0)
      have hK9 := (Below.heap_setCell (W.setCell ⟨w.heap.size + 1, 0, none⟩ (.slice none 0 0)) ⟨w.heap.size + 1, 1, none⟩ (.slice none 0 0) D_ (by show D_ ≠ w.heap.size + 1; omega)).trans ((Below.heap_setCell W ⟨w.heap.size + 1, 0, none⟩ (.slice none 0 0) D_ (by show D_ ≠ w.heap.size + 1; omega)).trans hK)
      clear hs hm hsp
      go_wp2
      obtain ⟨g_, hpost⟩ := app_shut (er := 41) hD5 hK9 HZ9 (Kd.R_nil Kd.string 9 _ w.heap.size (fun _ => True)) (Kd.R_nil k40 40 _ w.heap.size (fun _ => True)) HB9
      have g0 := blk_cell g_ 0
      have g1 := blk_cell g_ 1
      simp only [List.getElem?_toArray, List.getElem?_cons_zero, List.getElem?_cons_succ] at g0 g1
      refine ⟨by simp, .inl ⟨_, _, rfl, run_takeDeferred hK9, ?_⟩⟩
      refine ⟨.tuple #[.agg #[.slice none 0 0, .slice none 0 0], .int .i64 41], ?_, hpost⟩
      simp [results, Try.results31, go_sem, g0, g1]
    rw [if_neg hsp] at hRR
    have e3 : decide ((l.length : Int) ≤ fr + (ys.length : Int)) = false := decide_eq_false hsp
    have HSS := Aside0.mk hs
    clear hs hsp z0 z1 fz0 fz1
    go_wp2
    obtain ⟨f, hf⟩ : ∃ f, f = frameOf ((numStr ep ++ numStr (ys.length : Int)) ++ s) := ⟨_, rfl⟩
    obtain ⟨b', u', e', hwv⟩ : ∃ b' u' e', writeV l u (fr + (ys.length : Int)) f = (b', u', e') := ⟨_, _, _, rfl⟩
    rw [← hf, hwv] at hRR
    subst hRR
    simp only
    have HMP := Aside0.mk (fun W => wal_mark_put.calls ep (ys.length : Int) s f W (by rw [hf]; exact put_mark he0 he1 (by omega) (by omega) (by have := HSS.out; omega)))
    have HWV := Aside0.mk hwv
    have HD_10 := Aside0.mk (blk_drew hm.d)
    have HM_10 := Aside0.mk (blk_drew hm.m)
    have HZ_10 := Aside0.mk (blk_drew hm.z)
    have B_10 := Aside0.mk (below_drew1 hm.bel)
    have HK_10 := Aside0.mk (show W.drew.heap[D_]? = some (.deferred (some [])) from hK)
    have hw1 : IntKind.i64.wrap (fr + (ys.length : Int)) = fr + (ys.length : Int) := by rw [i64_w]; exact hwf
    clear hf hwv hm hK d0 d1 m0 m1
    refine start_ (n := 13) (S := fun w' => w'.cell? ⟨w.heap.size, 0, none⟩ = some (.slice A0 l.length c0) ∧ w'.cell? ⟨w.heap.size, 1, none⟩ = some (.slice A1 u.length c1) ∧ w'.cell? ⟨w1.heap.size, 0, none⟩ = some (.int .i64 ep) ∧ w'.cell? ⟨w1.heap.size, 1, none⟩ = some (.int .i64 (ys.length : Int))) (ds := [11]) #[false, false, false, false, false, false, false, false, false, false, false, false, false] (by kernel_rfl) rfl rfl ⟨(blk_cell HD_10.out 0).trans rfl, (blk_cell HD_10.out 1).trans rfl, (blk_cell HM_10.out 0).trans rfl, (blk_cell HM_10.out 1).trans rfl⟩ (fun hHeld => ?_)
    generalize World.drew W = w10 at HD_10 HM_10 HZ_10 B_10 HK_10 hHeld ⊢
    refine pure_ (i := 1) (N := some 47) (v := ?_) (a' := ?_) #[false, true, false, false, false, false, false, false, false, false, false, false, false] rfl rfl (by kernel_rfl) (fun _ _ _ h => h) (Or.inl ⟨by rfl, ?_⟩) ?_ ?_
    rotate_left
    · intro w'
      go_simp
      with_reducible rfl
    rotate_left
    · simp only [Act.put, List.setIfInBounds_toArray, List.set_cons_zero, List.set_cons_succ, i64_w, i32_w]
      rfl
    refine pure_ (i := 2) (N := some 48) (v := ?_) (a' := ?_) #[false, true, true, false, false, false, false, false, false, false, false, false, false] rfl rfl (by kernel_rfl) (fun _ _ _ h => h) (Or.inl ⟨by rfl, ?_⟩) ?_ ?_
    rotate_left
    · intro w'
      go_simp
      with_reducible rfl
    rotate_left
    · simp only [Act.put, List.setIfInBounds_toArray, List.set_cons_zero, List.set_cons_succ, i64_w, i32_w]
      rfl
    refine pure_ (i := 6) (N := some 52) (v := ?_) (a' := ?_) #[false, true, true, false, false, false, true, false, false, false, false, false, false] rfl rfl (by kernel_rfl) (fun _ _ _ h => h) (Or.inl ⟨by rfl, ?_⟩) ?_ ?_
    rotate_left
    · intro w'
      go_simp
      with_reducible rfl
    rotate_left
    · simp only [Act.put, List.setIfInBounds_toArray, List.set_cons_zero, List.set_cons_succ, i64_w, i32_w]
      rfl
    refine take_ (i := 0) (N := some 46) (v := ?_) (a' := ?_) #[true, true, true, false, false, false, true, false, false, false, false, false, false] rfl rfl (by kernel_rfl) (fun _ _ _ h => h) (Or.inl ⟨by rfl, ?_⟩) hHeld ?_ ?_
    rotate_left
    · rintro w' ⟨s0, s1, s2, s3⟩
      go_simp
      with_reducible rfl
    rotate_left
    · simp only [Act.put, List.setIfInBounds_toArray, List.set_cons_zero, List.set_cons_succ, i64_w, i32_w]
      rfl
    refine take_ (i := 3) (N := some 49) (v := ?_) (a' := ?_) #[true, true, true, true, false, false, true, false, false, false, false, false, false] rfl rfl (by kernel_rfl) (fun _ _ _ h => h) (Or.inl ⟨by rfl, ?_⟩) hHeld ?_ ?_
    rotate_left
    · rintro w' ⟨s0, s1, s2, s3⟩
      go_simp
      with_reducible rfl
    rotate_left
    · simp only [Act.put, List.setIfInBounds_toArray, List.set_cons_zero, List.set_cons_succ, i64_w, i32_w]
      rfl
    refine pure_ (i := 4) (N := some 50) (v := ?_) (a' := ?_) #[true, true, true, true, true, false, true, false, false, false, false, false, false] rfl rfl (by kernel_rfl) (fun _ _ _ h => h) (Or.inl ⟨by rfl, ?_⟩) ?_ ?_
    rotate_left
    · intro w'
      go_simp
      with_reducible rfl
    rotate_left
    · simp only [Act.put, List.setIfInBounds_toArray, List.set_cons_zero, List.set_cons_succ, i64_w, i32_w]
      rfl
    refine take_ (i := 5) (N := some 51) (v := ?_) (a' := ?_) #[true, true, true, true, true, true, true, false, false, false, false, false, false] rfl rfl (by kernel_rfl) (fun _ _ _ h => h) (Or.inl ⟨by rfl, ?_⟩) hHeld ?_ ?_
    rotate_left
    · rintro w' ⟨s0, s1, s2, s3⟩
      go_simp
      with_reducible rfl
    rotate_left
    · simp only [Act.put, List.setIfInBounds_toArray, List.set_cons_zero, List.set_cons_succ, i64_w, i32_w]
      rfl
    refine one_ (i := 7) (N := some 53) #[true, true, true, true, true, true, true, true, false, false, false, false, false] rfl rfl (by kernel_rfl) (by decide) (fun K hK => ?_)
    refine goes_ Try.func55 (by kernel_rfl) rfl #[.agg #[.int .i64 ep, .int .i64 (ys.length : Int)], .string s] (by rfl) rfl rfl (by (try simp only [List.map_toArray, List.map_cons, List.map_nil]); first | done | rfl) ?_
    refine (HMP.out w10).mono ?_
    rintro e w11 ⟨rfl, hb⟩
    refine ⟨_, rfl, ?_⟩
    have HD_11 := Aside0.mk (blk_below HD_10.out hb)
    have HM_11 := Aside0.mk (blk_below HM_10.out hb)
    have HZ_11 := Aside0.mk (blk_below HZ_10.out hb)
    have B_11 := Aside0.mk (B_10.out.trans (hb.mono B_10.out.size))
    have HK_11 := Aside0.mk ((hb.block D_ (Array.getElem?_eq_some_iff.1 HK_10.out).1).trans HK_10.out)
    clear hb
    refine hK.out _ _ ⟨(blk_cell HD_11.out 0).trans rfl, (blk_cell HD_11.out 1).trans rfl, (blk_cell HM_11.out 0).trans rfl, (blk_cell HM_11.out 1).trans rfl⟩ (fun hHeld => ?_)
    clear hK K
    refine norm_ (a' := ?_) ?_ ?_
    rotate_left
    · show Act.put _ (some 53) _ = _
      simp only [Act.put, List.setIfInBounds_toArray, List.set_cons_zero, List.set_cons_succ, i64_w, i32_w]
      rfl
    refine one_ (i := 8) (N := some 54) #[true, true, true, true, true, true, true, true, true, false, false, false, false] rfl rfl (by kernel_rfl) (by decide) (fun K hK => ?_)
    refine goes_ Try.func13 (by kernel_rfl) rfl #[.agg #[.slice A0 l.length c0, .slice A1 u.length c1], .int .i64 (fr + (ys.length : Int)), .string f] (by rfl) rfl rfl (by (try simp only [List.map_toArray, List.map_cons, List.map_nil]); first | done | rfl) ?_
    refine (HWR.out w11 B_11.out (fr + (ys.length : Int)) f b' u' e' HWV.out).mono ?_
    rintro e w12 ⟨v0, v1, rfl, hR0, hR1, hb⟩
    refine ⟨_, rfl, ?_⟩
    obtain ⟨A4, c4, rfl⟩ := Kd.R_slice hR0
    obtain ⟨A5, c5, rfl⟩ := Kd.R_slice hR1
    have HP12 := Aside0.mk (Kd.R_lower hR0 B_11.out.size)
    have HQ12 := Aside0.mk (Kd.R_lower hR1 B_11.out.size)
    have HD_12 := Aside0.mk (blk_below HD_11.out hb)
    have HM_12 := Aside0.mk (blk_below HM_11.out hb)
    have HZ_12 := Aside0.mk (blk_below HZ_11.out hb)
    have B_12 := Aside0.mk (B_11.out.trans (hb.mono B_11.out.size))
    have HK_12 := Aside0.mk ((hb.block D_ (Array.getElem?_eq_some_iff.1 HK_11.out).1).trans HK_11.out)
    clear hb hR0 hR1
    have z0 := blk_cell HZ_12.out 0
    have z1 := blk_cell HZ_12.out 1
    have fz0 := blk_frozen HZ_12.out 0
    have fz1 := blk_frozen HZ_12.out 1
    refine hK.out _ _ ⟨(blk_cell HD_12.out 0).trans rfl, (blk_cell HD_12.out 1).trans rfl, (blk_cell HM_12.out 0).trans rfl, (blk_cell HM_12.out 1).trans rfl⟩ (fun hHeld => ?_)
    clear hK K
    refine norm_ (a' := ?_) ?_ ?_
    rotate_left
    · show Act.put _ (some 54) _ = _
      simp only [Act.put, List.setIfInBounds_toArray, List.set_cons_zero, List.set_cons_succ, i64_w, i32_w]
      rfl
    refine pure_ (i := 9) (N := some 55) (v := ?_) (a' := ?_) #[true, true, true, true, true, true, true, true, true, true, false, false, false] rfl rfl (by kernel_rfl) (fun _ _ _ h => h) (Or.inl ⟨by rfl, ?_⟩) ?_ ?_
    rotate_left
    · intro w'
      go_simp
      with_reducible rfl
    rotate_left
    · simp only [Act.put, List.setIfInBounds_toArray, List.set_cons_zero, List.set_cons_succ, i64_w, i32_w]
      rfl
    refine pure_ (i := 10) (N := some 56) (v := ?_) (a' := ?_) #[true, true, true, true, true, true, true, true, true, true, true, false, false] rfl rfl (by kernel_rfl) (fun _ _ _ h => h) (Or.inl ⟨by rfl, ?_⟩) ?_ ?_
    rotate_left
    · intro w'
      go_simp
      with_reducible rfl
    rotate_left
    · simp only [Act.put, List.setIfInBounds_toArray, List.set_cons_zero, List.set_cons_succ, i64_w, i32_w]
      rfl
    refine last_ (i := 11) (N := none) #[true, true, true, true, true, true, true, true, true, true, true, true, false] rfl rfl (by kernel_rfl) (by decide) (fun K hK => ?_)
    refine skip_ (w1 := ?_) (by rfl) rfl ?_ ?_
    rotate_left
    · go_simp
      rfl
    refine hK.out _ _ ?_
    clear hK K
    refine pure_ (i := 12) (N := some 9) (v := ?_) (a' := ?_) #[true, true, true, true, true, true, true, true, true, true, true, true, true] rfl rfl (by kernel_rfl) (fun _ _ _ h => h) (Or.inl ⟨by rfl, ?_⟩) ?_ ?_
    rotate_left
    · intro w'
      go_simp
      with_reducible rfl
    rotate_left
    · simp only [Act.put, List.setIfInBounds_toArray, List.set_cons_zero, List.set_cons_succ, i64_w, i32_w]
      rfl
    refine done_ (by kernel_rfl) ?_
    have HZ13 := blk_set (blk_set HZ_12.out 0 (.slice A4 b'.length c4)) 1 (.slice A5 u'.length c5)
    have HP13 := Kd.R_set (Kd.R_set HP12.out HZ_12.out (by intro q hq; simp [Kd.iso, Kd.pair, Kd.int, Kd.string, Kd.scalar] at hq; subst hq; decide) 0 (.slice A4 b'.length c4)) (blk_set HZ_12.out 0 (.slice A4 b'.length c4)) (by intro q hq; simp [Kd.iso, Kd.pair, Kd.int, Kd.string, Kd.scalar] at hq; subst hq; decide) 1 (.slice A5 u'.length c5)
    have HQ13 := Kd.R_set (Kd.R_set HQ12.out HZ_12.out (by intro q hq; simp [k40, Kd.iso, Kd.pair, Kd.int, Kd.string, Kd.scalar] at hq; subst hq; decide) 0 (.slice A4 b'.length c4)) (blk_set HZ_12.out 0 (.slice A4 b'.length c4)) (by intro q hq; simp [k40, Kd.iso, Kd.pair, Kd.int, Kd.string, Kd.scalar] at hq; subst hq; decide) 1 (.slice A5 u'.length c5)
    have HB13 := (B_12.out.setCell (p := ⟨w.heap.size + 1, 0, none⟩) (by show w.heap.size ≤ w.heap.size + 1; omega) (.slice A4 b'.length c4)).setCell (p := ⟨w.heap.size + 1, 1, none⟩) (by show w.heap.size ≤ w.heap.size + 1; omega) (.slice A5 u'.length c5)
    have HK13 := (Below.heap_setCell (w12.setCell ⟨w.heap.size + 1, 0, none⟩ (.slice A4 b'.length c4)) ⟨w.heap.size + 1, 1, none⟩ (.slice A5 u'.length c5) D_ (by show D_ ≠ w.heap.size + 1; omega)).trans ((Below.heap_setCell w12 ⟨w.heap.size + 1, 0, none⟩ (.slice A4 b'.length c4) D_ (by show D_ ≠ w.heap.size + 1; omega)).trans HK_12.out)
    obtain ⟨g_, hpost⟩ := app_shut (er := e') hD5 HK13 HZ13 HP13 HQ13 HB13
    have g0 := blk_cell g_ 0
    have g1 := blk_cell g_ 1
    simp only [List.getElem?_toArray, List.getElem?_cons_zero, List.getElem?_cons_succ] at g0 g1
    clear HZ13 HP13 HQ13 HB13 g_
    go_wp2
    refine ⟨by simp, .inl ⟨_, _, rfl, run_takeDeferred HK13, ?_⟩⟩
    refine ⟨.tuple #[.agg #[.slice A4 b'.length c4, .slice A5 u'.length c5], .int .i64 e'], ?_, hpost⟩
    simp [results, Try.results31, go_sem, g0, g1]
theorem wal_Append.calls (A0_0 : Option Addr) (c0_0 : Nat) (l0_0 : List ByteArray) (A0_1 : Option Addr) (c0_1 : Nat) (l0_1 : List S40) (a1 : Int) (a2 : Int) (a3 : ByteArray) (r1 : List ByteArray) (r2 : List S40) (r3 : Int) (w : World) (hr0_0 : Kd.C Kd.string w A0_0 l0_0.length l0_0) (hc0_0 : l0_0.length ≤ c0_0) (hr0_1 : Kd.C k40 w A0_1 l0_1.length l0_1) (hc0_1 : l0_1.length ≤ c0_1) (h : wal_Append.f l0_0 l0_1 a1 a2 a3 = some (r1, r2, r3)) :
    Calls Try.prog 31 #[.agg #[.slice A0_0 l0_0.length c0_0, .slice A0_1 l0_1.length c0_1], .int .i64 a1, .int .i64 a2, .string a3] w fun e w' => ∃ v0_ v1_ : Value, e = .returned (.tuple #[.agg #[v0_, v1_], .int .i64 r3]) ∧ Kd.R Kd.string 9 w' w.heap.size (fun _ => True) v0_ r1 ∧ Kd.R k40 40 w' w.heap.size (fun _ => True) v1_ r2 ∧ Below w.heap.size w w' := by
  have hv : appendV l0_0 l0_1 a1 a2 a3 = (r1, r2, r3) := by simpa [wal_Append.f] using h
  by_cases he : openE l0_0 l0_1 a1 a2 = 0
  · exact wal_Append_F A0_0 c0_0 l0_0 A0_1 c0_1 l0_1 a1 a2 a3 w hr0_0 hc0_0 hr0_1 hc0_1 he (r1, r2, r3) hv.symm
  · have h2 := wal_Append_E A0_0 c0_0 l0_0 A0_1 c0_1 l0_1 a1 a2 a3 w hr0_0 hc0_0 hr0_1 hc0_1 he
    unfold appendV at hv
    rw [if_pos he] at hv
    simp only [Prod.mk.injEq] at hv
    obtain ⟨e1, e2, e3⟩ := hv
    rw [e3] at h2
    rw [← e1, ← e2]
    exact h2
end Go.Proofs.Ytoibofhmlokglaa.P
-- Written by a program of this session (xprint.py) over the kit's print.py.
namespace Go.Proofs.Ytoibofhmlokglaa.P
open Go.RowKit Go.Proofs.YtoibofhmlokglaaW.PrintWords Go.Proofs.YtoibofhmlokglaaW.PrintLast Go.Proofs.YtoibofhmlokglaaW.PrintMore
attribute [local go_sem] max2_int min2_int max_two min_two max_three min_three max_four min_four   -- for this text's walks alone
set_option linter.unusedVariables false
set_option linter.unusedSimpArgs false

/-! ### disk_New: function 21 -/
def disk_New.f (a0 : Int) : Option (List ByteArray × (List (S40)) × Int) := if a0 < 1 then (some (([] : List ByteArray), ([] : List (S40)), 1)) else (if a0 > 200 then (some (([] : List ByteArray), ([] : List (S40)), 1)) else (if 0 ≤ a0 then (if (a0 : Int).toNat ≤ 17592186044416 then (some ((List.replicate (a0 : Int).toNat (⟨#[]⟩ : ByteArray)), ([] : List (S40)), 0)) else (none)) else (none)))
set_option maxHeartbeats 8000000 in
set_option maxRecDepth 100000 in
theorem disk_New.calls (a0 : Int) (r1 : List ByteArray) (r2 : List (S40)) (r3 : Int) (w : World) (h : disk_New.f a0 = some (r1, r2, r3)) :
    Calls Try.prog 21 #[.int .i64 a0] w fun e w' => ∃ v0_ v1_ : Value, e = .returned (.tuple #[.agg #[v0_, v1_], .int .i64 r3]) ∧ Kd.R Kd.string 9 w' w.heap.size (fun _ => True) v0_ r1 ∧ Kd.R k40 40 w' w.heap.size (fun _ => True) v1_ r2 ∧ Below w.heap.size w w' := by
  have hu25 := Try.underlying25
  have HB := Aside0.mk (Below.refl w.heap.size w)
  have H : (if a0 < 1 then (some (([] : List ByteArray), ([] : List (S40)), 1)) else (if a0 > 200 then (some (([] : List ByteArray), ([] : List (S40)), 1)) else (if 0 ≤ a0 then (if (a0 : Int).toNat ≤ 17592186044416 then (some ((List.replicate (a0 : Int).toNat (⟨#[]⟩ : ByteArray)), ([] : List (S40)), 0)) else (none)) else (none)))) = some (r1, r2, r3) := h
  clear h
  by_cases c2 : a0 < 1
  · rw [if_pos c2] at H
    have c2b0 : decide (a0 < 1) = true := decide_eq_true c2
    clear c2
    simp only [Option.some.injEq, Prod.mk.injEq] at H
    obtain ⟨rfl, rfl, rfl⟩ := H
    go_enter Try.func21, Try.ntmps21
    go_wp2_with (first | ((with_reducible refine gate_dst (N := 2) rfl ?_); refine box_event ?hg (N := 2) ?hd (cs := #[.slice none 0 0, .slice none 0 0]) (t := 25) ?hr ?_; (case hd => rfl); (case hg => rfl); (case hr => first | (go_simp; done) | (go_simp; rfl)); intro gb174 hg w3 hbox hb; have n0_ := Aside0.mk (below_step (by repeat (first | (with_reducible first | exact HB.out | apply below_alloc | apply pw_below_drewN | apply below_drew1) | exact HB.out)) hb); have n1_ := Aside0.mk (hbox); have n2_ := Aside0.mk ((by rw [hg]; exact (below_size (by repeat (first | (with_reducible first | exact HB.out | apply below_alloc | apply pw_below_drewN | apply below_drew1) | exact HB.out))) : w.heap.size ≤ gb174)); have n3_ := Aside0.mk ((by rw [hg]; exact (below_size (by repeat (first | (with_reducible first | exact HB.out | apply below_alloc | apply pw_below_drewN | apply below_drew1) | exact HB.out))) : w.heap.size ≤ gb174)); clear HB; have HB := n0_; have BK174 := n1_; have GW174 := n2_; have GE174 := n3_; clear n0_ n1_ n2_ n3_; clear hb hbox hg; have hcz4_0 : w3.cell? ⟨gb174, 0, none⟩ = some (.slice none 0 0) := (blk_cell BK174.out 0).trans rfl; have hcz4_1 : w3.cell? ⟨gb174, 1, none⟩ = some (.slice none 0 0) := (blk_cell BK174.out 1).trans rfl; have hfz4_0 := blk_frozen BK174.out 0; have hfz4_1 := blk_frozen BK174.out 1))
    refine bodyPost_ret (results_ct rfl _ _ gb174 25 #[.slice none 0 0, .slice none 0 0] (0, 0) _ rfl (by (with_reducible repeat (first | refine blk_drewN ?_ _ | refine blk_drew ?_ | refine blk_alloc ?_ _)); refine blk_put (cs := #[.slice none 0 0, .slice none 0 0]) ?_ 1 _ rfl; (with_reducible repeat (first | refine blk_drewN ?_ _ | refine blk_drew ?_ | refine blk_alloc ?_ _)); refine blk_put (cs := #[.slice none 0 0, .slice none 0 0]) ?_ 0 _ rfl; (with_reducible repeat (first | refine blk_drewN ?_ _ | refine blk_drew ?_ | refine blk_alloc ?_ _)); exact BK174.out) Try.underlying25 rfl (by kernel_rfl)) rfl ?_
    exact ⟨_, _, by first | rfl | (simp [errW_none, errW_some] <;> rfl) | (simp [*, errW_none, errW_some] <;> rfl), by first | exact Kd.R_nil _ _ _ _ _ | exact Kd.N_nil _ _ _ _ _ | exact Kd.V_nil _ _ _ _ _ | exact Kd.Q_nil _ _ _ _ _ | exact Kd.S_nil _ _ _ _ _, by first | exact Kd.R_nil _ _ _ _ _ | exact Kd.N_nil _ _ _ _ _ | exact Kd.V_nil _ _ _ _ _ | exact Kd.Q_nil _ _ _ _ _ | exact Kd.S_nil _ _ _ _ _, by repeat (first | (with_reducible first | exact HB.out | apply below_alloc | apply pw_below_drewN | apply below_drew1 | refine below_set ?_ GE174.out) | exact HB.out)⟩
  · rw [if_neg c2] at H
    have c2b0 : decide (a0 < 1) = false := decide_eq_false c2
    clear c2
    by_cases c5 : a0 > 200
    · rw [if_pos c5] at H
      have c5b0 : decide (200 < a0) = true := decide_eq_true c5
      clear c5
      simp only [Option.some.injEq, Prod.mk.injEq] at H
      obtain ⟨rfl, rfl, rfl⟩ := H
      go_enter Try.func21, Try.ntmps21
      go_wp2_with (first | ((with_reducible refine gate_dst (N := 2) rfl ?_); refine box_event ?hg (N := 2) ?hd (cs := #[.slice none 0 0, .slice none 0 0]) (t := 25) ?hr ?_; (case hd => rfl); (case hg => rfl); (case hr => first | (go_simp; done) | (go_simp; rfl)); intro gb174 hg w6 hbox hb; have n0_ := Aside0.mk (below_step (by repeat (first | (with_reducible first | exact HB.out | apply below_alloc | apply pw_below_drewN | apply below_drew1) | exact HB.out)) hb); have n1_ := Aside0.mk (hbox); have n2_ := Aside0.mk ((by rw [hg]; exact (below_size (by repeat (first | (with_reducible first | exact HB.out | apply below_alloc | apply pw_below_drewN | apply below_drew1) | exact HB.out))) : w.heap.size ≤ gb174)); have n3_ := Aside0.mk ((by rw [hg]; exact (below_size (by repeat (first | (with_reducible first | exact HB.out | apply below_alloc | apply pw_below_drewN | apply below_drew1) | exact HB.out))) : w.heap.size ≤ gb174)); clear HB; have HB := n0_; have BK174 := n1_; have GW174 := n2_; have GE174 := n3_; clear n0_ n1_ n2_ n3_; clear hb hbox hg; have hcz7_0 : w6.cell? ⟨gb174, 0, none⟩ = some (.slice none 0 0) := (blk_cell BK174.out 0).trans rfl; have hcz7_1 : w6.cell? ⟨gb174, 1, none⟩ = some (.slice none 0 0) := (blk_cell BK174.out 1).trans rfl; have hfz7_0 := blk_frozen BK174.out 0; have hfz7_1 := blk_frozen BK174.out 1))
      refine bodyPost_ret (results_ct rfl _ _ gb174 25 #[.slice none 0 0, .slice none 0 0] (0, 0) _ rfl (by (with_reducible repeat (first | refine blk_drewN ?_ _ | refine blk_drew ?_ | refine blk_alloc ?_ _)); refine blk_put (cs := #[.slice none 0 0, .slice none 0 0]) ?_ 1 _ rfl; (with_reducible repeat (first | refine blk_drewN ?_ _ | refine blk_drew ?_ | refine blk_alloc ?_ _)); refine blk_put (cs := #[.slice none 0 0, .slice none 0 0]) ?_ 0 _ rfl; (with_reducible repeat (first | refine blk_drewN ?_ _ | refine blk_drew ?_ | refine blk_alloc ?_ _)); exact BK174.out) Try.underlying25 rfl (by kernel_rfl)) rfl ?_
      exact ⟨_, _, by first | rfl | (simp [errW_none, errW_some] <;> rfl) | (simp [*, errW_none, errW_some] <;> rfl), by first | exact Kd.R_nil _ _ _ _ _ | exact Kd.N_nil _ _ _ _ _ | exact Kd.V_nil _ _ _ _ _ | exact Kd.Q_nil _ _ _ _ _ | exact Kd.S_nil _ _ _ _ _, by first | exact Kd.R_nil _ _ _ _ _ | exact Kd.N_nil _ _ _ _ _ | exact Kd.V_nil _ _ _ _ _ | exact Kd.Q_nil _ _ _ _ _ | exact Kd.S_nil _ _ _ _ _, by repeat (first | (with_reducible first | exact HB.out | apply below_alloc | apply pw_below_drewN | apply below_drew1 | refine below_set ?_ GE174.out) | exact HB.out)⟩
    · rw [if_neg c5] at H
      have c5b0 : decide (200 < a0) = false := decide_eq_false c5
      clear c5
      by_cases c8 : 0 ≤ a0
      · rw [if_pos c8] at H
        have c8b0 := eq_true c8
        have c8b1 : decide (0 ≤ a0) = true := decide_eq_true c8
        clear c8
        by_cases c9 : (a0 : Int).toNat ≤ 17592186044416
        · rw [if_pos c9] at H
          have c9b0 := eq_true c9
          have c9b1 : decide ((a0 : Int).toNat ≤ 17592186044416) = true := decide_eq_true c9
          clear c9
          obtain ⟨y175, hy175⟩ : ∃ y_ : List ByteArray, y_ = (List.replicate (a0 : Int).toNat (⟨#[]⟩ : ByteArray)) := ⟨_, rfl⟩
          replace H : (some (y175, ([] : List (S40)), 0)) = some (r1, r2, r3) := by first | (rw [hy175]; with_reducible exact H) | (have H2_ := (Option.bind_some _ _).symm.trans H; rw [hy175]; with_reducible exact H2_) | (have H2_ := (Option.bind_some _ _).symm.trans H; with_reducible exact H2_) | with_reducible exact H | (rw [hy175]; exact H) | exact H
          have Ny175 := Aside0.mk hy175
          clear hy175
          simp only [Option.some.injEq, Prod.mk.injEq] at H
          obtain ⟨rfl, rfl, rfl⟩ := H
          go_enter Try.func21, Try.ntmps21
          go_wp2_with (first | ((with_reducible refine gate_dst (N := 2) rfl ?_); refine box_event ?hg (N := 2) ?hd (cs := #[.slice none 0 0, .slice none 0 0]) (t := 25) ?hr ?_; (case hd => rfl); (case hg => rfl); (case hr => first | (go_simp; done) | (go_simp; rfl)); intro gb174 hg w10 hbox hb; have n0_ := Aside0.mk (below_step (by repeat (first | (with_reducible first | exact HB.out | apply below_alloc | apply pw_below_drewN | apply below_drew1) | exact HB.out)) hb); have n1_ := Aside0.mk (hbox); have n2_ := Aside0.mk ((by rw [hg]; exact (below_size (by repeat (first | (with_reducible first | exact HB.out | apply below_alloc | apply pw_below_drewN | apply below_drew1) | exact HB.out))) : w.heap.size ≤ gb174)); have n3_ := Aside0.mk ((by rw [hg]; exact (below_size (by repeat (first | (with_reducible first | exact HB.out | apply below_alloc | apply pw_below_drewN | apply below_drew1) | exact HB.out))) : w.heap.size ≤ gb174)); clear HB; have HB := n0_; have BK174 := n1_; have GW174 := n2_; have GE174 := n3_; clear n0_ n1_ n2_ n3_; clear hb hbox hg) | ((with_reducible refine gate_dst (N := 12) rfl ?_); refine Kd.R_make Kd.string _ 9 rfl (N := 12) rfl 22 _ _ rfl a0 rfl rfl Try.underlying22 (.string ⟨#[]⟩) 16 info9 rfl (by decide) (by omega) (⟨#[]⟩ : ByteArray) (ok := fun _ => True) (okp := fun _ => True) rfl (fun _ hk => hk) trivial (of_decide_eq_true (by first | (with_reducible assumption) | assumption)) (Nat.le_trans (Nat.mul_le_mul_right _ (of_decide_eq_true (by first | (with_reducible assumption) | assumption) : a0.toNat ≤ 17592186044416)) (by omega)) (Below.refl _ _) (Nat.le_refl _) ?_; intro v176 w11 ho12 hb hg_ hnew_; clear hg_ hnew_; (first | rw [← Ny175.out] at ho12 | (simp only [Int.reduceToNat] at ho12; rw [← Ny175.out] at ho12)); have n0_ := Aside0.mk (Kd.R_lower ho12 (below_size (by repeat (first | (with_reducible first | exact HB.out | apply below_alloc | apply pw_below_drewN | apply below_drew1 | refine below_set ?_ GE174.out) | exact HB.out)))); have n1_ := Aside0.mk (blk_below (g := gb174) (o := .cells #[.slice none 0 0, .slice none 0 0] 25 (0, 0)) (by (with_reducible repeat (first | refine blk_drewN ?_ _ | refine blk_drew ?_ | refine blk_alloc ?_ _)); exact BK174.out) hb); have n2_ := Aside0.mk (below_step (by repeat (first | (with_reducible first | exact HB.out | apply below_alloc | apply pw_below_drewN | apply below_drew1 | refine below_set ?_ GE174.out) | exact HB.out)) hb); clear BK174; clear HB; have HO177 := n0_; have BK174 := n1_; have HB := n2_; clear n0_ n1_ n2_; clear hb ho12; obtain ⟨Ao13, co13, eo13⟩ := Kd.R_slice HO177.out; subst eo13; have hcz14_0 : w11.cell? ⟨gb174, 0, none⟩ = some (.slice none 0 0) := (blk_cell BK174.out 0).trans rfl; have hcz14_1 : w11.cell? ⟨gb174, 1, none⟩ = some (.slice none 0 0) := (blk_cell BK174.out 1).trans rfl; have hfz14_0 := blk_frozen BK174.out 0; have hfz14_1 := blk_frozen BK174.out 1))
          refine bodyPost_ret (results_ct rfl _ _ gb174 25 #[.slice Ao13 y175.length co13, .slice none 0 0] (0, 0) _ rfl (by (with_reducible repeat (first | refine blk_drewN ?_ _ | refine blk_drew ?_ | refine blk_alloc ?_ _)); refine blk_put (cs := #[.slice Ao13 y175.length co13, .slice none 0 0]) ?_ 1 _ rfl; (with_reducible repeat (first | refine blk_drewN ?_ _ | refine blk_drew ?_ | refine blk_alloc ?_ _)); refine blk_put (cs := #[.slice none 0 0, .slice none 0 0]) ?_ 0 _ rfl; (with_reducible repeat (first | refine blk_drewN ?_ _ | refine blk_drew ?_ | refine blk_alloc ?_ _)); exact BK174.out) Try.underlying25 rfl (by kernel_rfl)) rfl ?_
          exact ⟨_, _, by first | rfl | (simp [errW_none, errW_some] <;> rfl) | (simp [*, errW_none, errW_some] <;> rfl), by (with_reducible repeat (first | apply Kd.R_alloc | apply Kd.R_drewN | apply Kd.R_drew)); exact Kd.R_mono (Kd.R_far (p := ⟨gb174, 1, none⟩) (Kd.R_far (p := ⟨gb174, 0, none⟩) (Kd.R_types HO177.out BK174.out (by decide)) (fun _ hk => hk.2) (.slice Ao13 y175.length co13)) (fun _ hk => hk.2) (.slice none 0 0)) (fun _ hk => trivial), by first | exact Kd.R_nil _ _ _ _ _ | exact Kd.N_nil _ _ _ _ _ | exact Kd.V_nil _ _ _ _ _ | exact Kd.Q_nil _ _ _ _ _ | exact Kd.S_nil _ _ _ _ _, by repeat (first | (with_reducible first | exact HB.out | apply below_alloc | apply pw_below_drewN | apply below_drew1 | refine below_set ?_ GE174.out) | exact HB.out)⟩
        · rw [if_neg c9] at H
          exact absurd H (by simp)
      · rw [if_neg c8] at H
        exact absurd H (by simp)

end Go.Proofs.Ytoibofhmlokglaa.P
-- Written by a program of this session (xprint.py) over the kit's print.py.
namespace Go.Proofs.Ytoibofhmlokglaa.P
open Go.RowKit Go.Proofs.YtoibofhmlokglaaW.PrintWords Go.Proofs.YtoibofhmlokglaaW.PrintLast Go.Proofs.YtoibofhmlokglaaW.PrintMore
attribute [local go_sem] max2_int min2_int max_two min_two max_three min_three max_four min_four   -- for this text's walks alone
set_option linter.unusedVariables false
set_option linter.unusedSimpArgs false

/-! ### wal_Room: function 35 -/
def wal_Room.f (l0_0 : List ByteArray) (l0_1 : List (S40)) (a1 : Int) (a2 : Int) : Option (Int × Int) := (wal_Open.f l0_0 l0_1 a1 a2).bind fun bt514 => (if bt514.2 = 0 then (some (wrap64 ((wrap64 ((l0_0.length : Int) - a1)) - (bt514.1.length : Int)), 0)) else (some (0, bt514.2)))
set_option maxHeartbeats 8000000 in
set_option maxRecDepth 100000 in
theorem wal_Room.calls (A0_0 : Option Addr) (c0_0 : Nat) (l0_0 : List ByteArray) (A0_1 : Option Addr) (c0_1 : Nat) (l0_1 : List (S40)) (a1 : Int) (a2 : Int) (r1 : Int) (r2 : Int) (w : World) (hr0_0 : Kd.C Kd.string w A0_0 l0_0.length l0_0) (hc0_0 : l0_0.length ≤ c0_0) (hr0_1 : Kd.C k40 w A0_1 l0_1.length l0_1) (hc0_1 : l0_1.length ≤ c0_1) (h : wal_Room.f l0_0 l0_1 a1 a2 = some (r1, r2)) :
    Calls Try.prog 35 #[.agg #[.slice A0_0 l0_0.length c0_0, .slice A0_1 l0_1.length c0_1], .int .i64 a1, .int .i64 a2] w fun e w' => e = .returned (.tuple #[.int .i64 r1, .int .i64 r2]) ∧ Below w.heap.size w w' := by
  have hu25 := Try.underlying25
  have HR0_0 := Aside0.mk hr0_0
  have HC0_0 := Aside0.mk hc0_0
  clear hr0_0 hc0_0
  have HR0_1 := Aside0.mk hr0_1
  have HC0_1 := Aside0.mk hc0_1
  clear hr0_1 hc0_1
  have HB := Aside0.mk (Below.refl w.heap.size w)
  have H : ((wal_Open.f l0_0 l0_1 a1 a2).bind fun bt514 => (if bt514.2 = 0 then (some (wrap64 ((wrap64 ((l0_0.length : Int) - a1)) - (bt514.1.length : Int)), 0)) else (some (0, bt514.2)))) = some (r1, r2) := h
  clear h
  replace H := Option.bind_eq_some_iff.mp H
  obtain ⟨⟨t514, t517⟩, A40, H⟩ := H
  replace H : (if t517 = 0 then (some (wrap64 ((wrap64 ((l0_0.length : Int) - a1)) - (t514.length : Int)), 0)) else (some (0, t517))) = some (r1, r2) := H
  have A4 := Aside0.mk A40
  clear A40
  by_cases c5 : t517 = 0
  · rw [if_pos c5] at H
    have c5b0 : (t517 == 0) = true := beq_iff_eq.mpr c5
    have c5b1 : (t517 != 0) = false := bne_eq_false_iff_eq.mpr c5
    clear c5
    simp only [Option.some.injEq, Prod.mk.injEq] at H
    obtain ⟨rfl, rfl⟩ := H
    go_enter Try.func35, Try.ntmps35
    go_wp2_with (first | ((with_reducible refine gate_dst (N := 3) rfl ?_); refine box_event ?hg (N := 3) ?hd (cs := #[.slice A0_0 l0_0.length c0_0, .slice A0_1 l0_1.length c0_1]) (t := 25) ?hr ?_; (case hd => rfl); (case hg => rfl); (case hr => first | (go_simp; done) | (go_simp; rfl)); intro gb513 hg w6 hbox hb; have n0_ := Aside0.mk (below_step (by repeat (first | (with_reducible first | exact HB.out | apply below_alloc | apply pw_below_drewN | apply below_drew1) | exact HB.out)) hb); have n1_ := Aside0.mk (hbox); have n2_ := Aside0.mk ((by rw [hg]; exact (below_size (by repeat (first | (with_reducible first | exact HB.out | apply below_alloc | apply pw_below_drewN | apply below_drew1) | exact HB.out))) : w.heap.size ≤ gb513)); have n3_ := Aside0.mk ((by rw [hg]; exact (below_size (by repeat (first | (with_reducible first | exact HB.out | apply below_alloc | apply pw_below_drewN | apply below_drew1) | exact HB.out))) : w.heap.size ≤ gb513)); clear HB; have HB := n0_; have BK513 := n1_; have GW513 := n2_; have GE513 := n3_; clear n0_ n1_ n2_ n3_; clear hb hbox hg; have hcz7_0 : w6.cell? ⟨gb513, 0, none⟩ = some (.slice A0_0 l0_0.length c0_0) := (blk_cell BK513.out 0).trans rfl; have hcz7_1 : w6.cell? ⟨gb513, 1, none⟩ = some (.slice A0_1 l0_1.length c0_1) := (blk_cell BK513.out 1).trans rfl; have hfz7_0 := blk_frozen BK513.out 0; have hfz7_1 := blk_frozen BK513.out 1) | ((with_reducible refine gate_callee (f := 29) rfl ?_); refine goesL_ (some 14) rfl rfl Try.func29 (by kernel_rfl) rfl #[.agg #[.slice A0_0 l0_0.length c0_0, .slice A0_1 l0_1.length c0_1], .int .i64 a1, .int .i64 a2] rfl (by (try simp only [List.map_toArray, List.map_cons, List.map_nil]); first | done | rfl | (simp only [List.length_drop, List.length_take]; rfl)) ?_; (with_reducible refine (wal_Open.calls _ _ l0_0 _ _ l0_1 a1 a2 t514 t517 _ ?side1 ?side2 ?side3 ?side4 A4.out).mono ?_); (case side1 => repeat (first | exact (Kd.C_below HR0_0.out HB.out) | (with_reducible refine Kd.C_alloc ?_ _) | (with_reducible refine Kd.C_drewN ?_ _) | (with_reducible refine Kd.C_drew ?_))); (case side2 => exact HC0_0.out); (case side3 => repeat (first | exact (Kd.C_below HR0_1.out HB.out) | (with_reducible refine Kd.C_alloc ?_ _) | (with_reducible refine Kd.C_drewN ?_ _) | (with_reducible refine Kd.C_drew ?_))); (case side4 => exact HC0_1.out); rintro e w8 ⟨v515, rfl, ho0, hb⟩; refine ⟨_, rfl, ?_⟩; have n0_ := Aside0.mk (Kd.R_lower ho0 (below_size (by repeat (first | (with_reducible first | exact HB.out | apply below_alloc | apply pw_below_drewN | apply below_drew1 | refine below_set ?_ GE513.out) | exact HB.out)))); have n1_ := Aside0.mk (blk_below (g := gb513) (o := .cells #[.slice A0_0 l0_0.length c0_0, .slice A0_1 l0_1.length c0_1] 25 (0, 0)) (by (with_reducible repeat (first | refine blk_drewN ?_ _ | refine blk_drew ?_ | refine blk_alloc ?_ _)); exact BK513.out) hb); have n2_ := Aside0.mk (below_step (by repeat (first | (with_reducible first | exact HB.out | apply below_alloc | apply pw_below_drewN | apply below_drew1 | refine below_set ?_ GE513.out) | exact HB.out)) hb); clear BK513; clear HB; have HO516 := n0_; have BK513 := n1_; have HB := n2_; clear n0_ n1_ n2_; (try clear hb); (try clear hb2); (try clear hk); (try clear hi); (try clear ho0); have hcz9_0 : w8.cell? ⟨gb513, 0, none⟩ = some (.slice A0_0 l0_0.length c0_0) := (blk_cell BK513.out 0).trans rfl; have hcz9_1 : w8.cell? ⟨gb513, 1, none⟩ = some (.slice A0_1 l0_1.length c0_1) := (blk_cell BK513.out 1).trans rfl; have hfz9_0 := blk_frozen BK513.out 0; have hfz9_1 := blk_frozen BK513.out 1; obtain ⟨Ao10, co10, eo10⟩ := Kd.R_slice HO516.out; subst eo10))
    go_ret2
    exact ⟨by first | rfl | (simp [errW_none, errW_some] <;> rfl) | (simp [*, errW_none, errW_some] <;> rfl), by repeat (first | (with_reducible first | exact HB.out | apply below_alloc | apply pw_below_drewN | apply below_drew1 | refine below_set ?_ GE513.out) | exact HB.out)⟩
  · rw [if_neg c5] at H
    have c5b0 : (t517 == 0) = false := beq_eq_false_iff_ne.mpr c5
    have c5b1 : (t517 != 0) = true := bne_iff_ne.mpr c5
    simp only [Option.some.injEq, Prod.mk.injEq] at H
    obtain ⟨rfl, rfl⟩ := H
    go_enter Try.func35, Try.ntmps35
    go_wp2_with (first | ((with_reducible refine gate_dst (N := 3) rfl ?_); refine box_event ?hg (N := 3) ?hd (cs := #[.slice A0_0 l0_0.length c0_0, .slice A0_1 l0_1.length c0_1]) (t := 25) ?hr ?_; (case hd => rfl); (case hg => rfl); (case hr => first | (go_simp; done) | (go_simp; rfl)); intro gb513 hg w11 hbox hb; have n0_ := Aside0.mk (below_step (by repeat (first | (with_reducible first | exact HB.out | apply below_alloc | apply pw_below_drewN | apply below_drew1) | exact HB.out)) hb); have n1_ := Aside0.mk (hbox); have n2_ := Aside0.mk ((by rw [hg]; exact (below_size (by repeat (first | (with_reducible first | exact HB.out | apply below_alloc | apply pw_below_drewN | apply below_drew1) | exact HB.out))) : w.heap.size ≤ gb513)); have n3_ := Aside0.mk ((by rw [hg]; exact (below_size (by repeat (first | (with_reducible first | exact HB.out | apply below_alloc | apply pw_below_drewN | apply below_drew1) | exact HB.out))) : w.heap.size ≤ gb513)); clear HB; have HB := n0_; have BK513 := n1_; have GW513 := n2_; have GE513 := n3_; clear n0_ n1_ n2_ n3_; clear hb hbox hg; have hcz12_0 : w11.cell? ⟨gb513, 0, none⟩ = some (.slice A0_0 l0_0.length c0_0) := (blk_cell BK513.out 0).trans rfl; have hcz12_1 : w11.cell? ⟨gb513, 1, none⟩ = some (.slice A0_1 l0_1.length c0_1) := (blk_cell BK513.out 1).trans rfl; have hfz12_0 := blk_frozen BK513.out 0; have hfz12_1 := blk_frozen BK513.out 1) | ((with_reducible refine gate_callee (f := 29) rfl ?_); refine goesL_ (some 14) rfl rfl Try.func29 (by kernel_rfl) rfl #[.agg #[.slice A0_0 l0_0.length c0_0, .slice A0_1 l0_1.length c0_1], .int .i64 a1, .int .i64 a2] rfl (by (try simp only [List.map_toArray, List.map_cons, List.map_nil]); first | done | rfl | (simp only [List.length_drop, List.length_take]; rfl)) ?_; (with_reducible refine (wal_Open.calls _ _ l0_0 _ _ l0_1 a1 a2 t514 t517 _ ?side1 ?side2 ?side3 ?side4 A4.out).mono ?_); (case side1 => repeat (first | exact (Kd.C_below HR0_0.out HB.out) | (with_reducible refine Kd.C_alloc ?_ _) | (with_reducible refine Kd.C_drewN ?_ _) | (with_reducible refine Kd.C_drew ?_))); (case side2 => exact HC0_0.out); (case side3 => repeat (first | exact (Kd.C_below HR0_1.out HB.out) | (with_reducible refine Kd.C_alloc ?_ _) | (with_reducible refine Kd.C_drewN ?_ _) | (with_reducible refine Kd.C_drew ?_))); (case side4 => exact HC0_1.out); rintro e w13 ⟨v515, rfl, ho0, hb⟩; refine ⟨_, rfl, ?_⟩; have n0_ := Aside0.mk (Kd.R_lower ho0 (below_size (by repeat (first | (with_reducible first | exact HB.out | apply below_alloc | apply pw_below_drewN | apply below_drew1 | refine below_set ?_ GE513.out) | exact HB.out)))); have n1_ := Aside0.mk (blk_below (g := gb513) (o := .cells #[.slice A0_0 l0_0.length c0_0, .slice A0_1 l0_1.length c0_1] 25 (0, 0)) (by (with_reducible repeat (first | refine blk_drewN ?_ _ | refine blk_drew ?_ | refine blk_alloc ?_ _)); exact BK513.out) hb); have n2_ := Aside0.mk (below_step (by repeat (first | (with_reducible first | exact HB.out | apply below_alloc | apply pw_below_drewN | apply below_drew1 | refine below_set ?_ GE513.out) | exact HB.out)) hb); clear BK513; clear HB; have HO516 := n0_; have BK513 := n1_; have HB := n2_; clear n0_ n1_ n2_; (try clear hb); (try clear hb2); (try clear hk); (try clear hi); (try clear ho0)))
    go_ret2
    exact ⟨by first | rfl | (simp [errW_none, errW_some] <;> rfl) | (simp [*, errW_none, errW_some] <;> rfl), by repeat (first | (with_reducible first | exact HB.out | apply below_alloc | apply pw_below_drewN | apply below_drew1 | refine below_set ?_ GE513.out) | exact HB.out)⟩

end Go.Proofs.Ytoibofhmlokglaa.P
