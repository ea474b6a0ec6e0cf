/-
  The walk and the plain statement of TwinCrash, joined.
-/
import Derived.Test.YtkgcaheddhfpgaaPx0
import Derived.Test.YtkgcaheddhfpgaaC05f
import Derived.Test.YtkgcaheddhfpgaaC05b
import Derived.Test.YtkgcaheddhfpgaaC05d
import Derived.Test.YtkgcaheddhfpgaaC05e
import Derived.Test.YtkgcaheddhfpgaaC05g
set_option linter.unusedVariables false
set_option linter.unusedSimpArgs false
/-
  The walk of TwinCrash, by the print; the ways that would answer false are closed.
-/
namespace Go.Proofs.Ytkgcaheddhfpgaa.P
open Go.RowKit Go.Proofs.YtkgcaheddhfpgaaW.PrintWords Go.Proofs.YtkgcaheddhfpgaaW.PrintLast Go.Proofs.YtkgcaheddhfpgaaW.PrintMore
attribute [local go_sem] max2_int min2_int max_two min_two max_three min_three max_four min_four   -- for this text's walks alone
set_option linter.unusedVariables false
set_option linter.unusedSimpArgs false

/-! ### sextonlaw05_TwinCrash: function 4 -/
mutual
def sextonlaw05_TwinCrash.j0 : Nat → Int → ByteArray → Int → List Bool → Bool → List ByteArray → List (S73) → Option (Bool)
  | 0, _, _, _, _, _, _, _ => none
  | k + 1, x1, x2, x3, x4, x35, x186000, x186001 => if x35 = true then (some true) else ((twin_Get.f x186000 x186001 x1).bind fun bt187 => ((twin_Stop.f x186000 x186001 x1 x2 x3).bind fun bt190 => (if bt187.2.2 = 0 then (sextonlaw05_TwinCrash.j1 k x1 x2 x4 bt187.1 bt187.2.1 bt190.2.2.1 (bt190.2.2.2 != 0) bt190.1 bt190.2.1) else (sextonlaw05_TwinCrash.j1 k x1 x2 x4 bt187.1 bt187.2.1 bt190.2.2.1 true bt190.1 bt190.2.1))))
def sextonlaw05_TwinCrash.j1 : Nat → Int → ByteArray → List Bool → ByteArray → Int → Bool → Bool → List ByteArray → List (S73) → Option (Bool)
  | 0, _, _, _, _, _, _, _, _, _ => none
  | k + 1, x1, x2, x4, x11, x12, x15, x57, x199000, x199001 => if x57 = true then ((sextonlaw05_twins.f).bind fun t199 => (some t199)) else ((disk_Crash.f x199000 x199001 x4).bind fun bt200 => ((twin_Get.f bt200.1 bt200.2.1 x1).bind fun bt208 => ((sextonlaw05_twins.f).bind fun t211 => (if t211 = true then (if bt200.2.2 = 0 then (if bt208.2.2 = 0 then (if (wrap64 (bt208.2.1 - 1)) = x12 then (if bt208.1.toList = x2.toList then (some true) else (if x15 = true then (some false) else (if bt208.2.1 = x12 then (some (bt208.1.toList == x11.toList)) else (some false)))) else (if x15 = true then (some false) else (if bt208.2.1 = x12 then (some (bt208.1.toList == x11.toList)) else (some false)))) else (some false)) else (some false)) else (some false)))))
end
def sextonlaw05_TwinCrash.f (k : Nat) (l0_0 : List ByteArray) (l0_1 : List (S73)) (a1 : Int) (a2 : ByteArray) (a3 : Int) (l4 : List Bool) : Option (Bool) := (sextonlaw05_far.f k l0_0 l0_1 a2).bind fun t186 => (if t186 = true then (sextonlaw05_TwinCrash.j0 k a1 a2 a3 l4 true l0_0 l0_1) else (if (l0_1.length : Int) > 0 then (sextonlaw05_TwinCrash.j0 k a1 a2 a3 l4 true l0_0 l0_1) else (sextonlaw05_TwinCrash.j0 k a1 a2 a3 l4 (decide ((l4.length : Int) > 100)) l0_0 l0_1)))
theorem sextonlaw05_TwinCrash.mono_l : ∀ k, (∀ y0 y1 y2 y3 y4 y5 y6, LeO (sextonlaw05_TwinCrash.j0 k y0 y1 y2 y3 y4 y5 y6) (sextonlaw05_TwinCrash.j0 (k + 1) y0 y1 y2 y3 y4 y5 y6)) ∧ (∀ y0 y1 y2 y3 y4 y5 y6 y7 y8, LeO (sextonlaw05_TwinCrash.j1 k y0 y1 y2 y3 y4 y5 y6 y7 y8) (sextonlaw05_TwinCrash.j1 (k + 1) y0 y1 y2 y3 y4 y5 y6 y7 y8))
  | 0 => ⟨fun _ _ _ _ _ _ _ r h => by simp [sextonlaw05_TwinCrash.j0] at h, fun _ _ _ _ _ _ _ _ _ r h => by simp [sextonlaw05_TwinCrash.j1] at h⟩
  | k + 1 => by
    obtain ⟨ih0, ih1⟩ := sextonlaw05_TwinCrash.mono_l k
    refine ⟨?_, ?_⟩
    · intro y0 y1 y2 y3 y4 y5 y6
      unfold sextonlaw05_TwinCrash.j0
      repeat' first
      | (with_reducible exact ih0 _ _ _ _ _ _ _)
      | (with_reducible exact ih1 _ _ _ _ _ _ _ _ _)
      | (with_reducible exact sextonlaw05_far.mono _ _ _ _)
      | (with_reducible exact LeO.refl _)
      | (with_reducible exact LeO.none _)
      | (with_reducible refine LeO.ite ?_ ?_)
      | (with_reducible refine LeO.bind ?_ (fun _ => ?_))
      | exact ih0 _ _ _ _ _ _ _
      | exact ih1 _ _ _ _ _ _ _ _ _
      | exact sextonlaw05_far.mono _ _ _ _
      | exact LeO.none _
      | refine LeO.ite ?_ ?_
      | refine LeO.bind ?_ (fun _ => ?_)
    · intro y0 y1 y2 y3 y4 y5 y6 y7 y8
      unfold sextonlaw05_TwinCrash.j1
      repeat' first
      | (with_reducible exact ih0 _ _ _ _ _ _ _)
      | (with_reducible exact ih1 _ _ _ _ _ _ _ _ _)
      | (with_reducible exact sextonlaw05_far.mono _ _ _ _)
      | (with_reducible exact LeO.refl _)
      | (with_reducible exact LeO.none _)
      | (with_reducible refine LeO.ite ?_ ?_)
      | (with_reducible refine LeO.bind ?_ (fun _ => ?_))
      | exact ih0 _ _ _ _ _ _ _
      | exact ih1 _ _ _ _ _ _ _ _ _
      | exact sextonlaw05_far.mono _ _ _ _
      | exact LeO.none _
      | refine LeO.ite ?_ ?_
      | refine LeO.bind ?_ (fun _ => ?_)
theorem sextonlaw05_TwinCrash.mono : ∀ a0 a1 a2 a3 a4 a5 k, LeO (sextonlaw05_TwinCrash.f k a0 a1 a2 a3 a4 a5) (sextonlaw05_TwinCrash.f (k + 1) a0 a1 a2 a3 a4 a5) := by
  intro a0 a1 a2 a3 a4 a5 k
  obtain ⟨ih0, ih1⟩ := sextonlaw05_TwinCrash.mono_l k
  unfold sextonlaw05_TwinCrash.f
  repeat' first
      | (with_reducible exact ih0 _ _ _ _ _ _ _)
      | (with_reducible exact ih1 _ _ _ _ _ _ _ _ _)
      | (with_reducible exact sextonlaw05_far.mono _ _ _ _)
      | (with_reducible exact LeO.refl _)
      | (with_reducible exact LeO.none _)
      | (with_reducible refine LeO.ite ?_ ?_)
      | (with_reducible refine LeO.bind ?_ (fun _ => ?_))
      | exact ih0 _ _ _ _ _ _ _
      | exact ih1 _ _ _ _ _ _ _ _ _
      | exact sextonlaw05_far.mono _ _ _ _
      | exact LeO.none _
      | refine LeO.ite ?_ ?_
      | refine LeO.bind ?_ (fun _ => ?_)
set_option maxHeartbeats 8000000 in
set_option maxRecDepth 100000 in
theorem sextonlaw05_TwinCrash.calls (k : Nat) (A0_0 : Option Addr) (c0_0 : Nat) (l0_0 : List ByteArray) (A0_1 : Option Addr) (c0_1 : Nat) (l0_1 : List (S73)) (a1 : Int) (a2 : ByteArray) (a3 : Int) (A4 : Option Addr) (c4 : Nat) (l4 : List Bool) (r : Bool) (hrt : r = true := by rfl) (w : World) (hr0_0 : Kd.C Kd.string w A0_0 l0_0.length l0_0) (hc0_0 : l0_0.length ≤ c0_0) (hr0_1 : Kd.C k73 w A0_1 l0_1.length l0_1) (hc0_1 : l0_1.length ≤ c0_1) (hr4 : Kd.C Kd.bool w A4 l4.length l4) (hc4 : l4.length ≤ c4) (h : sextonlaw05_TwinCrash.f k l0_0 l0_1 a1 a2 a3 l4 = some r) :
    Calls Try.prog 4 #[.agg #[.slice A0_0 l0_0.length c0_0, .slice A0_1 l0_1.length c0_1], .int .i64 a1, .string a2, .int .i64 a3, .slice A4 l4.length c4] w fun e w' => e = .returned (.bool r) ∧ Below w.heap.size w w' := by
  have HRT := Aside0.mk hrt
  have hu25 := Try.underlying25
  have HR0_0 := Aside0.mk hr0_0
  have HC0_0 := Aside0.mk hc0_0
  clear hr0_0 hc0_0
  have HR0_1 := Aside0.mk hr0_1
  have HC0_1 := Aside0.mk hc0_1
  clear hr0_1 hc0_1
  have HR4 := Aside0.mk hr4
  have HC4 := Aside0.mk hc4
  clear hr4 hc4
  have HB := Aside0.mk (Below.refl w.heap.size w)
  have H : ((sextonlaw05_far.f k l0_0 l0_1 a2).bind fun t186 => (if t186 = true then (sextonlaw05_TwinCrash.j0 k a1 a2 a3 l4 true l0_0 l0_1) else (if (l0_1.length : Int) > 0 then (sextonlaw05_TwinCrash.j0 k a1 a2 a3 l4 true l0_0 l0_1) else (sextonlaw05_TwinCrash.j0 k a1 a2 a3 l4 (decide ((l4.length : Int) > 100)) l0_0 l0_1)))) = some r := h
  clear h
  have HC6 := Aside0.mk H
  clear H
  go_enter Try.func4, Try.ntmps4
  go_upto_region 1 with (first | ((with_reducible refine gate_dst (N := 5) rfl ?_); (try (refine gate_guard (by rfl) ?_; dsimp only)); refine box_event ?hg (N := 5) ?hd (cs := #[.slice A0_0 l0_0.length c0_0, .slice A0_1 l0_1.length c0_1]) (t := 25) ?hr ?_; (case hd => rfl); (case hg => rfl); (case hr => first | (go_simp; done) | (go_simp; rfl)); intro gb185 hg w7 hbox hb; have n0_ := Aside0.mk (below_step (by repeat (first | (with_reducible first | exact HB.out | apply below_alloc | apply pw_below_drewN | apply below_drew1) | exact HB.out)) hb); have n1_ := Aside0.mk (hbox); have n2_ := Aside0.mk ((by rw [hg]; exact (below_size (by repeat (first | (with_reducible first | exact HB.out | apply below_alloc | apply pw_below_drewN | apply below_drew1) | exact HB.out))) : w.heap.size ≤ gb185)); have n3_ := Aside0.mk ((by rw [hg]; exact (below_size (by repeat (first | (with_reducible first | exact HB.out | apply below_alloc | apply pw_below_drewN | apply below_drew1) | exact HB.out))) : w.heap.size ≤ gb185)); clear HB; have HB := n0_; have BK185 := n1_; have GW185 := n2_; have GE185 := n3_; clear n0_ n1_ n2_ n3_; clear hb hbox hg))
  (try simp only [Act.put, List.setIfInBounds_toArray, List.set_cons_zero, List.set_cons_succ])
  go_cut [35] (fun v35 wc => ∃ (kq : Nat) (x35_5 : Bool), v35 = .bool x35_5 ∧ Aside0 (sextonlaw05_TwinCrash.j0 kq a1 a2 a3 l4 x35_5 l0_0 l0_1 = some r) ∧ Aside0 (kq ≤ k) ∧ Aside0 (wc.heap[gb185]? = some (.cells #[(.slice A0_0 l0_0.length c0_0), (.slice A0_1 l0_1.length c0_1)] 25 (0, 0))) ∧ Aside0 (Below w.heap.size w wc))
  case first =>
    have H := HC6.out
    clear HC6
    replace H := Option.bind_eq_some_iff.mp H
    obtain ⟨t186, A80, H⟩ := H
    replace H : (if t186 = true then (sextonlaw05_TwinCrash.j0 k a1 a2 a3 l4 true l0_0 l0_1) else (if (l0_1.length : Int) > 0 then (sextonlaw05_TwinCrash.j0 k a1 a2 a3 l4 true l0_0 l0_1) else (sextonlaw05_TwinCrash.j0 k a1 a2 a3 l4 (decide ((l4.length : Int) > 100)) l0_0 l0_1))) = some r := H
    have A8 := Aside0.mk A80
    clear A80
    by_cases c9 : t186 = true
    · subst c9
      have H1 : (sextonlaw05_TwinCrash.j0 k a1 a2 a3 l4 true l0_0 l0_1) = some r := by rw [if_pos rfl] at H; exact H
      clear H
      have H := H1
      clear H1
      have H' := Aside0.mk H
      clear H
      have hcz10_0 : w7.cell? ⟨gb185, 0, none⟩ = some (.slice A0_0 l0_0.length c0_0) := (blk_cell BK185.out 0).trans rfl
      have hcz10_1 : w7.cell? ⟨gb185, 1, none⟩ = some (.slice A0_1 l0_1.length c0_1) := (blk_cell BK185.out 1).trans rfl
      have hfz10_0 := blk_frozen BK185.out 0
      have hfz10_1 := blk_frozen BK185.out 1
      go_wp2_with (first | ((with_reducible refine gate_callee (f := 11) rfl ?_); refine goesL_ (some 24) rfl rfl Try.func11 (by kernel_rfl) rfl #[.agg #[.slice A0_0 l0_0.length c0_0, .slice A0_1 l0_1.length c0_1], .string a2] rfl (by (try simp only [List.map_toArray, List.map_cons, List.map_nil]); first | done | rfl | (simp only [List.length_drop, List.length_take]; rfl)) ?_; (with_reducible refine (sextonlaw05_far.calls k _ _ l0_0 _ _ l0_1 a2 true _ ?side1 ?side2 ?side3 ?side4 A8.out).mono ?_); (case side1 => repeat (first | exact (Kd.C_below HR0_0.out HB.out) | (with_reducible refine Kd.C_alloc ?_ _) | (with_reducible refine Kd.C_drewN ?_ _) | (with_reducible refine Kd.C_drew ?_))); (case side2 => exact HC0_0.out); (case side3 => repeat (first | exact (Kd.C_below HR0_1.out HB.out) | (with_reducible refine Kd.C_alloc ?_ _) | (with_reducible refine Kd.C_drewN ?_ _) | (with_reducible refine Kd.C_drew ?_))); (case side4 => exact HC0_1.out); rintro e w11 ⟨rfl, hb⟩; refine ⟨_, rfl, ?_⟩; have n0_ := Aside0.mk (blk_below (g := gb185) (o := .cells #[.slice A0_0 l0_0.length c0_0, .slice A0_1 l0_1.length c0_1] 25 (0, 0)) (by (with_reducible repeat (first | refine blk_drewN ?_ _ | refine blk_drew ?_ | refine blk_alloc ?_ _)); exact BK185.out) hb); have n1_ := Aside0.mk (below_step (by repeat (first | (with_reducible first | exact HB.out | apply below_alloc | apply pw_below_drewN | apply below_drew1 | refine below_set ?_ GE185.out) | exact HB.out)) hb); clear BK185; clear HB; have BK185 := n0_; have HB := n1_; clear n0_ n1_; (try clear hb); (try clear hb2); (try clear hk); (try clear hi)))
      go_meet
      case rel => exact ⟨_, (true), (by first | rfl | (simp; done) | (simp [*]; done)), H', ⟨by first | omega | exact Nat.le_refl _⟩, ⟨by (with_reducible repeat (first | refine blk_drewN ?_ _ | refine blk_drew ?_ | refine blk_alloc ?_ _)); exact BK185.out⟩, ⟨by repeat (first | (with_reducible first | exact HB.out | apply below_alloc | apply pw_below_drewN | apply below_drew1 | refine below_set ?_ GE185.out) | exact HB.out)⟩⟩
    · replace c9 := Bool.eq_false_iff.mpr c9
      subst c9
      have H1 : (if (l0_1.length : Int) > 0 then (sextonlaw05_TwinCrash.j0 k a1 a2 a3 l4 true l0_0 l0_1) else (sextonlaw05_TwinCrash.j0 k a1 a2 a3 l4 (decide ((l4.length : Int) > 100)) l0_0 l0_1)) = some r := by rw [if_neg (show ¬ (false = true) by decide)] at H; exact H
      clear H
      have H := H1
      clear H1
      by_cases c12 : (l0_1.length : Int) > 0
      · rw [if_pos c12] at H
        have c12b0 : decide (0 < (l0_1.length : Int)) = true := decide_eq_true c12
        have c12b1 : decide (0 < l0_1.length) = true := decide_eq_true (by omega)
        clear c12
        (first | rw [c12b0] | (simp only [i64_w, i32_w]; rw [c12b0]) | skip)
        have H' := Aside0.mk H
        clear H
        have hcz13_0 : w7.cell? ⟨gb185, 0, none⟩ = some (.slice A0_0 l0_0.length c0_0) := (blk_cell BK185.out 0).trans rfl
        have hcz13_1 : w7.cell? ⟨gb185, 1, none⟩ = some (.slice A0_1 l0_1.length c0_1) := (blk_cell BK185.out 1).trans rfl
        have hfz13_0 := blk_frozen BK185.out 0
        have hfz13_1 := blk_frozen BK185.out 1
        go_wp2_with (first | ((with_reducible refine gate_callee (f := 11) rfl ?_); refine goesL_ (some 24) rfl rfl Try.func11 (by kernel_rfl) rfl #[.agg #[.slice A0_0 l0_0.length c0_0, .slice A0_1 l0_1.length c0_1], .string a2] rfl (by (try simp only [List.map_toArray, List.map_cons, List.map_nil]); first | done | rfl | (simp only [List.length_drop, List.length_take]; rfl)) ?_; (with_reducible refine (sextonlaw05_far.calls k _ _ l0_0 _ _ l0_1 a2 false _ ?side1 ?side2 ?side3 ?side4 A8.out).mono ?_); (case side1 => repeat (first | exact (Kd.C_below HR0_0.out HB.out) | (with_reducible refine Kd.C_alloc ?_ _) | (with_reducible refine Kd.C_drewN ?_ _) | (with_reducible refine Kd.C_drew ?_))); (case side2 => exact HC0_0.out); (case side3 => repeat (first | exact (Kd.C_below HR0_1.out HB.out) | (with_reducible refine Kd.C_alloc ?_ _) | (with_reducible refine Kd.C_drewN ?_ _) | (with_reducible refine Kd.C_drew ?_))); (case side4 => exact HC0_1.out); rintro e w14 ⟨rfl, hb⟩; refine ⟨_, rfl, ?_⟩; have n0_ := Aside0.mk (blk_below (g := gb185) (o := .cells #[.slice A0_0 l0_0.length c0_0, .slice A0_1 l0_1.length c0_1] 25 (0, 0)) (by (with_reducible repeat (first | refine blk_drewN ?_ _ | refine blk_drew ?_ | refine blk_alloc ?_ _)); exact BK185.out) hb); have n1_ := Aside0.mk (below_step (by repeat (first | (with_reducible first | exact HB.out | apply below_alloc | apply pw_below_drewN | apply below_drew1 | refine below_set ?_ GE185.out) | exact HB.out)) hb); clear BK185; clear HB; have BK185 := n0_; have HB := n1_; clear n0_ n1_; (try clear hb); (try clear hb2); (try clear hk); (try clear hi); have hcz15_0 : w14.cell? ⟨gb185, 0, none⟩ = some (.slice A0_0 l0_0.length c0_0) := (blk_cell BK185.out 0).trans rfl; have hcz15_1 : w14.cell? ⟨gb185, 1, none⟩ = some (.slice A0_1 l0_1.length c0_1) := (blk_cell BK185.out 1).trans rfl; have hfz15_0 := blk_frozen BK185.out 0; have hfz15_1 := blk_frozen BK185.out 1))
        go_meet
        case rel => exact ⟨_, (true), (by first | rfl | (simp; done) | (simp [*]; done)), H', ⟨by first | omega | exact Nat.le_refl _⟩, ⟨by (with_reducible repeat (first | refine blk_drewN ?_ _ | refine blk_drew ?_ | refine blk_alloc ?_ _)); exact BK185.out⟩, ⟨by repeat (first | (with_reducible first | exact HB.out | apply below_alloc | apply pw_below_drewN | apply below_drew1 | refine below_set ?_ GE185.out) | exact HB.out)⟩⟩
      · rw [if_neg c12] at H
        have c12b0 : decide (0 < (l0_1.length : Int)) = false := decide_eq_false c12
        have c12b1 : decide (0 < l0_1.length) = false := decide_eq_false (by omega)
        clear c12
        (first | rw [c12b0] | (simp only [i64_w, i32_w]; rw [c12b0]) | skip)
        have H' := Aside0.mk H
        clear H
        have hcz16_0 : w7.cell? ⟨gb185, 0, none⟩ = some (.slice A0_0 l0_0.length c0_0) := (blk_cell BK185.out 0).trans rfl
        have hcz16_1 : w7.cell? ⟨gb185, 1, none⟩ = some (.slice A0_1 l0_1.length c0_1) := (blk_cell BK185.out 1).trans rfl
        have hfz16_0 := blk_frozen BK185.out 0
        have hfz16_1 := blk_frozen BK185.out 1
        go_wp2_with (first | ((with_reducible refine gate_callee (f := 11) rfl ?_); refine goesL_ (some 24) rfl rfl Try.func11 (by kernel_rfl) rfl #[.agg #[.slice A0_0 l0_0.length c0_0, .slice A0_1 l0_1.length c0_1], .string a2] rfl (by (try simp only [List.map_toArray, List.map_cons, List.map_nil]); first | done | rfl | (simp only [List.length_drop, List.length_take]; rfl)) ?_; (with_reducible refine (sextonlaw05_far.calls k _ _ l0_0 _ _ l0_1 a2 false _ ?side1 ?side2 ?side3 ?side4 A8.out).mono ?_); (case side1 => repeat (first | exact (Kd.C_below HR0_0.out HB.out) | (with_reducible refine Kd.C_alloc ?_ _) | (with_reducible refine Kd.C_drewN ?_ _) | (with_reducible refine Kd.C_drew ?_))); (case side2 => exact HC0_0.out); (case side3 => repeat (first | exact (Kd.C_below HR0_1.out HB.out) | (with_reducible refine Kd.C_alloc ?_ _) | (with_reducible refine Kd.C_drewN ?_ _) | (with_reducible refine Kd.C_drew ?_))); (case side4 => exact HC0_1.out); rintro e w17 ⟨rfl, hb⟩; refine ⟨_, rfl, ?_⟩; have n0_ := Aside0.mk (blk_below (g := gb185) (o := .cells #[.slice A0_0 l0_0.length c0_0, .slice A0_1 l0_1.length c0_1] 25 (0, 0)) (by (with_reducible repeat (first | refine blk_drewN ?_ _ | refine blk_drew ?_ | refine blk_alloc ?_ _)); exact BK185.out) hb); have n1_ := Aside0.mk (below_step (by repeat (first | (with_reducible first | exact HB.out | apply below_alloc | apply pw_below_drewN | apply below_drew1 | refine below_set ?_ GE185.out) | exact HB.out)) hb); clear BK185; clear HB; have BK185 := n0_; have HB := n1_; clear n0_ n1_; (try clear hb); (try clear hb2); (try clear hk); (try clear hi); have hcz18_0 : w17.cell? ⟨gb185, 0, none⟩ = some (.slice A0_0 l0_0.length c0_0) := (blk_cell BK185.out 0).trans rfl; have hcz18_1 : w17.cell? ⟨gb185, 1, none⟩ = some (.slice A0_1 l0_1.length c0_1) := (blk_cell BK185.out 1).trans rfl; have hfz18_0 := blk_frozen BK185.out 0; have hfz18_1 := blk_frozen BK185.out 1))
        go_meet
        case rel => exact ⟨_, (decide ((l4.length : Int) > 100)), (by first | rfl | (simp; done) | (simp [*]; done)), H', ⟨by first | omega | exact Nat.le_refl _⟩, ⟨by (with_reducible repeat (first | refine blk_drewN ?_ _ | refine blk_drew ?_ | refine blk_alloc ?_ _)); exact BK185.out⟩, ⟨by repeat (first | (with_reducible first | exact HB.out | apply below_alloc | apply pw_below_drewN | apply below_drew1 | refine below_set ?_ GE185.out) | exact HB.out)⟩⟩
  case rest =>
    clear HC6
    try clear c1
    try clear p2
    try clear c4
    try clear c9
    try clear c11
    try clear c12
    try clear c12b0
    try clear c12b1
    try clear hcz10_0
    try clear hcz10_1
    try clear hcz13_0
    try clear hcz13_1
    try clear hcz15_0
    try clear hcz15_1
    try clear hcz16_0
    try clear hcz16_1
    try clear hcz18_0
    try clear hcz18_1
    try clear hfz10_0
    try clear hfz10_1
    try clear hfz13_0
    try clear hfz13_1
    try clear hfz15_0
    try clear hfz15_1
    try clear hfz16_0
    try clear hfz16_1
    try clear hfz18_0
    try clear hfz18_1
    obtain ⟨kq, x35_5, rfl, HA, HJ5, BK185, HB⟩ := hcut
    cases kq with
    | zero => exact absurd HA.out (by simp [sextonlaw05_TwinCrash.j0])
    | succ kj5 =>
      have H := HA.out
      clear HA
      simp only [sextonlaw05_TwinCrash.j0] at H
      by_cases c19 : x35_5 = true
      · subst c19
        have H1 : (some true) = some r := by rw [if_pos rfl] at H; exact H
        clear H
        have H := H1
        clear H1
        obtain rfl := Option.some.inj H
        go_wp2
        go_ret
        exact ⟨by first | rfl | (simp [errW_none, errW_some] <;> rfl) | (simp [*, errW_none, errW_some] <;> rfl), by repeat (first | (with_reducible first | exact HB.out | apply below_alloc | apply pw_below_drewN | apply below_drew1 | refine below_set ?_ GE185.out) | exact HB.out)⟩
      · replace c19 := Bool.eq_false_iff.mpr c19
        subst c19
        have H1 : ((twin_Get.f l0_0 l0_1 a1).bind fun bt187 => ((twin_Stop.f l0_0 l0_1 a1 a2 a3).bind fun bt190 => (if bt187.2.2 = 0 then (sextonlaw05_TwinCrash.j1 kj5 a1 a2 l4 bt187.1 bt187.2.1 bt190.2.2.1 (bt190.2.2.2 != 0) bt190.1 bt190.2.1) else (sextonlaw05_TwinCrash.j1 kj5 a1 a2 l4 bt187.1 bt187.2.1 bt190.2.2.1 true bt190.1 bt190.2.1)))) = some r := by rw [if_neg (show ¬ (false = true) by decide)] at H; exact H
        clear H
        have H := H1
        clear H1
        replace H := Option.bind_eq_some_iff.mp H
        obtain ⟨⟨t187, t188, t189⟩, A200, H⟩ := H
        replace H : ((twin_Stop.f l0_0 l0_1 a1 a2 a3).bind fun bt190 => (if t189 = 0 then (sextonlaw05_TwinCrash.j1 kj5 a1 a2 l4 t187 t188 bt190.2.2.1 (bt190.2.2.2 != 0) bt190.1 bt190.2.1) else (sextonlaw05_TwinCrash.j1 kj5 a1 a2 l4 t187 t188 bt190.2.2.1 true bt190.1 bt190.2.1))) = some r := H
        have A20 := Aside0.mk A200
        clear A200
        replace H := Option.bind_eq_some_iff.mp H
        obtain ⟨⟨t190, t193, t196, t197⟩, A210, H⟩ := H
        replace H : (if t189 = 0 then (sextonlaw05_TwinCrash.j1 kj5 a1 a2 l4 t187 t188 t196 (t197 != 0) t190 t193) else (sextonlaw05_TwinCrash.j1 kj5 a1 a2 l4 t187 t188 t196 true t190 t193)) = some r := H
        have A21 := Aside0.mk A210
        clear A210
        have HC22 := Aside0.mk H
        clear H
        have hcz23_0 : wc.cell? ⟨gb185, 0, none⟩ = some (.slice A0_0 l0_0.length c0_0) := (blk_cell BK185.out 0).trans rfl
        have hcz23_1 : wc.cell? ⟨gb185, 1, none⟩ = some (.slice A0_1 l0_1.length c0_1) := (blk_cell BK185.out 1).trans rfl
        have hfz23_0 := blk_frozen BK185.out 0
        have hfz23_1 := blk_frozen BK185.out 1
        go_upto_region 5 with (first | ((with_reducible refine gate_callee (f := 12) rfl ?_); refine goesL_ (some 39) rfl rfl Try.func12 (by kernel_rfl) rfl #[.agg #[.slice A0_0 l0_0.length c0_0, .slice A0_1 l0_1.length c0_1], .int .i64 a1] rfl (by (try simp only [List.map_toArray, List.map_cons, List.map_nil]); first | done | rfl | (simp only [List.length_drop, List.length_take]; rfl)) ?_; (with_reducible refine (twin_Get.calls _ _ l0_0 _ _ l0_1 a1 t187 t188 t189 _ ?side1 ?side2 ?side3 ?side4 A20.out).mono ?_); (case side1 => repeat (first | exact (Kd.C_below HR0_0.out HB.out) | (with_reducible refine Kd.C_alloc ?_ _) | (with_reducible refine Kd.C_drewN ?_ _) | (with_reducible refine Kd.C_drew ?_))); (case side2 => exact HC0_0.out); (case side3 => repeat (first | exact (Kd.C_below HR0_1.out HB.out) | (with_reducible refine Kd.C_alloc ?_ _) | (with_reducible refine Kd.C_drewN ?_ _) | (with_reducible refine Kd.C_drew ?_))); (case side4 => exact HC0_1.out); rintro e w24 ⟨rfl, hb⟩; refine ⟨_, rfl, ?_⟩; have n0_ := Aside0.mk (blk_below (g := gb185) (o := .cells #[.slice A0_0 l0_0.length c0_0, .slice A0_1 l0_1.length c0_1] 25 (0, 0)) (by (with_reducible repeat (first | refine blk_drewN ?_ _ | refine blk_drew ?_ | refine blk_alloc ?_ _)); exact BK185.out) hb); have n1_ := Aside0.mk (below_step (by repeat (first | (with_reducible first | exact HB.out | apply below_alloc | apply pw_below_drewN | apply below_drew1 | refine below_set ?_ GE185.out) | exact HB.out)) hb); clear BK185; clear HB; have BK185 := n0_; have HB := n1_; clear n0_ n1_; (try clear hb); (try clear hb2); (try clear hk); (try clear hi); have hcz25_0 : w24.cell? ⟨gb185, 0, none⟩ = some (.slice A0_0 l0_0.length c0_0) := (blk_cell BK185.out 0).trans rfl; have hcz25_1 : w24.cell? ⟨gb185, 1, none⟩ = some (.slice A0_1 l0_1.length c0_1) := (blk_cell BK185.out 1).trans rfl; have hfz25_0 := blk_frozen BK185.out 0; have hfz25_1 := blk_frozen BK185.out 1) | ((with_reducible refine gate_callee (f := 15) rfl ?_); refine goesL_ (some 48) rfl rfl Try.func15 (by kernel_rfl) rfl #[.agg #[.slice A0_0 l0_0.length c0_0, .slice A0_1 l0_1.length c0_1], .int .i64 a1, .string a2, .int .i64 a3] rfl (by (try simp only [List.map_toArray, List.map_cons, List.map_nil]); first | done | rfl | (simp only [List.length_drop, List.length_take]; rfl)) ?_; (with_reducible refine (twin_Stop.calls _ _ l0_0 _ _ l0_1 a1 a2 a3 t190 t193 t196 t197 _ ?side1 ?side2 ?side3 ?side4 A21.out).mono ?_); (case side1 => repeat (first | exact (Kd.C_below HR0_0.out HB.out) | (with_reducible refine Kd.C_alloc ?_ _) | (with_reducible refine Kd.C_drewN ?_ _) | (with_reducible refine Kd.C_drew ?_))); (case side2 => exact HC0_0.out); (case side3 => repeat (first | exact (Kd.C_below HR0_1.out HB.out) | (with_reducible refine Kd.C_alloc ?_ _) | (with_reducible refine Kd.C_drewN ?_ _) | (with_reducible refine Kd.C_drew ?_))); (case side4 => exact HC0_1.out); rintro e w26 ⟨v191, v194, rfl, ho0, ho1, hb⟩; refine ⟨_, rfl, ?_⟩; have n0_ := Aside0.mk (Kd.R_lower ho0 (below_size (by repeat (first | (with_reducible first | exact HB.out | apply below_alloc | apply pw_below_drewN | apply below_drew1 | refine below_set ?_ GE185.out) | exact HB.out)))); have n1_ := Aside0.mk (Kd.R_lower ho1 (below_size (by repeat (first | (with_reducible first | exact HB.out | apply below_alloc | apply pw_below_drewN | apply below_drew1 | refine below_set ?_ GE185.out) | exact HB.out)))); have n2_ := Aside0.mk (blk_below (g := gb185) (o := .cells #[.slice A0_0 l0_0.length c0_0, .slice A0_1 l0_1.length c0_1] 25 (0, 0)) (by (with_reducible repeat (first | refine blk_drewN ?_ _ | refine blk_drew ?_ | refine blk_alloc ?_ _)); exact BK185.out) hb); have n3_ := Aside0.mk (below_step (by repeat (first | (with_reducible first | exact HB.out | apply below_alloc | apply pw_below_drewN | apply below_drew1 | refine below_set ?_ GE185.out) | exact HB.out)) hb); clear BK185; clear HB; have HO192 := n0_; have HO195 := n1_; have BK185 := n2_; have HB := n3_; clear n0_ n1_ n2_ n3_; (try clear hb); (try clear hb2); (try clear hk); (try clear hi); (try clear ho0); (try clear ho1)) | ((with_reducible refine gate_dst (N := 14) rfl ?_); (try (refine gate_guard (by rfl) ?_; dsimp only)); refine box_event ?hg (N := 14) ?hd (cs := #[.slice none 0 0, .slice none 0 0]) (t := 25) ?hr ?_; (case hd => rfl); (case hg => rfl); (case hr => first | (go_simp; done) | (go_simp; rfl)); intro gb198 hg w27 hbox hb; have n0_ := Aside0.mk (Kd.R_below (by (with_reducible repeat (first | apply Kd.R_alloc | apply Kd.R_drewN | apply Kd.R_drew)); exact HO192.out) hb); have n1_ := Aside0.mk (Kd.R_below (by (with_reducible repeat (first | apply Kd.R_alloc | apply Kd.R_drewN | apply Kd.R_drew)); exact HO195.out) hb); have n2_ := Aside0.mk (blk_below (g := gb185) (o := .cells #[.slice A0_0 l0_0.length c0_0, .slice A0_1 l0_1.length c0_1] 25 (0, 0)) (by (with_reducible repeat (first | refine blk_drewN ?_ _ | refine blk_drew ?_ | refine blk_alloc ?_ _)); exact BK185.out) hb); have n3_ := Aside0.mk (below_step (by repeat (first | (with_reducible first | exact HB.out | apply below_alloc | apply pw_below_drewN | apply below_drew1 | refine below_set ?_ GE185.out) | exact HB.out)) hb); have n4_ := Aside0.mk (hbox); have n5_ := Aside0.mk ((by rw [hg]; exact (below_size (by repeat (first | (with_reducible first | exact HB.out | apply below_alloc | apply pw_below_drewN | apply below_drew1 | refine below_set ?_ GE185.out) | exact HB.out))) : w.heap.size ≤ gb198)); have n6_ := Aside0.mk ((by rw [hg]; exact (below_size (by repeat (first | (with_reducible first | exact HB.out | apply below_alloc | apply pw_below_drewN | apply below_drew1 | refine below_set ?_ GE185.out) | exact HB.out))) : w.heap.size ≤ gb198)); have n7_ := Aside0.mk ((by rw [hg]; exact Nat.ne_of_lt (blk_lt (g := gb185) (o := .cells #[.slice A0_0 l0_0.length c0_0, .slice A0_1 l0_1.length c0_1] 25 (0, 0)) (by (with_reducible repeat (first | refine blk_drewN ?_ _ | refine blk_drew ?_ | refine blk_alloc ?_ _)); exact BK185.out)) : gb185 ≠ gb198)); have n8_ := Aside0.mk ((by rw [hg]; exact Nat.ne_of_gt (blk_lt (g := gb185) (o := .cells #[.slice A0_0 l0_0.length c0_0, .slice A0_1 l0_1.length c0_1] 25 (0, 0)) (by (with_reducible repeat (first | refine blk_drewN ?_ _ | refine blk_drew ?_ | refine blk_alloc ?_ _)); exact BK185.out)) : gb198 ≠ gb185)); clear HO192; clear HO195; clear BK185; clear HB; have HO192 := n0_; have HO195 := n1_; have BK185 := n2_; have HB := n3_; have BK198 := n4_; have GW198 := n5_; have GE198 := n6_; have NB185_198 := n7_; have NB198_185 := n8_; clear n0_ n1_ n2_ n3_ n4_ n5_ n6_ n7_ n8_; clear hb hbox hg; obtain ⟨Ao28, co28, eo28⟩ := Kd.R_slice HO192.out; subst eo28; have hnb29 := NB198_185.out; have hnc29 := NB185_198.out; have hcz30_0 : w27.cell? ⟨gb198, 0, none⟩ = some (.slice none 0 0) := (blk_cell BK198.out 0).trans rfl; have hcz30_1 : w27.cell? ⟨gb198, 1, none⟩ = some (.slice none 0 0) := (blk_cell BK198.out 1).trans rfl; have hfz30_0 := blk_frozen BK198.out 0; have hfz30_1 := blk_frozen BK198.out 1; obtain ⟨Ao31, co31, eo31⟩ := Kd.R_slice HO195.out; subst eo31))
        (try simp only [Act.put, List.setIfInBounds_toArray, List.set_cons_zero, List.set_cons_succ])
        go_cut [57] (fun v57 wc => ∃ (kq : Nat) (x57_21 : Bool), v57 = .bool x57_21 ∧ Aside0 (sextonlaw05_TwinCrash.j1 kq a1 a2 l4 t187 t188 t196 x57_21 t190 t193 = some r) ∧ Aside0 (kq ≤ kj5) ∧ Aside0 (Kd.R Kd.string 9 wc w.heap.size (fun _ => True) (.slice Ao28 t190.length co28) t190) ∧ Aside0 (Kd.R k73 73 wc w.heap.size (fun _ => True) (.slice Ao31 t193.length co31) t193) ∧ Aside0 (wc.heap[gb185]? = some (.cells #[(.slice A0_0 l0_0.length c0_0), (.slice A0_1 l0_1.length c0_1)] 25 (0, 0))) ∧ Aside0 (wc.heap[gb198]? = some (.cells #[(.slice Ao28 t190.length co28), (.slice Ao31 t193.length co31)] 25 (0, 0))) ∧ Aside0 (Below w.heap.size w wc))
        case first =>
          have H := HC22.out
          clear HC22
          by_cases c32 : t189 = 0
          · rw [if_pos c32] at H
            have c32b0 : (t189 == 0) = true := beq_iff_eq.mpr c32
            have c32b1 : (t189 != 0) = false := bne_eq_false_iff_eq.mpr c32
            clear c32
            (first | rw [c32b0] | (simp only [i64_w, i32_w]; rw [c32b0]) | skip)
            have H' := Aside0.mk H
            clear H
            go_wp2
            go_meet
            case rel => exact ⟨_, ((t197 != 0)), (by first | rfl | (simp; done) | (simp [*]; done)), H', ⟨by have := HJ5.out; first | omega | exact Nat.le_refl _⟩, ⟨by (with_reducible repeat (first | apply Kd.R_alloc | apply Kd.R_drewN | apply Kd.R_drew)); exact Kd.R_mono (Kd.R_far (p := ⟨gb198, 1, none⟩) (Kd.R_far (p := ⟨gb198, 0, none⟩) (Kd.R_types HO192.out BK198.out (by decide)) (fun _ hk => hk.2) (.slice Ao28 t190.length co28)) (fun _ hk => hk.2) (.slice Ao31 t193.length co31)) (fun _ hk => trivial)⟩, ⟨by (with_reducible repeat (first | apply Kd.R_alloc | apply Kd.R_drewN | apply Kd.R_drew)); exact Kd.R_mono (Kd.R_far (p := ⟨gb198, 1, none⟩) (Kd.R_far (p := ⟨gb198, 0, none⟩) (Kd.R_types HO195.out BK198.out (by decide)) (fun _ hk => hk.2) (.slice Ao28 t190.length co28)) (fun _ hk => hk.2) (.slice Ao31 t193.length co31)) (fun _ hk => trivial)⟩, ⟨by (with_reducible repeat (first | refine blk_drewN ?_ _ | refine blk_drew ?_ | refine blk_alloc ?_ _)); refine blk_far ?_ NB185_198.out _; (with_reducible repeat (first | refine blk_drewN ?_ _ | refine blk_drew ?_ | refine blk_alloc ?_ _)); refine blk_far ?_ NB185_198.out _; (with_reducible repeat (first | refine blk_drewN ?_ _ | refine blk_drew ?_ | refine blk_alloc ?_ _)); exact BK185.out⟩, ⟨by (with_reducible repeat (first | refine blk_drewN ?_ _ | refine blk_drew ?_ | refine blk_alloc ?_ _)); refine blk_put (cs := #[.slice Ao28 t190.length co28, .slice none 0 0]) ?_ 1 _ rfl; (with_reducible repeat (first | refine blk_drewN ?_ _ | refine blk_drew ?_ | refine blk_alloc ?_ _)); refine blk_put (cs := #[.slice none 0 0, .slice none 0 0]) ?_ 0 _ rfl; (with_reducible repeat (first | refine blk_drewN ?_ _ | refine blk_drew ?_ | refine blk_alloc ?_ _)); exact BK198.out⟩, ⟨by repeat (first | (with_reducible first | exact HB.out | apply below_alloc | apply pw_below_drewN | apply below_drew1 | refine below_set ?_ GE185.out | refine below_set ?_ GE198.out) | exact HB.out)⟩⟩
          · rw [if_neg c32] at H
            have c32b0 : (t189 == 0) = false := beq_eq_false_iff_ne.mpr c32
            have c32b1 : (t189 != 0) = true := bne_iff_ne.mpr c32
            (first | rw [c32b0] | (simp only [i64_w, i32_w]; rw [c32b0]) | skip)
            have H' := Aside0.mk H
            clear H
            go_wp2
            go_meet
            case rel => exact ⟨_, (true), (by first | rfl | (simp; done) | (simp [*]; done)), H', ⟨by have := HJ5.out; first | omega | exact Nat.le_refl _⟩, ⟨by (with_reducible repeat (first | apply Kd.R_alloc | apply Kd.R_drewN | apply Kd.R_drew)); exact Kd.R_mono (Kd.R_far (p := ⟨gb198, 1, none⟩) (Kd.R_far (p := ⟨gb198, 0, none⟩) (Kd.R_types HO192.out BK198.out (by decide)) (fun _ hk => hk.2) (.slice Ao28 t190.length co28)) (fun _ hk => hk.2) (.slice Ao31 t193.length co31)) (fun _ hk => trivial)⟩, ⟨by (with_reducible repeat (first | apply Kd.R_alloc | apply Kd.R_drewN | apply Kd.R_drew)); exact Kd.R_mono (Kd.R_far (p := ⟨gb198, 1, none⟩) (Kd.R_far (p := ⟨gb198, 0, none⟩) (Kd.R_types HO195.out BK198.out (by decide)) (fun _ hk => hk.2) (.slice Ao28 t190.length co28)) (fun _ hk => hk.2) (.slice Ao31 t193.length co31)) (fun _ hk => trivial)⟩, ⟨by (with_reducible repeat (first | refine blk_drewN ?_ _ | refine blk_drew ?_ | refine blk_alloc ?_ _)); refine blk_far ?_ NB185_198.out _; (with_reducible repeat (first | refine blk_drewN ?_ _ | refine blk_drew ?_ | refine blk_alloc ?_ _)); refine blk_far ?_ NB185_198.out _; (with_reducible repeat (first | refine blk_drewN ?_ _ | refine blk_drew ?_ | refine blk_alloc ?_ _)); exact BK185.out⟩, ⟨by (with_reducible repeat (first | refine blk_drewN ?_ _ | refine blk_drew ?_ | refine blk_alloc ?_ _)); refine blk_put (cs := #[.slice Ao28 t190.length co28, .slice none 0 0]) ?_ 1 _ rfl; (with_reducible repeat (first | refine blk_drewN ?_ _ | refine blk_drew ?_ | refine blk_alloc ?_ _)); refine blk_put (cs := #[.slice none 0 0, .slice none 0 0]) ?_ 0 _ rfl; (with_reducible repeat (first | refine blk_drewN ?_ _ | refine blk_drew ?_ | refine blk_alloc ?_ _)); exact BK198.out⟩, ⟨by repeat (first | (with_reducible first | exact HB.out | apply below_alloc | apply pw_below_drewN | apply below_drew1 | refine below_set ?_ GE185.out | refine below_set ?_ GE198.out) | exact HB.out)⟩⟩
        case rest =>
          clear HC22
          try clear c1
          try clear c2
          try clear p2
          try clear c3
          try clear c4
          try clear c9
          try clear c11
          try clear c12
          try clear c12b0
          try clear c12b1
          try clear c15
          try clear c19
          try clear c29
          try clear c32
          try clear c32b0
          try clear c32b1
          try clear hcz10_0
          try clear hcz10_1
          try clear hcz13_0
          try clear hcz13_1
          try clear hcz15_0
          try clear hcz15_1
          try clear hcz16_0
          try clear hcz16_1
          try clear hcz18_0
          try clear hcz18_1
          try clear hcz23_0
          try clear hcz23_1
          try clear hcz25_0
          try clear hcz25_1
          try clear hcz30_0
          try clear hcz30_1
          try clear hfz10_0
          try clear hfz10_1
          try clear hfz13_0
          try clear hfz13_1
          try clear hfz15_0
          try clear hfz15_1
          try clear hfz16_0
          try clear hfz16_1
          try clear hfz18_0
          try clear hfz18_1
          try clear hfz23_0
          try clear hfz23_1
          try clear hfz25_0
          try clear hfz25_1
          try clear hfz30_0
          try clear hfz30_1
          try clear p2
          obtain ⟨kq, x57_21, rfl, HA, HJ21, HO_199000, HO_199001, BK185, BK198, HB⟩ := hcut
          cases kq with
          | zero => exact absurd HA.out (by simp [sextonlaw05_TwinCrash.j1])
          | succ kj21 =>
            have H := HA.out
            clear HA
            simp only [sextonlaw05_TwinCrash.j1] at H
            by_cases c33 : x57_21 = true
            · subst c33
              have H1 : ((sextonlaw05_twins.f).bind fun t199 => (some t199)) = some r := by rw [if_pos rfl] at H; exact H
              clear H
              have H := H1
              clear H1
              replace H := Option.bind_eq_some_iff.mp H
              obtain ⟨t199, A340, H⟩ := H
              replace H : (some t199) = some r := H
              have A34 := Aside0.mk A340
              clear A340
              obtain rfl := Option.some.inj H
              go_wp2_with (first | ((with_reducible refine gate_callee (f := 14) rfl ?_); refine goesL_ (some 58) rfl rfl Try.func14 (by kernel_rfl) rfl #[] rfl (by (try simp only [List.map_toArray, List.map_cons, List.map_nil]); first | done | rfl | (simp only [List.length_drop, List.length_take]; rfl)) ?_; (with_reducible refine (sextonlaw05_twins.calls  t199 _ A34.out).mono ?_); rintro e w35 ⟨rfl, hb⟩; refine ⟨_, rfl, ?_⟩; have n0_ := Aside0.mk (Kd.R_below (by (with_reducible repeat (first | apply Kd.R_alloc | apply Kd.R_drewN | apply Kd.R_drew)); exact HO_199000.out) hb); have n1_ := Aside0.mk (Kd.R_below (by (with_reducible repeat (first | apply Kd.R_alloc | apply Kd.R_drewN | apply Kd.R_drew)); exact HO_199001.out) hb); have n2_ := Aside0.mk (blk_below (g := gb185) (o := .cells #[.slice A0_0 l0_0.length c0_0, .slice A0_1 l0_1.length c0_1] 25 (0, 0)) (by (with_reducible repeat (first | refine blk_drewN ?_ _ | refine blk_drew ?_ | refine blk_alloc ?_ _)); exact BK185.out) hb); have n3_ := Aside0.mk (blk_below (g := gb198) (o := .cells #[.slice Ao28 t190.length co28, .slice Ao31 t193.length co31] 25 (0, 0)) (by (with_reducible repeat (first | refine blk_drewN ?_ _ | refine blk_drew ?_ | refine blk_alloc ?_ _)); exact BK198.out) hb); have n4_ := Aside0.mk (below_step (by repeat (first | (with_reducible first | exact HB.out | apply below_alloc | apply pw_below_drewN | apply below_drew1 | refine below_set ?_ GE185.out | refine below_set ?_ GE198.out) | exact HB.out)) hb); clear HO_199000; clear HO_199001; clear BK185; clear BK198; clear HB; have HO_199000 := n0_; have HO_199001 := n1_; have BK185 := n2_; have BK198 := n3_; have HB := n4_; clear n0_ n1_ n2_ n3_ n4_; (try clear hb); (try clear hb2); (try clear hk); (try clear hi)))
              go_ret
              exact ⟨by first | rfl | (simp [errW_none, errW_some] <;> rfl) | (simp [*, errW_none, errW_some] <;> rfl), by repeat (first | (with_reducible first | exact HB.out | apply below_alloc | apply pw_below_drewN | apply below_drew1 | refine below_set ?_ GE185.out | refine below_set ?_ GE198.out) | exact HB.out)⟩
            · replace c33 := Bool.eq_false_iff.mpr c33
              subst c33
              have H1 : ((disk_Crash.f t190 t193 l4).bind fun bt200 => ((twin_Get.f bt200.1 bt200.2.1 a1).bind fun bt208 => ((sextonlaw05_twins.f).bind fun t211 => (if t211 = true then (if bt200.2.2 = 0 then (if bt208.2.2 = 0 then (if (wrap64 (bt208.2.1 - 1)) = t188 then (if bt208.1.toList = a2.toList then (some true) else (if t196 = true then (some false) else (if bt208.2.1 = t188 then (some (bt208.1.toList == t187.toList)) else (some false)))) else (if t196 = true then (some false) else (if bt208.2.1 = t188 then (some (bt208.1.toList == t187.toList)) else (some false)))) else (some false)) else (some false)) else (some false))))) = some r := by rw [if_neg (show ¬ (false = true) by decide)] at H; exact H
              clear H
              have H := H1
              clear H1
              replace H := Option.bind_eq_some_iff.mp H
              obtain ⟨⟨t200, t203, t206⟩, A360, H⟩ := H
              replace H : ((twin_Get.f t200 t203 a1).bind fun bt208 => ((sextonlaw05_twins.f).bind fun t211 => (if t211 = true then (if t206 = 0 then (if bt208.2.2 = 0 then (if (wrap64 (bt208.2.1 - 1)) = t188 then (if bt208.1.toList = a2.toList then (some true) else (if t196 = true then (some false) else (if bt208.2.1 = t188 then (some (bt208.1.toList == t187.toList)) else (some false)))) else (if t196 = true then (some false) else (if bt208.2.1 = t188 then (some (bt208.1.toList == t187.toList)) else (some false)))) else (some false)) else (some false)) else (some false)))) = some r := H
              have A36 := Aside0.mk A360
              clear A360
              replace H := Option.bind_eq_some_iff.mp H
              obtain ⟨⟨t208, t209, t210⟩, A370, H⟩ := H
              replace H : ((sextonlaw05_twins.f).bind fun t211 => (if t211 = true then (if t206 = 0 then (if t210 = 0 then (if (wrap64 (t209 - 1)) = t188 then (if t208.toList = a2.toList then (some true) else (if t196 = true then (some false) else (if t209 = t188 then (some (t208.toList == t187.toList)) else (some false)))) else (if t196 = true then (some false) else (if t209 = t188 then (some (t208.toList == t187.toList)) else (some false)))) else (some false)) else (some false)) else (some false))) = some r := H
              have A37 := Aside0.mk A370
              clear A370
              replace H := Option.bind_eq_some_iff.mp H
              obtain ⟨t211, A380, H⟩ := H
              replace H : (if t211 = true then (if t206 = 0 then (if t210 = 0 then (if (wrap64 (t209 - 1)) = t188 then (if t208.toList = a2.toList then (some true) else (if t196 = true then (some false) else (if t209 = t188 then (some (t208.toList == t187.toList)) else (some false)))) else (if t196 = true then (some false) else (if t209 = t188 then (some (t208.toList == t187.toList)) else (some false)))) else (some false)) else (some false)) else (some false)) = some r := H
              have A38 := Aside0.mk A380
              clear A380
              by_cases c39 : t211 = true
              · subst c39
                have H1 : (if t206 = 0 then (if t210 = 0 then (if (wrap64 (t209 - 1)) = t188 then (if t208.toList = a2.toList then (some true) else (if t196 = true then (some false) else (if t209 = t188 then (some (t208.toList == t187.toList)) else (some false)))) else (if t196 = true then (some false) else (if t209 = t188 then (some (t208.toList == t187.toList)) else (some false)))) else (some false)) else (some false)) = some r := by rw [if_pos rfl] at H; exact H
                clear H
                have H := H1
                clear H1
                by_cases c40 : t206 = 0
                · rw [if_pos c40] at H
                  have c40b0 : (t206 == 0) = true := beq_iff_eq.mpr c40
                  have c40b1 : (t206 != 0) = false := bne_eq_false_iff_eq.mpr c40
                  clear c40
                  by_cases c41 : t210 = 0
                  · rw [if_pos c41] at H
                    have c41b0 : (t210 == 0) = true := beq_iff_eq.mpr c41
                    have c41b1 : (t210 != 0) = false := bne_eq_false_iff_eq.mpr c41
                    clear c41
                    by_cases c42 : (wrap64 (t209 - 1)) = t188
                    · rw [if_pos c42] at H
                      have c42b0 : ((wrap64 (t209 - 1)) == t188) = true := beq_iff_eq.mpr c42
                      have c42b1 : ((wrap64 (t209 - 1)) != t188) = false := bne_eq_false_iff_eq.mpr c42
                      clear c42
                      by_cases c43 : t208.toList = a2.toList
                      · rw [if_pos c43] at H
                        have c43b0 : (t208.toList == a2.toList) = true := beq_iff_eq.mpr c43
                        have c43b1 : (t208.toList != a2.toList) = false := bne_eq_false_iff_eq.mpr c43
                        clear c43
                        obtain rfl := Option.some.inj H
                        have hnb44 := NB198_185.out
                        have hnc44 := NB185_198.out
                        have hcz45_0 : wc.cell? ⟨gb198, 0, none⟩ = some (.slice Ao28 t190.length co28) := (blk_cell BK198.out 0).trans rfl
                        have hcz45_1 : wc.cell? ⟨gb198, 1, none⟩ = some (.slice Ao31 t193.length co31) := (blk_cell BK198.out 1).trans rfl
                        have hfz45_0 := blk_frozen BK198.out 0
                        have hfz45_1 := blk_frozen BK198.out 1
                        go_wp2_with (first | ((with_reducible refine gate_callee (f := 16) rfl ?_); refine goesL_ (some 62) rfl rfl Try.func16 (by kernel_rfl) rfl #[.agg #[.slice Ao28 t190.length co28, .slice Ao31 t193.length co31], .slice A4 l4.length c4] rfl (by (try simp only [List.map_toArray, List.map_cons, List.map_nil]); first | done | rfl | (simp only [List.length_drop, List.length_take]; rfl)) ?_; (with_reducible refine (disk_Crash.calls _ _ t190 _ _ t193 _ _ l4 t200 t203 t206 _ ?side1 ?side2 ?side3 ?side4 ?side5 ?side6 A36.out).mono ?_); (case side1 => repeat (first | exact (Kd.R_reads' HO_199000.out).2.2 | (with_reducible refine Kd.C_alloc ?_ _) | (with_reducible refine Kd.C_drewN ?_ _) | (with_reducible refine Kd.C_drew ?_))); (case side2 => exact (Kd.R_reads' HO_199000.out).2.1); (case side3 => repeat (first | exact (Kd.R_reads' HO_199001.out).2.2 | (with_reducible refine Kd.C_alloc ?_ _) | (with_reducible refine Kd.C_drewN ?_ _) | (with_reducible refine Kd.C_drew ?_))); (case side4 => exact (Kd.R_reads' HO_199001.out).2.1); (case side5 => repeat (first | exact (Kd.C_below HR4.out HB.out) | (with_reducible refine Kd.C_alloc ?_ _) | (with_reducible refine Kd.C_drewN ?_ _) | (with_reducible refine Kd.C_drew ?_))); (case side6 => exact HC4.out); rintro e w46 ⟨v201, v204, rfl, ho0, ho1, hb⟩; refine ⟨_, rfl, ?_⟩; have n0_ := Aside0.mk (Kd.R_elder' (by (with_reducible repeat (first | apply Kd.R_alloc | apply Kd.R_drewN | apply Kd.R_drew)); exact HO_199000.out) (Kd.R_base ho0) hb); have n1_ := Aside0.mk (Kd.R_elder' (by (with_reducible repeat (first | apply Kd.R_alloc | apply Kd.R_drewN | apply Kd.R_drew)); exact HO_199001.out) (Kd.R_base ho1) hb); have n2_ := Aside0.mk (Kd.R_lower (Kd.R_new' ho0 (Kd.R_lt (by (with_reducible repeat (first | apply Kd.R_alloc | apply Kd.R_drewN | apply Kd.R_drew)); exact HO_199000.out))) (below_size (by repeat (first | (with_reducible first | exact HB.out | apply below_alloc | apply pw_below_drewN | apply below_drew1 | refine below_set ?_ GE185.out | refine below_set ?_ GE198.out) | exact HB.out)))); have n3_ := Aside0.mk (Kd.R_lower (Kd.R_new' ho1 (Kd.R_lt (by (with_reducible repeat (first | apply Kd.R_alloc | apply Kd.R_drewN | apply Kd.R_drew)); exact HO_199001.out))) (below_size (by repeat (first | (with_reducible first | exact HB.out | apply below_alloc | apply pw_below_drewN | apply below_drew1 | refine below_set ?_ GE185.out | refine below_set ?_ GE198.out) | exact HB.out)))); have n4_ := Aside0.mk (blk_below (g := gb185) (o := .cells #[.slice A0_0 l0_0.length c0_0, .slice A0_1 l0_1.length c0_1] 25 (0, 0)) (by (with_reducible repeat (first | refine blk_drewN ?_ _ | refine blk_drew ?_ | refine blk_alloc ?_ _)); exact BK185.out) hb); have n5_ := Aside0.mk (blk_below (g := gb198) (o := .cells #[.slice Ao28 t190.length co28, .slice Ao31 t193.length co31] 25 (0, 0)) (by (with_reducible repeat (first | refine blk_drewN ?_ _ | refine blk_drew ?_ | refine blk_alloc ?_ _)); exact BK198.out) hb); have n6_ := Aside0.mk (below_step (by repeat (first | (with_reducible first | exact HB.out | apply below_alloc | apply pw_below_drewN | apply below_drew1 | refine below_set ?_ GE185.out | refine below_set ?_ GE198.out) | exact HB.out)) hb); clear HO_199000; clear HO_199001; clear BK185; clear BK198; clear HB; have HO_199000 := n0_; have HO_199001 := n1_; have HO202 := n2_; have HO205 := n3_; have BK185 := n4_; have BK198 := n5_; have HB := n6_; clear n0_ n1_ n2_ n3_ n4_ n5_ n6_; (try clear hb); (try clear hb2); (try clear hk); (try clear hi); (try clear ho0); (try clear ho1)) | ((with_reducible refine gate_dst (N := 17) rfl ?_); (try (refine gate_guard (by rfl) ?_; dsimp only)); refine box_event ?hg (N := 17) ?hd (cs := #[.slice none 0 0, .slice none 0 0]) (t := 25) ?hr ?_; (case hd => rfl); (case hg => rfl); (case hr => first | (go_simp; done) | (go_simp; rfl)); intro gb207 hg w47 hbox hb; have n0_ := Aside0.mk (Kd.R_below (by (with_reducible repeat (first | apply Kd.R_alloc | apply Kd.R_drewN | apply Kd.R_drew)); exact HO_199000.out) hb); have n1_ := Aside0.mk (Kd.R_below (by (with_reducible repeat (first | apply Kd.R_alloc | apply Kd.R_drewN | apply Kd.R_drew)); exact HO_199001.out) hb); have n2_ := Aside0.mk (Kd.R_below (by (with_reducible repeat (first | apply Kd.R_alloc | apply Kd.R_drewN | apply Kd.R_drew)); exact HO202.out) hb); have n3_ := Aside0.mk (Kd.R_below (by (with_reducible repeat (first | apply Kd.R_alloc | apply Kd.R_drewN | apply Kd.R_drew)); exact HO205.out) hb); have n4_ := Aside0.mk (blk_below (g := gb185) (o := .cells #[.slice A0_0 l0_0.length c0_0, .slice A0_1 l0_1.length c0_1] 25 (0, 0)) (by (with_reducible repeat (first | refine blk_drewN ?_ _ | refine blk_drew ?_ | refine blk_alloc ?_ _)); exact BK185.out) hb); have n5_ := Aside0.mk (blk_below (g := gb198) (o := .cells #[.slice Ao28 t190.length co28, .slice Ao31 t193.length co31] 25 (0, 0)) (by (with_reducible repeat (first | refine blk_drewN ?_ _ | refine blk_drew ?_ | refine blk_alloc ?_ _)); exact BK198.out) hb); have n6_ := Aside0.mk (below_step (by repeat (first | (with_reducible first | exact HB.out | apply below_alloc | apply pw_below_drewN | apply below_drew1 | refine below_set ?_ GE185.out | refine below_set ?_ GE198.out) | exact HB.out)) hb); have n7_ := Aside0.mk (hbox); have n8_ := Aside0.mk ((by rw [hg]; exact (below_size (by repeat (first | (with_reducible first | exact HB.out | apply below_alloc | apply pw_below_drewN | apply below_drew1 | refine below_set ?_ GE185.out | refine below_set ?_ GE198.out) | exact HB.out))) : w.heap.size ≤ gb207)); have n9_ := Aside0.mk ((by rw [hg]; exact (below_size (by repeat (first | (with_reducible first | exact HB.out | apply below_alloc | apply pw_below_drewN | apply below_drew1 | refine below_set ?_ GE185.out | refine below_set ?_ GE198.out) | exact HB.out))) : w.heap.size ≤ gb207)); have n10_ := Aside0.mk ((by rw [hg]; exact Nat.ne_of_lt (blk_lt (g := gb185) (o := .cells #[.slice A0_0 l0_0.length c0_0, .slice A0_1 l0_1.length c0_1] 25 (0, 0)) (by (with_reducible repeat (first | refine blk_drewN ?_ _ | refine blk_drew ?_ | refine blk_alloc ?_ _)); exact BK185.out)) : gb185 ≠ gb207)); have n11_ := Aside0.mk ((by rw [hg]; exact Nat.ne_of_gt (blk_lt (g := gb185) (o := .cells #[.slice A0_0 l0_0.length c0_0, .slice A0_1 l0_1.length c0_1] 25 (0, 0)) (by (with_reducible repeat (first | refine blk_drewN ?_ _ | refine blk_drew ?_ | refine blk_alloc ?_ _)); exact BK185.out)) : gb207 ≠ gb185)); have n12_ := Aside0.mk ((by rw [hg]; exact Nat.ne_of_lt (blk_lt (g := gb198) (o := .cells #[.slice Ao28 t190.length co28, .slice Ao31 t193.length co31] 25 (0, 0)) (by (with_reducible repeat (first | refine blk_drewN ?_ _ | refine blk_drew ?_ | refine blk_alloc ?_ _)); exact BK198.out)) : gb198 ≠ gb207)); have n13_ := Aside0.mk ((by rw [hg]; exact Nat.ne_of_gt (blk_lt (g := gb198) (o := .cells #[.slice Ao28 t190.length co28, .slice Ao31 t193.length co31] 25 (0, 0)) (by (with_reducible repeat (first | refine blk_drewN ?_ _ | refine blk_drew ?_ | refine blk_alloc ?_ _)); exact BK198.out)) : gb207 ≠ gb198)); clear HO_199000; clear HO_199001; clear HO202; clear HO205; clear BK185; clear BK198; clear HB; have HO_199000 := n0_; have HO_199001 := n1_; have HO202 := n2_; have HO205 := n3_; have BK185 := n4_; have BK198 := n5_; have HB := n6_; have BK207 := n7_; have GW207 := n8_; have GE207 := n9_; have NB185_207 := n10_; have NB207_185 := n11_; have NB198_207 := n12_; have NB207_198 := n13_; clear n0_ n1_ n2_ n3_ n4_ n5_ n6_ n7_ n8_ n9_ n10_ n11_ n12_ n13_; clear hb hbox hg; obtain ⟨Ao48, co48, eo48⟩ := Kd.R_slice HO202.out; subst eo48; have hnb49 := NB207_185.out; have hnc49 := NB185_207.out; have hnb50 := NB207_198.out; have hnc50 := NB198_207.out; have hcz51_0 : w47.cell? ⟨gb207, 0, none⟩ = some (.slice none 0 0) := (blk_cell BK207.out 0).trans rfl; have hcz51_1 : w47.cell? ⟨gb207, 1, none⟩ = some (.slice none 0 0) := (blk_cell BK207.out 1).trans rfl; have hfz51_0 := blk_frozen BK207.out 0; have hfz51_1 := blk_frozen BK207.out 1; obtain ⟨Ao52, co52, eo52⟩ := Kd.R_slice HO205.out; subst eo52) | ((with_reducible refine gate_callee (f := 12) rfl ?_); refine goesL_ (some 68) rfl rfl Try.func12 (by kernel_rfl) rfl #[.agg #[.slice Ao48 t200.length co48, .slice Ao52 t203.length co52], .int .i64 a1] rfl (by (try simp only [List.map_toArray, List.map_cons, List.map_nil]); first | done | rfl | (simp only [List.length_drop, List.length_take]; rfl)) ?_; (with_reducible refine (twin_Get.calls _ _ t200 _ _ t203 a1 t208 t209 t210 _ ?side1 ?side2 ?side3 ?side4 A37.out).mono ?_); (case side1 => refine (Kd.R_reads' (e := 9) (base := w.heap.size) (ok := fun k_ => (True ∧ some k_ ≠ (.slice Ao28 t190.length co28 : Value).ownBlock)) (n := t200.length) (c := co48) ?_).2.2; exact (by (with_reducible repeat (first | apply Kd.R_alloc | apply Kd.R_drewN | apply Kd.R_drew)); exact (Kd.R_mono (Kd.R_far (p := ⟨gb207, 1, none⟩) (Kd.R_far (p := ⟨gb207, 0, none⟩) (Kd.R_types HO202.out BK207.out (by decide)) (fun _ hk => hk.2) (.slice Ao48 t200.length co48)) (fun _ hk => hk.2) (.slice Ao52 t203.length co52)) (fun _ h_ => h_.1)))); (case side2 => exact (Kd.R_reads' HO202.out).2.1); (case side3 => refine (Kd.R_reads' (e := 73) (base := w.heap.size) (ok := fun k_ => (True ∧ some k_ ≠ (.slice Ao31 t193.length co31 : Value).ownBlock)) (n := t203.length) (c := co52) ?_).2.2; exact (by (with_reducible repeat (first | apply Kd.R_alloc | apply Kd.R_drewN | apply Kd.R_drew)); exact (Kd.R_mono (Kd.R_far (p := ⟨gb207, 1, none⟩) (Kd.R_far (p := ⟨gb207, 0, none⟩) (Kd.R_types HO205.out BK207.out (by decide)) (fun _ hk => hk.2) (.slice Ao48 t200.length co48)) (fun _ hk => hk.2) (.slice Ao52 t203.length co52)) (fun _ h_ => h_.1)))); (case side4 => exact (Kd.R_reads' HO205.out).2.1); rintro e w53 ⟨rfl, hb⟩; refine ⟨_, rfl, ?_⟩; have n0_ := Aside0.mk (Kd.R_below (by (with_reducible repeat (first | apply Kd.R_alloc | apply Kd.R_drewN | apply Kd.R_drew)); exact (Kd.R_mono (Kd.R_far (p := ⟨gb207, 1, none⟩) (Kd.R_far (p := ⟨gb207, 0, none⟩) (Kd.R_types HO_199000.out BK207.out (by decide)) (fun _ hk => hk.2) (.slice Ao48 t200.length co48)) (fun _ hk => hk.2) (.slice Ao52 t203.length co52)) (fun _ h_ => h_.1))) hb); have n1_ := Aside0.mk (Kd.R_below (by (with_reducible repeat (first | apply Kd.R_alloc | apply Kd.R_drewN | apply Kd.R_drew)); exact (Kd.R_mono (Kd.R_far (p := ⟨gb207, 1, none⟩) (Kd.R_far (p := ⟨gb207, 0, none⟩) (Kd.R_types HO_199001.out BK207.out (by decide)) (fun _ hk => hk.2) (.slice Ao48 t200.length co48)) (fun _ hk => hk.2) (.slice Ao52 t203.length co52)) (fun _ h_ => h_.1))) hb); have n2_ := Aside0.mk (Kd.R_below (by (with_reducible repeat (first | apply Kd.R_alloc | apply Kd.R_drewN | apply Kd.R_drew)); exact (Kd.R_mono (Kd.R_far (p := ⟨gb207, 1, none⟩) (Kd.R_far (p := ⟨gb207, 0, none⟩) (Kd.R_types HO202.out BK207.out (by decide)) (fun _ hk => hk.2) (.slice Ao48 t200.length co48)) (fun _ hk => hk.2) (.slice Ao52 t203.length co52)) (fun _ h_ => h_.1))) hb); have n3_ := Aside0.mk (Kd.R_below (by (with_reducible repeat (first | apply Kd.R_alloc | apply Kd.R_drewN | apply Kd.R_drew)); exact (Kd.R_mono (Kd.R_far (p := ⟨gb207, 1, none⟩) (Kd.R_far (p := ⟨gb207, 0, none⟩) (Kd.R_types HO205.out BK207.out (by decide)) (fun _ hk => hk.2) (.slice Ao48 t200.length co48)) (fun _ hk => hk.2) (.slice Ao52 t203.length co52)) (fun _ h_ => h_.1))) hb); have n4_ := Aside0.mk (blk_below (g := gb185) (o := .cells #[.slice A0_0 l0_0.length c0_0, .slice A0_1 l0_1.length c0_1] 25 (0, 0)) (by (with_reducible repeat (first | refine blk_drewN ?_ _ | refine blk_drew ?_ | refine blk_alloc ?_ _)); refine blk_far ?_ NB185_207.out _; (with_reducible repeat (first | refine blk_drewN ?_ _ | refine blk_drew ?_ | refine blk_alloc ?_ _)); refine blk_far ?_ NB185_207.out _; (with_reducible repeat (first | refine blk_drewN ?_ _ | refine blk_drew ?_ | refine blk_alloc ?_ _)); exact BK185.out) hb); have n5_ := Aside0.mk (blk_below (g := gb198) (o := .cells #[.slice Ao28 t190.length co28, .slice Ao31 t193.length co31] 25 (0, 0)) (by (with_reducible repeat (first | refine blk_drewN ?_ _ | refine blk_drew ?_ | refine blk_alloc ?_ _)); refine blk_far ?_ NB198_207.out _; (with_reducible repeat (first | refine blk_drewN ?_ _ | refine blk_drew ?_ | refine blk_alloc ?_ _)); refine blk_far ?_ NB198_207.out _; (with_reducible repeat (first | refine blk_drewN ?_ _ | refine blk_drew ?_ | refine blk_alloc ?_ _)); exact BK198.out) hb); have n6_ := Aside0.mk (blk_below (g := gb207) (o := .cells #[.slice Ao48 t200.length co48, .slice Ao52 t203.length co52] 25 (0, 0)) (by (with_reducible repeat (first | refine blk_drewN ?_ _ | refine blk_drew ?_ | refine blk_alloc ?_ _)); refine blk_put (cs := #[.slice Ao48 t200.length co48, .slice none 0 0]) ?_ 1 _ rfl; (with_reducible repeat (first | refine blk_drewN ?_ _ | refine blk_drew ?_ | refine blk_alloc ?_ _)); refine blk_put (cs := #[.slice none 0 0, .slice none 0 0]) ?_ 0 _ rfl; (with_reducible repeat (first | refine blk_drewN ?_ _ | refine blk_drew ?_ | refine blk_alloc ?_ _)); exact BK207.out) hb); have n7_ := Aside0.mk (below_step (by repeat (first | (with_reducible first | exact HB.out | apply below_alloc | apply pw_below_drewN | apply below_drew1 | refine below_set ?_ GE185.out | refine below_set ?_ GE198.out | refine below_set ?_ GE207.out) | exact HB.out)) hb); clear HO_199000; clear HO_199001; clear HO202; clear HO205; clear BK185; clear BK198; clear BK207; clear HB; have HO_199000 := n0_; have HO_199001 := n1_; have HO202 := n2_; have HO205 := n3_; have BK185 := n4_; have BK198 := n5_; have BK207 := n6_; have HB := n7_; clear n0_ n1_ n2_ n3_ n4_ n5_ n6_ n7_; (try clear hb); (try clear hb2); (try clear hk); (try clear hi)) | ((with_reducible refine gate_callee (f := 14) rfl ?_); refine goesL_ (some 72) rfl rfl Try.func14 (by kernel_rfl) rfl #[] rfl (by (try simp only [List.map_toArray, List.map_cons, List.map_nil]); first | done | rfl | (simp only [List.length_drop, List.length_take]; rfl)) ?_; (with_reducible refine (sextonlaw05_twins.calls  true _ A38.out).mono ?_); rintro e w54 ⟨rfl, hb⟩; refine ⟨_, rfl, ?_⟩; have n0_ := Aside0.mk (Kd.R_below (by (with_reducible repeat (first | apply Kd.R_alloc | apply Kd.R_drewN | apply Kd.R_drew)); exact HO_199000.out) hb); have n1_ := Aside0.mk (Kd.R_below (by (with_reducible repeat (first | apply Kd.R_alloc | apply Kd.R_drewN | apply Kd.R_drew)); exact HO_199001.out) hb); have n2_ := Aside0.mk (Kd.R_below (by (with_reducible repeat (first | apply Kd.R_alloc | apply Kd.R_drewN | apply Kd.R_drew)); exact HO202.out) hb); have n3_ := Aside0.mk (Kd.R_below (by (with_reducible repeat (first | apply Kd.R_alloc | apply Kd.R_drewN | apply Kd.R_drew)); exact HO205.out) hb); have n4_ := Aside0.mk (blk_below (g := gb185) (o := .cells #[.slice A0_0 l0_0.length c0_0, .slice A0_1 l0_1.length c0_1] 25 (0, 0)) (by (with_reducible repeat (first | refine blk_drewN ?_ _ | refine blk_drew ?_ | refine blk_alloc ?_ _)); exact BK185.out) hb); have n5_ := Aside0.mk (blk_below (g := gb198) (o := .cells #[.slice Ao28 t190.length co28, .slice Ao31 t193.length co31] 25 (0, 0)) (by (with_reducible repeat (first | refine blk_drewN ?_ _ | refine blk_drew ?_ | refine blk_alloc ?_ _)); exact BK198.out) hb); have n6_ := Aside0.mk (blk_below (g := gb207) (o := .cells #[.slice Ao48 t200.length co48, .slice Ao52 t203.length co52] 25 (0, 0)) (by (with_reducible repeat (first | refine blk_drewN ?_ _ | refine blk_drew ?_ | refine blk_alloc ?_ _)); exact BK207.out) hb); have n7_ := Aside0.mk (below_step (by repeat (first | (with_reducible first | exact HB.out | apply below_alloc | apply pw_below_drewN | apply below_drew1 | refine below_set ?_ GE185.out | refine below_set ?_ GE198.out | refine below_set ?_ GE207.out) | exact HB.out)) hb); clear HO_199000; clear HO_199001; clear HO202; clear HO205; clear BK185; clear BK198; clear BK207; clear HB; have HO_199000 := n0_; have HO_199001 := n1_; have HO202 := n2_; have HO205 := n3_; have BK185 := n4_; have BK198 := n5_; have BK207 := n6_; have HB := n7_; clear n0_ n1_ n2_ n3_ n4_ n5_ n6_ n7_; (try clear hb); (try clear hb2); (try clear hk); (try clear hi)))
                        go_ret
                        exact ⟨by first | rfl | (simp [errW_none, errW_some] <;> rfl) | (simp [*, errW_none, errW_some] <;> rfl), by repeat (first | (with_reducible first | exact HB.out | apply below_alloc | apply pw_below_drewN | apply below_drew1 | refine below_set ?_ GE185.out | refine below_set ?_ GE198.out | refine below_set ?_ GE207.out) | exact HB.out)⟩
                      · rw [if_neg c43] at H
                        have c43b0 : (t208.toList == a2.toList) = false := beq_eq_false_iff_ne.mpr c43
                        have c43b1 : (t208.toList != a2.toList) = true := bne_iff_ne.mpr c43
                        by_cases c55 : t196 = true
                        · subst c55
                          have H1 : (some false) = some r := by rw [if_pos rfl] at H; exact H
                          exact absurd (H1.trans (congrArg some HRT.out)) (by decide)
                        · replace c55 := Bool.eq_false_iff.mpr c55
                          subst c55
                          have H1 : (if t209 = t188 then (some (t208.toList == t187.toList)) else (some false)) = some r := by rw [if_neg (show ¬ (false = true) by decide)] at H; exact H
                          clear H
                          have H := H1
                          clear H1
                          by_cases c67 : t209 = t188
                          · rw [if_pos c67] at H
                            have c67b0 : (t209 == t188) = true := beq_iff_eq.mpr c67
                            have c67b1 : (t209 != t188) = false := bne_eq_false_iff_eq.mpr c67
                            clear c67
                            obtain rfl := Option.some.inj H
                            have hnb68 := NB198_185.out
                            have hnc68 := NB185_198.out
                            have hcz69_0 : wc.cell? ⟨gb198, 0, none⟩ = some (.slice Ao28 t190.length co28) := (blk_cell BK198.out 0).trans rfl
                            have hcz69_1 : wc.cell? ⟨gb198, 1, none⟩ = some (.slice Ao31 t193.length co31) := (blk_cell BK198.out 1).trans rfl
                            have hfz69_0 := blk_frozen BK198.out 0
                            have hfz69_1 := blk_frozen BK198.out 1
                            go_wp2_with (first | ((with_reducible refine gate_callee (f := 16) rfl ?_); refine goesL_ (some 62) rfl rfl Try.func16 (by kernel_rfl) rfl #[.agg #[.slice Ao28 t190.length co28, .slice Ao31 t193.length co31], .slice A4 l4.length c4] rfl (by (try simp only [List.map_toArray, List.map_cons, List.map_nil]); first | done | rfl | (simp only [List.length_drop, List.length_take]; rfl)) ?_; (with_reducible refine (disk_Crash.calls _ _ t190 _ _ t193 _ _ l4 t200 t203 t206 _ ?side1 ?side2 ?side3 ?side4 ?side5 ?side6 A36.out).mono ?_); (case side1 => repeat (first | exact (Kd.R_reads' HO_199000.out).2.2 | (with_reducible refine Kd.C_alloc ?_ _) | (with_reducible refine Kd.C_drewN ?_ _) | (with_reducible refine Kd.C_drew ?_))); (case side2 => exact (Kd.R_reads' HO_199000.out).2.1); (case side3 => repeat (first | exact (Kd.R_reads' HO_199001.out).2.2 | (with_reducible refine Kd.C_alloc ?_ _) | (with_reducible refine Kd.C_drewN ?_ _) | (with_reducible refine Kd.C_drew ?_))); (case side4 => exact (Kd.R_reads' HO_199001.out).2.1); (case side5 => repeat (first | exact (Kd.C_below HR4.out HB.out) | (with_reducible refine Kd.C_alloc ?_ _) | (with_reducible refine Kd.C_drewN ?_ _) | (with_reducible refine Kd.C_drew ?_))); (case side6 => exact HC4.out); rintro e w70 ⟨v201, v204, rfl, ho0, ho1, hb⟩; refine ⟨_, rfl, ?_⟩; have n0_ := Aside0.mk (Kd.R_elder' (by (with_reducible repeat (first | apply Kd.R_alloc | apply Kd.R_drewN | apply Kd.R_drew)); exact HO_199000.out) (Kd.R_base ho0) hb); have n1_ := Aside0.mk (Kd.R_elder' (by (with_reducible repeat (first | apply Kd.R_alloc | apply Kd.R_drewN | apply Kd.R_drew)); exact HO_199001.out) (Kd.R_base ho1) hb); have n2_ := Aside0.mk (Kd.R_lower (Kd.R_new' ho0 (Kd.R_lt (by (with_reducible repeat (first | apply Kd.R_alloc | apply Kd.R_drewN | apply Kd.R_drew)); exact HO_199000.out))) (below_size (by repeat (first | (with_reducible first | exact HB.out | apply below_alloc | apply pw_below_drewN | apply below_drew1 | refine below_set ?_ GE185.out | refine below_set ?_ GE198.out) | exact HB.out)))); have n3_ := Aside0.mk (Kd.R_lower (Kd.R_new' ho1 (Kd.R_lt (by (with_reducible repeat (first | apply Kd.R_alloc | apply Kd.R_drewN | apply Kd.R_drew)); exact HO_199001.out))) (below_size (by repeat (first | (with_reducible first | exact HB.out | apply below_alloc | apply pw_below_drewN | apply below_drew1 | refine below_set ?_ GE185.out | refine below_set ?_ GE198.out) | exact HB.out)))); have n4_ := Aside0.mk (blk_below (g := gb185) (o := .cells #[.slice A0_0 l0_0.length c0_0, .slice A0_1 l0_1.length c0_1] 25 (0, 0)) (by (with_reducible repeat (first | refine blk_drewN ?_ _ | refine blk_drew ?_ | refine blk_alloc ?_ _)); exact BK185.out) hb); have n5_ := Aside0.mk (blk_below (g := gb198) (o := .cells #[.slice Ao28 t190.length co28, .slice Ao31 t193.length co31] 25 (0, 0)) (by (with_reducible repeat (first | refine blk_drewN ?_ _ | refine blk_drew ?_ | refine blk_alloc ?_ _)); exact BK198.out) hb); have n6_ := Aside0.mk (below_step (by repeat (first | (with_reducible first | exact HB.out | apply below_alloc | apply pw_below_drewN | apply below_drew1 | refine below_set ?_ GE185.out | refine below_set ?_ GE198.out) | exact HB.out)) hb); clear HO_199000; clear HO_199001; clear BK185; clear BK198; clear HB; have HO_199000 := n0_; have HO_199001 := n1_; have HO202 := n2_; have HO205 := n3_; have BK185 := n4_; have BK198 := n5_; have HB := n6_; clear n0_ n1_ n2_ n3_ n4_ n5_ n6_; (try clear hb); (try clear hb2); (try clear hk); (try clear hi); (try clear ho0); (try clear ho1)) | ((with_reducible refine gate_dst (N := 17) rfl ?_); (try (refine gate_guard (by rfl) ?_; dsimp only)); refine box_event ?hg (N := 17) ?hd (cs := #[.slice none 0 0, .slice none 0 0]) (t := 25) ?hr ?_; (case hd => rfl); (case hg => rfl); (case hr => first | (go_simp; done) | (go_simp; rfl)); intro gb207 hg w71 hbox hb; have n0_ := Aside0.mk (Kd.R_below (by (with_reducible repeat (first | apply Kd.R_alloc | apply Kd.R_drewN | apply Kd.R_drew)); exact HO_199000.out) hb); have n1_ := Aside0.mk (Kd.R_below (by (with_reducible repeat (first | apply Kd.R_alloc | apply Kd.R_drewN | apply Kd.R_drew)); exact HO_199001.out) hb); have n2_ := Aside0.mk (Kd.R_below (by (with_reducible repeat (first | apply Kd.R_alloc | apply Kd.R_drewN | apply Kd.R_drew)); exact HO202.out) hb); have n3_ := Aside0.mk (Kd.R_below (by (with_reducible repeat (first | apply Kd.R_alloc | apply Kd.R_drewN | apply Kd.R_drew)); exact HO205.out) hb); have n4_ := Aside0.mk (blk_below (g := gb185) (o := .cells #[.slice A0_0 l0_0.length c0_0, .slice A0_1 l0_1.length c0_1] 25 (0, 0)) (by (with_reducible repeat (first | refine blk_drewN ?_ _ | refine blk_drew ?_ | refine blk_alloc ?_ _)); exact BK185.out) hb); have n5_ := Aside0.mk (blk_below (g := gb198) (o := .cells #[.slice Ao28 t190.length co28, .slice Ao31 t193.length co31] 25 (0, 0)) (by (with_reducible repeat (first | refine blk_drewN ?_ _ | refine blk_drew ?_ | refine blk_alloc ?_ _)); exact BK198.out) hb); have n6_ := Aside0.mk (below_step (by repeat (first | (with_reducible first | exact HB.out | apply below_alloc | apply pw_below_drewN | apply below_drew1 | refine below_set ?_ GE185.out | refine below_set ?_ GE198.out) | exact HB.out)) hb); have n7_ := Aside0.mk (hbox); have n8_ := Aside0.mk ((by rw [hg]; exact (below_size (by repeat (first | (with_reducible first | exact HB.out | apply below_alloc | apply pw_below_drewN | apply below_drew1 | refine below_set ?_ GE185.out | refine below_set ?_ GE198.out) | exact HB.out))) : w.heap.size ≤ gb207)); have n9_ := Aside0.mk ((by rw [hg]; exact (below_size (by repeat (first | (with_reducible first | exact HB.out | apply below_alloc | apply pw_below_drewN | apply below_drew1 | refine below_set ?_ GE185.out | refine below_set ?_ GE198.out) | exact HB.out))) : w.heap.size ≤ gb207)); have n10_ := Aside0.mk ((by rw [hg]; exact Nat.ne_of_lt (blk_lt (g := gb185) (o := .cells #[.slice A0_0 l0_0.length c0_0, .slice A0_1 l0_1.length c0_1] 25 (0, 0)) (by (with_reducible repeat (first | refine blk_drewN ?_ _ | refine blk_drew ?_ | refine blk_alloc ?_ _)); exact BK185.out)) : gb185 ≠ gb207)); have n11_ := Aside0.mk ((by rw [hg]; exact Nat.ne_of_gt (blk_lt (g := gb185) (o := .cells #[.slice A0_0 l0_0.length c0_0, .slice A0_1 l0_1.length c0_1] 25 (0, 0)) (by (with_reducible repeat (first | refine blk_drewN ?_ _ | refine blk_drew ?_ | refine blk_alloc ?_ _)); exact BK185.out)) : gb207 ≠ gb185)); have n12_ := Aside0.mk ((by rw [hg]; exact Nat.ne_of_lt (blk_lt (g := gb198) (o := .cells #[.slice Ao28 t190.length co28, .slice Ao31 t193.length co31] 25 (0, 0)) (by (with_reducible repeat (first | refine blk_drewN ?_ _ | refine blk_drew ?_ | refine blk_alloc ?_ _)); exact BK198.out)) : gb198 ≠ gb207)); have n13_ := Aside0.mk ((by rw [hg]; exact Nat.ne_of_gt (blk_lt (g := gb198) (o := .cells #[.slice Ao28 t190.length co28, .slice Ao31 t193.length co31] 25 (0, 0)) (by (with_reducible repeat (first | refine blk_drewN ?_ _ | refine blk_drew ?_ | refine blk_alloc ?_ _)); exact BK198.out)) : gb207 ≠ gb198)); clear HO_199000; clear HO_199001; clear HO202; clear HO205; clear BK185; clear BK198; clear HB; have HO_199000 := n0_; have HO_199001 := n1_; have HO202 := n2_; have HO205 := n3_; have BK185 := n4_; have BK198 := n5_; have HB := n6_; have BK207 := n7_; have GW207 := n8_; have GE207 := n9_; have NB185_207 := n10_; have NB207_185 := n11_; have NB198_207 := n12_; have NB207_198 := n13_; clear n0_ n1_ n2_ n3_ n4_ n5_ n6_ n7_ n8_ n9_ n10_ n11_ n12_ n13_; clear hb hbox hg; obtain ⟨Ao72, co72, eo72⟩ := Kd.R_slice HO202.out; subst eo72; have hnb73 := NB207_185.out; have hnc73 := NB185_207.out; have hnb74 := NB207_198.out; have hnc74 := NB198_207.out; have hcz75_0 : w71.cell? ⟨gb207, 0, none⟩ = some (.slice none 0 0) := (blk_cell BK207.out 0).trans rfl; have hcz75_1 : w71.cell? ⟨gb207, 1, none⟩ = some (.slice none 0 0) := (blk_cell BK207.out 1).trans rfl; have hfz75_0 := blk_frozen BK207.out 0; have hfz75_1 := blk_frozen BK207.out 1; obtain ⟨Ao76, co76, eo76⟩ := Kd.R_slice HO205.out; subst eo76) | ((with_reducible refine gate_callee (f := 12) rfl ?_); refine goesL_ (some 68) rfl rfl Try.func12 (by kernel_rfl) rfl #[.agg #[.slice Ao72 t200.length co72, .slice Ao76 t203.length co76], .int .i64 a1] rfl (by (try simp only [List.map_toArray, List.map_cons, List.map_nil]); first | done | rfl | (simp only [List.length_drop, List.length_take]; rfl)) ?_; (with_reducible refine (twin_Get.calls _ _ t200 _ _ t203 a1 t208 t209 t210 _ ?side1 ?side2 ?side3 ?side4 A37.out).mono ?_); (case side1 => refine (Kd.R_reads' (e := 9) (base := w.heap.size) (ok := fun k_ => (True ∧ some k_ ≠ (.slice Ao28 t190.length co28 : Value).ownBlock)) (n := t200.length) (c := co72) ?_).2.2; exact (by (with_reducible repeat (first | apply Kd.R_alloc | apply Kd.R_drewN | apply Kd.R_drew)); exact (Kd.R_mono (Kd.R_far (p := ⟨gb207, 1, none⟩) (Kd.R_far (p := ⟨gb207, 0, none⟩) (Kd.R_types HO202.out BK207.out (by decide)) (fun _ hk => hk.2) (.slice Ao72 t200.length co72)) (fun _ hk => hk.2) (.slice Ao76 t203.length co76)) (fun _ h_ => h_.1)))); (case side2 => exact (Kd.R_reads' HO202.out).2.1); (case side3 => refine (Kd.R_reads' (e := 73) (base := w.heap.size) (ok := fun k_ => (True ∧ some k_ ≠ (.slice Ao31 t193.length co31 : Value).ownBlock)) (n := t203.length) (c := co76) ?_).2.2; exact (by (with_reducible repeat (first | apply Kd.R_alloc | apply Kd.R_drewN | apply Kd.R_drew)); exact (Kd.R_mono (Kd.R_far (p := ⟨gb207, 1, none⟩) (Kd.R_far (p := ⟨gb207, 0, none⟩) (Kd.R_types HO205.out BK207.out (by decide)) (fun _ hk => hk.2) (.slice Ao72 t200.length co72)) (fun _ hk => hk.2) (.slice Ao76 t203.length co76)) (fun _ h_ => h_.1)))); (case side4 => exact (Kd.R_reads' HO205.out).2.1); rintro e w77 ⟨rfl, hb⟩; refine ⟨_, rfl, ?_⟩; have n0_ := Aside0.mk (Kd.R_below (by (with_reducible repeat (first | apply Kd.R_alloc | apply Kd.R_drewN | apply Kd.R_drew)); exact (Kd.R_mono (Kd.R_far (p := ⟨gb207, 1, none⟩) (Kd.R_far (p := ⟨gb207, 0, none⟩) (Kd.R_types HO_199000.out BK207.out (by decide)) (fun _ hk => hk.2) (.slice Ao72 t200.length co72)) (fun _ hk => hk.2) (.slice Ao76 t203.length co76)) (fun _ h_ => h_.1))) hb); have n1_ := Aside0.mk (Kd.R_below (by (with_reducible repeat (first | apply Kd.R_alloc | apply Kd.R_drewN | apply Kd.R_drew)); exact (Kd.R_mono (Kd.R_far (p := ⟨gb207, 1, none⟩) (Kd.R_far (p := ⟨gb207, 0, none⟩) (Kd.R_types HO_199001.out BK207.out (by decide)) (fun _ hk => hk.2) (.slice Ao72 t200.length co72)) (fun _ hk => hk.2) (.slice Ao76 t203.length co76)) (fun _ h_ => h_.1))) hb); have n2_ := Aside0.mk (Kd.R_below (by (with_reducible repeat (first | apply Kd.R_alloc | apply Kd.R_drewN | apply Kd.R_drew)); exact (Kd.R_mono (Kd.R_far (p := ⟨gb207, 1, none⟩) (Kd.R_far (p := ⟨gb207, 0, none⟩) (Kd.R_types HO202.out BK207.out (by decide)) (fun _ hk => hk.2) (.slice Ao72 t200.length co72)) (fun _ hk => hk.2) (.slice Ao76 t203.length co76)) (fun _ h_ => h_.1))) hb); have n3_ := Aside0.mk (Kd.R_below (by (with_reducible repeat (first | apply Kd.R_alloc | apply Kd.R_drewN | apply Kd.R_drew)); exact (Kd.R_mono (Kd.R_far (p := ⟨gb207, 1, none⟩) (Kd.R_far (p := ⟨gb207, 0, none⟩) (Kd.R_types HO205.out BK207.out (by decide)) (fun _ hk => hk.2) (.slice Ao72 t200.length co72)) (fun _ hk => hk.2) (.slice Ao76 t203.length co76)) (fun _ h_ => h_.1))) hb); have n4_ := Aside0.mk (blk_below (g := gb185) (o := .cells #[.slice A0_0 l0_0.length c0_0, .slice A0_1 l0_1.length c0_1] 25 (0, 0)) (by (with_reducible repeat (first | refine blk_drewN ?_ _ | refine blk_drew ?_ | refine blk_alloc ?_ _)); refine blk_far ?_ NB185_207.out _; (with_reducible repeat (first | refine blk_drewN ?_ _ | refine blk_drew ?_ | refine blk_alloc ?_ _)); refine blk_far ?_ NB185_207.out _; (with_reducible repeat (first | refine blk_drewN ?_ _ | refine blk_drew ?_ | refine blk_alloc ?_ _)); exact BK185.out) hb); have n5_ := Aside0.mk (blk_below (g := gb198) (o := .cells #[.slice Ao28 t190.length co28, .slice Ao31 t193.length co31] 25 (0, 0)) (by (with_reducible repeat (first | refine blk_drewN ?_ _ | refine blk_drew ?_ | refine blk_alloc ?_ _)); refine blk_far ?_ NB198_207.out _; (with_reducible repeat (first | refine blk_drewN ?_ _ | refine blk_drew ?_ | refine blk_alloc ?_ _)); refine blk_far ?_ NB198_207.out _; (with_reducible repeat (first | refine blk_drewN ?_ _ | refine blk_drew ?_ | refine blk_alloc ?_ _)); exact BK198.out) hb); have n6_ := Aside0.mk (blk_below (g := gb207) (o := .cells #[.slice Ao72 t200.length co72, .slice Ao76 t203.length co76] 25 (0, 0)) (by (with_reducible repeat (first | refine blk_drewN ?_ _ | refine blk_drew ?_ | refine blk_alloc ?_ _)); refine blk_put (cs := #[.slice Ao72 t200.length co72, .slice none 0 0]) ?_ 1 _ rfl; (with_reducible repeat (first | refine blk_drewN ?_ _ | refine blk_drew ?_ | refine blk_alloc ?_ _)); refine blk_put (cs := #[.slice none 0 0, .slice none 0 0]) ?_ 0 _ rfl; (with_reducible repeat (first | refine blk_drewN ?_ _ | refine blk_drew ?_ | refine blk_alloc ?_ _)); exact BK207.out) hb); have n7_ := Aside0.mk (below_step (by repeat (first | (with_reducible first | exact HB.out | apply below_alloc | apply pw_below_drewN | apply below_drew1 | refine below_set ?_ GE185.out | refine below_set ?_ GE198.out | refine below_set ?_ GE207.out) | exact HB.out)) hb); clear HO_199000; clear HO_199001; clear HO202; clear HO205; clear BK185; clear BK198; clear BK207; clear HB; have HO_199000 := n0_; have HO_199001 := n1_; have HO202 := n2_; have HO205 := n3_; have BK185 := n4_; have BK198 := n5_; have BK207 := n6_; have HB := n7_; clear n0_ n1_ n2_ n3_ n4_ n5_ n6_ n7_; (try clear hb); (try clear hb2); (try clear hk); (try clear hi)) | ((with_reducible refine gate_callee (f := 14) rfl ?_); refine goesL_ (some 72) rfl rfl Try.func14 (by kernel_rfl) rfl #[] rfl (by (try simp only [List.map_toArray, List.map_cons, List.map_nil]); first | done | rfl | (simp only [List.length_drop, List.length_take]; rfl)) ?_; (with_reducible refine (sextonlaw05_twins.calls  true _ A38.out).mono ?_); rintro e w78 ⟨rfl, hb⟩; refine ⟨_, rfl, ?_⟩; have n0_ := Aside0.mk (Kd.R_below (by (with_reducible repeat (first | apply Kd.R_alloc | apply Kd.R_drewN | apply Kd.R_drew)); exact HO_199000.out) hb); have n1_ := Aside0.mk (Kd.R_below (by (with_reducible repeat (first | apply Kd.R_alloc | apply Kd.R_drewN | apply Kd.R_drew)); exact HO_199001.out) hb); have n2_ := Aside0.mk (Kd.R_below (by (with_reducible repeat (first | apply Kd.R_alloc | apply Kd.R_drewN | apply Kd.R_drew)); exact HO202.out) hb); have n3_ := Aside0.mk (Kd.R_below (by (with_reducible repeat (first | apply Kd.R_alloc | apply Kd.R_drewN | apply Kd.R_drew)); exact HO205.out) hb); have n4_ := Aside0.mk (blk_below (g := gb185) (o := .cells #[.slice A0_0 l0_0.length c0_0, .slice A0_1 l0_1.length c0_1] 25 (0, 0)) (by (with_reducible repeat (first | refine blk_drewN ?_ _ | refine blk_drew ?_ | refine blk_alloc ?_ _)); exact BK185.out) hb); have n5_ := Aside0.mk (blk_below (g := gb198) (o := .cells #[.slice Ao28 t190.length co28, .slice Ao31 t193.length co31] 25 (0, 0)) (by (with_reducible repeat (first | refine blk_drewN ?_ _ | refine blk_drew ?_ | refine blk_alloc ?_ _)); exact BK198.out) hb); have n6_ := Aside0.mk (blk_below (g := gb207) (o := .cells #[.slice Ao72 t200.length co72, .slice Ao76 t203.length co76] 25 (0, 0)) (by (with_reducible repeat (first | refine blk_drewN ?_ _ | refine blk_drew ?_ | refine blk_alloc ?_ _)); exact BK207.out) hb); have n7_ := Aside0.mk (below_step (by repeat (first | (with_reducible first | exact HB.out | apply below_alloc | apply pw_below_drewN | apply below_drew1 | refine below_set ?_ GE185.out | refine below_set ?_ GE198.out | refine below_set ?_ GE207.out) | exact HB.out)) hb); clear HO_199000; clear HO_199001; clear HO202; clear HO205; clear BK185; clear BK198; clear BK207; clear HB; have HO_199000 := n0_; have HO_199001 := n1_; have HO202 := n2_; have HO205 := n3_; have BK185 := n4_; have BK198 := n5_; have BK207 := n6_; have HB := n7_; clear n0_ n1_ n2_ n3_ n4_ n5_ n6_ n7_; (try clear hb); (try clear hb2); (try clear hk); (try clear hi)))
                            go_ret
                            exact ⟨by first | rfl | (simp [errW_none, errW_some] <;> rfl) | (simp [*, errW_none, errW_some] <;> rfl), by repeat (first | (with_reducible first | exact HB.out | apply below_alloc | apply pw_below_drewN | apply below_drew1 | refine below_set ?_ GE185.out | refine below_set ?_ GE198.out | refine below_set ?_ GE207.out) | exact HB.out)⟩
                          · rw [if_neg c67] at H
                            exact absurd (H.trans (congrArg some HRT.out)) (by decide)
                    · rw [if_neg c42] at H
                      have c42b0 : ((wrap64 (t209 - 1)) == t188) = false := beq_eq_false_iff_ne.mpr c42
                      have c42b1 : ((wrap64 (t209 - 1)) != t188) = true := bne_iff_ne.mpr c42
                      by_cases c90 : t196 = true
                      · subst c90
                        have H1 : (some false) = some r := by rw [if_pos rfl] at H; exact H
                        exact absurd (H1.trans (congrArg some HRT.out)) (by decide)
                      · replace c90 := Bool.eq_false_iff.mpr c90
                        subst c90
                        have H1 : (if t209 = t188 then (some (t208.toList == t187.toList)) else (some false)) = some r := by rw [if_neg (show ¬ (false = true) by decide)] at H; exact H
                        clear H
                        have H := H1
                        clear H1
                        by_cases c102 : t209 = t188
                        · rw [if_pos c102] at H
                          have c102b0 : (t209 == t188) = true := beq_iff_eq.mpr c102
                          have c102b1 : (t209 != t188) = false := bne_eq_false_iff_eq.mpr c102
                          clear c102
                          obtain rfl := Option.some.inj H
                          have hnb103 := NB198_185.out
                          have hnc103 := NB185_198.out
                          have hcz104_0 : wc.cell? ⟨gb198, 0, none⟩ = some (.slice Ao28 t190.length co28) := (blk_cell BK198.out 0).trans rfl
                          have hcz104_1 : wc.cell? ⟨gb198, 1, none⟩ = some (.slice Ao31 t193.length co31) := (blk_cell BK198.out 1).trans rfl
                          have hfz104_0 := blk_frozen BK198.out 0
                          have hfz104_1 := blk_frozen BK198.out 1
                          go_wp2_with (first | ((with_reducible refine gate_callee (f := 16) rfl ?_); refine goesL_ (some 62) rfl rfl Try.func16 (by kernel_rfl) rfl #[.agg #[.slice Ao28 t190.length co28, .slice Ao31 t193.length co31], .slice A4 l4.length c4] rfl (by (try simp only [List.map_toArray, List.map_cons, List.map_nil]); first | done | rfl | (simp only [List.length_drop, List.length_take]; rfl)) ?_; (with_reducible refine (disk_Crash.calls _ _ t190 _ _ t193 _ _ l4 t200 t203 t206 _ ?side1 ?side2 ?side3 ?side4 ?side5 ?side6 A36.out).mono ?_); (case side1 => repeat (first | exact (Kd.R_reads' HO_199000.out).2.2 | (with_reducible refine Kd.C_alloc ?_ _) | (with_reducible refine Kd.C_drewN ?_ _) | (with_reducible refine Kd.C_drew ?_))); (case side2 => exact (Kd.R_reads' HO_199000.out).2.1); (case side3 => repeat (first | exact (Kd.R_reads' HO_199001.out).2.2 | (with_reducible refine Kd.C_alloc ?_ _) | (with_reducible refine Kd.C_drewN ?_ _) | (with_reducible refine Kd.C_drew ?_))); (case side4 => exact (Kd.R_reads' HO_199001.out).2.1); (case side5 => repeat (first | exact (Kd.C_below HR4.out HB.out) | (with_reducible refine Kd.C_alloc ?_ _) | (with_reducible refine Kd.C_drewN ?_ _) | (with_reducible refine Kd.C_drew ?_))); (case side6 => exact HC4.out); rintro e w105 ⟨v201, v204, rfl, ho0, ho1, hb⟩; refine ⟨_, rfl, ?_⟩; have n0_ := Aside0.mk (Kd.R_elder' (by (with_reducible repeat (first | apply Kd.R_alloc | apply Kd.R_drewN | apply Kd.R_drew)); exact HO_199000.out) (Kd.R_base ho0) hb); have n1_ := Aside0.mk (Kd.R_elder' (by (with_reducible repeat (first | apply Kd.R_alloc | apply Kd.R_drewN | apply Kd.R_drew)); exact HO_199001.out) (Kd.R_base ho1) hb); have n2_ := Aside0.mk (Kd.R_lower (Kd.R_new' ho0 (Kd.R_lt (by (with_reducible repeat (first | apply Kd.R_alloc | apply Kd.R_drewN | apply Kd.R_drew)); exact HO_199000.out))) (below_size (by repeat (first | (with_reducible first | exact HB.out | apply below_alloc | apply pw_below_drewN | apply below_drew1 | refine below_set ?_ GE185.out | refine below_set ?_ GE198.out) | exact HB.out)))); have n3_ := Aside0.mk (Kd.R_lower (Kd.R_new' ho1 (Kd.R_lt (by (with_reducible repeat (first | apply Kd.R_alloc | apply Kd.R_drewN | apply Kd.R_drew)); exact HO_199001.out))) (below_size (by repeat (first | (with_reducible first | exact HB.out | apply below_alloc | apply pw_below_drewN | apply below_drew1 | refine below_set ?_ GE185.out | refine below_set ?_ GE198.out) | exact HB.out)))); have n4_ := Aside0.mk (blk_below (g := gb185) (o := .cells #[.slice A0_0 l0_0.length c0_0, .slice A0_1 l0_1.length c0_1] 25 (0, 0)) (by (with_reducible repeat (first | refine blk_drewN ?_ _ | refine blk_drew ?_ | refine blk_alloc ?_ _)); exact BK185.out) hb); have n5_ := Aside0.mk (blk_below (g := gb198) (o := .cells #[.slice Ao28 t190.length co28, .slice Ao31 t193.length co31] 25 (0, 0)) (by (with_reducible repeat (first | refine blk_drewN ?_ _ | refine blk_drew ?_ | refine blk_alloc ?_ _)); exact BK198.out) hb); have n6_ := Aside0.mk (below_step (by repeat (first | (with_reducible first | exact HB.out | apply below_alloc | apply pw_below_drewN | apply below_drew1 | refine below_set ?_ GE185.out | refine below_set ?_ GE198.out) | exact HB.out)) hb); clear HO_199000; clear HO_199001; clear BK185; clear BK198; clear HB; have HO_199000 := n0_; have HO_199001 := n1_; have HO202 := n2_; have HO205 := n3_; have BK185 := n4_; have BK198 := n5_; have HB := n6_; clear n0_ n1_ n2_ n3_ n4_ n5_ n6_; (try clear hb); (try clear hb2); (try clear hk); (try clear hi); (try clear ho0); (try clear ho1)) | ((with_reducible refine gate_dst (N := 17) rfl ?_); (try (refine gate_guard (by rfl) ?_; dsimp only)); refine box_event ?hg (N := 17) ?hd (cs := #[.slice none 0 0, .slice none 0 0]) (t := 25) ?hr ?_; (case hd => rfl); (case hg => rfl); (case hr => first | (go_simp; done) | (go_simp; rfl)); intro gb207 hg w106 hbox hb; have n0_ := Aside0.mk (Kd.R_below (by (with_reducible repeat (first | apply Kd.R_alloc | apply Kd.R_drewN | apply Kd.R_drew)); exact HO_199000.out) hb); have n1_ := Aside0.mk (Kd.R_below (by (with_reducible repeat (first | apply Kd.R_alloc | apply Kd.R_drewN | apply Kd.R_drew)); exact HO_199001.out) hb); have n2_ := Aside0.mk (Kd.R_below (by (with_reducible repeat (first | apply Kd.R_alloc | apply Kd.R_drewN | apply Kd.R_drew)); exact HO202.out) hb); have n3_ := Aside0.mk (Kd.R_below (by (with_reducible repeat (first | apply Kd.R_alloc | apply Kd.R_drewN | apply Kd.R_drew)); exact HO205.out) hb); have n4_ := Aside0.mk (blk_below (g := gb185) (o := .cells #[.slice A0_0 l0_0.length c0_0, .slice A0_1 l0_1.length c0_1] 25 (0, 0)) (by (with_reducible repeat (first | refine blk_drewN ?_ _ | refine blk_drew ?_ | refine blk_alloc ?_ _)); exact BK185.out) hb); have n5_ := Aside0.mk (blk_below (g := gb198) (o := .cells #[.slice Ao28 t190.length co28, .slice Ao31 t193.length co31] 25 (0, 0)) (by (with_reducible repeat (first | refine blk_drewN ?_ _ | refine blk_drew ?_ | refine blk_alloc ?_ _)); exact BK198.out) hb); have n6_ := Aside0.mk (below_step (by repeat (first | (with_reducible first | exact HB.out | apply below_alloc | apply pw_below_drewN | apply below_drew1 | refine below_set ?_ GE185.out | refine below_set ?_ GE198.out) | exact HB.out)) hb); have n7_ := Aside0.mk (hbox); have n8_ := Aside0.mk ((by rw [hg]; exact (below_size (by repeat (first | (with_reducible first | exact HB.out | apply below_alloc | apply pw_below_drewN | apply below_drew1 | refine below_set ?_ GE185.out | refine below_set ?_ GE198.out) | exact HB.out))) : w.heap.size ≤ gb207)); have n9_ := Aside0.mk ((by rw [hg]; exact (below_size (by repeat (first | (with_reducible first | exact HB.out | apply below_alloc | apply pw_below_drewN | apply below_drew1 | refine below_set ?_ GE185.out | refine below_set ?_ GE198.out) | exact HB.out))) : w.heap.size ≤ gb207)); have n10_ := Aside0.mk ((by rw [hg]; exact Nat.ne_of_lt (blk_lt (g := gb185) (o := .cells #[.slice A0_0 l0_0.length c0_0, .slice A0_1 l0_1.length c0_1] 25 (0, 0)) (by (with_reducible repeat (first | refine blk_drewN ?_ _ | refine blk_drew ?_ | refine blk_alloc ?_ _)); exact BK185.out)) : gb185 ≠ gb207)); have n11_ := Aside0.mk ((by rw [hg]; exact Nat.ne_of_gt (blk_lt (g := gb185) (o := .cells #[.slice A0_0 l0_0.length c0_0, .slice A0_1 l0_1.length c0_1] 25 (0, 0)) (by (with_reducible repeat (first | refine blk_drewN ?_ _ | refine blk_drew ?_ | refine blk_alloc ?_ _)); exact BK185.out)) : gb207 ≠ gb185)); have n12_ := Aside0.mk ((by rw [hg]; exact Nat.ne_of_lt (blk_lt (g := gb198) (o := .cells #[.slice Ao28 t190.length co28, .slice Ao31 t193.length co31] 25 (0, 0)) (by (with_reducible repeat (first | refine blk_drewN ?_ _ | refine blk_drew ?_ | refine blk_alloc ?_ _)); exact BK198.out)) : gb198 ≠ gb207)); have n13_ := Aside0.mk ((by rw [hg]; exact Nat.ne_of_gt (blk_lt (g := gb198) (o := .cells #[.slice Ao28 t190.length co28, .slice Ao31 t193.length co31] 25 (0, 0)) (by (with_reducible repeat (first | refine blk_drewN ?_ _ | refine blk_drew ?_ | refine blk_alloc ?_ _)); exact BK198.out)) : gb207 ≠ gb198)); clear HO_199000; clear HO_199001; clear HO202; clear HO205; clear BK185; clear BK198; clear HB; have HO_199000 := n0_; have HO_199001 := n1_; have HO202 := n2_; have HO205 := n3_; have BK185 := n4_; have BK198 := n5_; have HB := n6_; have BK207 := n7_; have GW207 := n8_; have GE207 := n9_; have NB185_207 := n10_; have NB207_185 := n11_; have NB198_207 := n12_; have NB207_198 := n13_; clear n0_ n1_ n2_ n3_ n4_ n5_ n6_ n7_ n8_ n9_ n10_ n11_ n12_ n13_; clear hb hbox hg; obtain ⟨Ao107, co107, eo107⟩ := Kd.R_slice HO202.out; subst eo107; have hnb108 := NB207_185.out; have hnc108 := NB185_207.out; have hnb109 := NB207_198.out; have hnc109 := NB198_207.out; have hcz110_0 : w106.cell? ⟨gb207, 0, none⟩ = some (.slice none 0 0) := (blk_cell BK207.out 0).trans rfl; have hcz110_1 : w106.cell? ⟨gb207, 1, none⟩ = some (.slice none 0 0) := (blk_cell BK207.out 1).trans rfl; have hfz110_0 := blk_frozen BK207.out 0; have hfz110_1 := blk_frozen BK207.out 1; obtain ⟨Ao111, co111, eo111⟩ := Kd.R_slice HO205.out; subst eo111) | ((with_reducible refine gate_callee (f := 12) rfl ?_); refine goesL_ (some 68) rfl rfl Try.func12 (by kernel_rfl) rfl #[.agg #[.slice Ao107 t200.length co107, .slice Ao111 t203.length co111], .int .i64 a1] rfl (by (try simp only [List.map_toArray, List.map_cons, List.map_nil]); first | done | rfl | (simp only [List.length_drop, List.length_take]; rfl)) ?_; (with_reducible refine (twin_Get.calls _ _ t200 _ _ t203 a1 t208 t209 t210 _ ?side1 ?side2 ?side3 ?side4 A37.out).mono ?_); (case side1 => refine (Kd.R_reads' (e := 9) (base := w.heap.size) (ok := fun k_ => (True ∧ some k_ ≠ (.slice Ao28 t190.length co28 : Value).ownBlock)) (n := t200.length) (c := co107) ?_).2.2; exact (by (with_reducible repeat (first | apply Kd.R_alloc | apply Kd.R_drewN | apply Kd.R_drew)); exact (Kd.R_mono (Kd.R_far (p := ⟨gb207, 1, none⟩) (Kd.R_far (p := ⟨gb207, 0, none⟩) (Kd.R_types HO202.out BK207.out (by decide)) (fun _ hk => hk.2) (.slice Ao107 t200.length co107)) (fun _ hk => hk.2) (.slice Ao111 t203.length co111)) (fun _ h_ => h_.1)))); (case side2 => exact (Kd.R_reads' HO202.out).2.1); (case side3 => refine (Kd.R_reads' (e := 73) (base := w.heap.size) (ok := fun k_ => (True ∧ some k_ ≠ (.slice Ao31 t193.length co31 : Value).ownBlock)) (n := t203.length) (c := co111) ?_).2.2; exact (by (with_reducible repeat (first | apply Kd.R_alloc | apply Kd.R_drewN | apply Kd.R_drew)); exact (Kd.R_mono (Kd.R_far (p := ⟨gb207, 1, none⟩) (Kd.R_far (p := ⟨gb207, 0, none⟩) (Kd.R_types HO205.out BK207.out (by decide)) (fun _ hk => hk.2) (.slice Ao107 t200.length co107)) (fun _ hk => hk.2) (.slice Ao111 t203.length co111)) (fun _ h_ => h_.1)))); (case side4 => exact (Kd.R_reads' HO205.out).2.1); rintro e w112 ⟨rfl, hb⟩; refine ⟨_, rfl, ?_⟩; have n0_ := Aside0.mk (Kd.R_below (by (with_reducible repeat (first | apply Kd.R_alloc | apply Kd.R_drewN | apply Kd.R_drew)); exact (Kd.R_mono (Kd.R_far (p := ⟨gb207, 1, none⟩) (Kd.R_far (p := ⟨gb207, 0, none⟩) (Kd.R_types HO_199000.out BK207.out (by decide)) (fun _ hk => hk.2) (.slice Ao107 t200.length co107)) (fun _ hk => hk.2) (.slice Ao111 t203.length co111)) (fun _ h_ => h_.1))) hb); have n1_ := Aside0.mk (Kd.R_below (by (with_reducible repeat (first | apply Kd.R_alloc | apply Kd.R_drewN | apply Kd.R_drew)); exact (Kd.R_mono (Kd.R_far (p := ⟨gb207, 1, none⟩) (Kd.R_far (p := ⟨gb207, 0, none⟩) (Kd.R_types HO_199001.out BK207.out (by decide)) (fun _ hk => hk.2) (.slice Ao107 t200.length co107)) (fun _ hk => hk.2) (.slice Ao111 t203.length co111)) (fun _ h_ => h_.1))) hb); have n2_ := Aside0.mk (Kd.R_below (by (with_reducible repeat (first | apply Kd.R_alloc | apply Kd.R_drewN | apply Kd.R_drew)); exact (Kd.R_mono (Kd.R_far (p := ⟨gb207, 1, none⟩) (Kd.R_far (p := ⟨gb207, 0, none⟩) (Kd.R_types HO202.out BK207.out (by decide)) (fun _ hk => hk.2) (.slice Ao107 t200.length co107)) (fun _ hk => hk.2) (.slice Ao111 t203.length co111)) (fun _ h_ => h_.1))) hb); have n3_ := Aside0.mk (Kd.R_below (by (with_reducible repeat (first | apply Kd.R_alloc | apply Kd.R_drewN | apply Kd.R_drew)); exact (Kd.R_mono (Kd.R_far (p := ⟨gb207, 1, none⟩) (Kd.R_far (p := ⟨gb207, 0, none⟩) (Kd.R_types HO205.out BK207.out (by decide)) (fun _ hk => hk.2) (.slice Ao107 t200.length co107)) (fun _ hk => hk.2) (.slice Ao111 t203.length co111)) (fun _ h_ => h_.1))) hb); have n4_ := Aside0.mk (blk_below (g := gb185) (o := .cells #[.slice A0_0 l0_0.length c0_0, .slice A0_1 l0_1.length c0_1] 25 (0, 0)) (by (with_reducible repeat (first | refine blk_drewN ?_ _ | refine blk_drew ?_ | refine blk_alloc ?_ _)); refine blk_far ?_ NB185_207.out _; (with_reducible repeat (first | refine blk_drewN ?_ _ | refine blk_drew ?_ | refine blk_alloc ?_ _)); refine blk_far ?_ NB185_207.out _; (with_reducible repeat (first | refine blk_drewN ?_ _ | refine blk_drew ?_ | refine blk_alloc ?_ _)); exact BK185.out) hb); have n5_ := Aside0.mk (blk_below (g := gb198) (o := .cells #[.slice Ao28 t190.length co28, .slice Ao31 t193.length co31] 25 (0, 0)) (by (with_reducible repeat (first | refine blk_drewN ?_ _ | refine blk_drew ?_ | refine blk_alloc ?_ _)); refine blk_far ?_ NB198_207.out _; (with_reducible repeat (first | refine blk_drewN ?_ _ | refine blk_drew ?_ | refine blk_alloc ?_ _)); refine blk_far ?_ NB198_207.out _; (with_reducible repeat (first | refine blk_drewN ?_ _ | refine blk_drew ?_ | refine blk_alloc ?_ _)); exact BK198.out) hb); have n6_ := Aside0.mk (blk_below (g := gb207) (o := .cells #[.slice Ao107 t200.length co107, .slice Ao111 t203.length co111] 25 (0, 0)) (by (with_reducible repeat (first | refine blk_drewN ?_ _ | refine blk_drew ?_ | refine blk_alloc ?_ _)); refine blk_put (cs := #[.slice Ao107 t200.length co107, .slice none 0 0]) ?_ 1 _ rfl; (with_reducible repeat (first | refine blk_drewN ?_ _ | refine blk_drew ?_ | refine blk_alloc ?_ _)); refine blk_put (cs := #[.slice none 0 0, .slice none 0 0]) ?_ 0 _ rfl; (with_reducible repeat (first | refine blk_drewN ?_ _ | refine blk_drew ?_ | refine blk_alloc ?_ _)); exact BK207.out) hb); have n7_ := Aside0.mk (below_step (by repeat (first | (with_reducible first | exact HB.out | apply below_alloc | apply pw_below_drewN | apply below_drew1 | refine below_set ?_ GE185.out | refine below_set ?_ GE198.out | refine below_set ?_ GE207.out) | exact HB.out)) hb); clear HO_199000; clear HO_199001; clear HO202; clear HO205; clear BK185; clear BK198; clear BK207; clear HB; have HO_199000 := n0_; have HO_199001 := n1_; have HO202 := n2_; have HO205 := n3_; have BK185 := n4_; have BK198 := n5_; have BK207 := n6_; have HB := n7_; clear n0_ n1_ n2_ n3_ n4_ n5_ n6_ n7_; (try clear hb); (try clear hb2); (try clear hk); (try clear hi)) | ((with_reducible refine gate_callee (f := 14) rfl ?_); refine goesL_ (some 72) rfl rfl Try.func14 (by kernel_rfl) rfl #[] rfl (by (try simp only [List.map_toArray, List.map_cons, List.map_nil]); first | done | rfl | (simp only [List.length_drop, List.length_take]; rfl)) ?_; (with_reducible refine (sextonlaw05_twins.calls  true _ A38.out).mono ?_); rintro e w113 ⟨rfl, hb⟩; refine ⟨_, rfl, ?_⟩; have n0_ := Aside0.mk (Kd.R_below (by (with_reducible repeat (first | apply Kd.R_alloc | apply Kd.R_drewN | apply Kd.R_drew)); exact HO_199000.out) hb); have n1_ := Aside0.mk (Kd.R_below (by (with_reducible repeat (first | apply Kd.R_alloc | apply Kd.R_drewN | apply Kd.R_drew)); exact HO_199001.out) hb); have n2_ := Aside0.mk (Kd.R_below (by (with_reducible repeat (first | apply Kd.R_alloc | apply Kd.R_drewN | apply Kd.R_drew)); exact HO202.out) hb); have n3_ := Aside0.mk (Kd.R_below (by (with_reducible repeat (first | apply Kd.R_alloc | apply Kd.R_drewN | apply Kd.R_drew)); exact HO205.out) hb); have n4_ := Aside0.mk (blk_below (g := gb185) (o := .cells #[.slice A0_0 l0_0.length c0_0, .slice A0_1 l0_1.length c0_1] 25 (0, 0)) (by (with_reducible repeat (first | refine blk_drewN ?_ _ | refine blk_drew ?_ | refine blk_alloc ?_ _)); exact BK185.out) hb); have n5_ := Aside0.mk (blk_below (g := gb198) (o := .cells #[.slice Ao28 t190.length co28, .slice Ao31 t193.length co31] 25 (0, 0)) (by (with_reducible repeat (first | refine blk_drewN ?_ _ | refine blk_drew ?_ | refine blk_alloc ?_ _)); exact BK198.out) hb); have n6_ := Aside0.mk (blk_below (g := gb207) (o := .cells #[.slice Ao107 t200.length co107, .slice Ao111 t203.length co111] 25 (0, 0)) (by (with_reducible repeat (first | refine blk_drewN ?_ _ | refine blk_drew ?_ | refine blk_alloc ?_ _)); exact BK207.out) hb); have n7_ := Aside0.mk (below_step (by repeat (first | (with_reducible first | exact HB.out | apply below_alloc | apply pw_below_drewN | apply below_drew1 | refine below_set ?_ GE185.out | refine below_set ?_ GE198.out | refine below_set ?_ GE207.out) | exact HB.out)) hb); clear HO_199000; clear HO_199001; clear HO202; clear HO205; clear BK185; clear BK198; clear BK207; clear HB; have HO_199000 := n0_; have HO_199001 := n1_; have HO202 := n2_; have HO205 := n3_; have BK185 := n4_; have BK198 := n5_; have BK207 := n6_; have HB := n7_; clear n0_ n1_ n2_ n3_ n4_ n5_ n6_ n7_; (try clear hb); (try clear hb2); (try clear hk); (try clear hi)))
                          go_ret
                          exact ⟨by first | rfl | (simp [errW_none, errW_some] <;> rfl) | (simp [*, errW_none, errW_some] <;> rfl), by repeat (first | (with_reducible first | exact HB.out | apply below_alloc | apply pw_below_drewN | apply below_drew1 | refine below_set ?_ GE185.out | refine below_set ?_ GE198.out | refine below_set ?_ GE207.out) | exact HB.out)⟩
                        · rw [if_neg c102] at H
                          exact absurd (H.trans (congrArg some HRT.out)) (by decide)
                  · rw [if_neg c41] at H
                    exact absurd (H.trans (congrArg some HRT.out)) (by decide)
                · rw [if_neg c40] at H
                  exact absurd (H.trans (congrArg some HRT.out)) (by decide)
              · replace c39 := Bool.eq_false_iff.mpr c39
                subst c39
                have H1 : (some false) = some r := by rw [if_neg (show ¬ (false = true) by decide)] at H; exact H
                exact absurd (H1.trans (congrArg some HRT.out)) (by decide)

end Go.Proofs.Ytkgcaheddhfpgaa.P
/-
  The plain statement of TwinCrash: behind a Stop at any deed, and any crash, what was there is got, or the text; with both deeds the text.
-/
namespace Go.Proofs.Ytkgcaheddhfpgaa.Pure
open Go.RowKit Go.Proofs Go.Proofs.CodecPlain Go.Proofs.YtkgcaheddhfpgaaW.PrintWords Go.Proofs.YtkgcaheddhfpgaaW.PrintLast Go.Proofs.Ytkgcaheddhfpgaa.P Go.Proofs.Ytkgcaheddhfpgaa.Opens

theorem TwinCrash (l0_0 : List ByteArray) (l0_1 : List S73) (a1 : Int) (a2 : ByteArray) (a3 : Int) (l4 : List Bool) {okp : Prop} (h0 : okp) (h1 : OkInt .i64 a1) {okq : Prop} (h2 : okq) {okr : Prop} (h3 : okr) {oks : Prop} (h4 : oks) : ∃ k, sextonlaw05_TwinCrash.f k l0_0 l0_1 a1 a2 a3 l4 = some true := by
  have ha : -9223372036854775808 ≤ a1 ∧ a1 ≤ 9223372036854775807 := by
    simp only [OkInt, Lit.wf, Bool.and_eq_true, decide_eq_true_eq] at h1
    exact h1
  obtain ⟨b, K, e⟩ := far5_ends l0_0 l0_1 a2
  refine ⟨K + 3, ?_⟩
  unfold sextonlaw05_TwinCrash.f
  have out : ∀ k, sextonlaw05_TwinCrash.j0 (k + 1) a1 a2 a3 l4 true l0_0 l0_1 = some true := fun k => by
    simp only [sextonlaw05_TwinCrash.j0]
    rw [if_pos trivial]
  have out1 : ∀ k x y d b u, sextonlaw05_TwinCrash.j1 (k + 1) a1 a2 l4 x y d true b u = some true := fun k x y d b u => by
    simp only [sextonlaw05_TwinCrash.j1, sextonlaw05_twins.f]
    rw [if_pos trivial]
    rfl
  have e' := e (K + 3) (by omega)
  simp only at e'
  rw [e', Option.bind_some]
  cases b
  rotate_left
  · rw [if_pos rfl]; exact out (K + 2)
  rw [if_neg (by decide)]
  by_cases hw : (l0_1.length : Int) > 0
  · rw [if_pos hw]; exact out (K + 2)
  rw [if_neg hw]
  by_cases hk : (l4.length : Int) > 100
  · rw [decide_eq_true hk]; exact out (K + 2)
  rw [decide_eq_false hk]
  have hnil : l0_1 = [] := List.eq_nil_of_length_eq_zero (by omega)
  subst hnil
  simp only [sextonlaw05_TwinCrash.j0]
  unfold twin_Stop.f twin_Get.f
  rw [if_neg (by decide), Option.bind_some, if_pos ha, Option.bind_some]
  by_cases hg : (getT l0_0 [] a1).2.2 = 0
  rotate_left
  · rw [if_neg hg]; exact out1 (K + 1) _ _ _ _ _
  rw [if_pos hg]
  by_cases hst : (stopV l0_0 [] a1 a2 a3).2.2.2 = 0
  rotate_left
  · rw [show ((stopV l0_0 [] a1 a2 a3).2.2.2 != 0) = true by rw [bne_iff_ne]; exact hst]; exact out1 (K + 1) _ _ _ _ _
  rw [show ((stopV l0_0 [] a1 a2 a3).2.2.2 != 0) = false by rw [hst]; rfl]
  obtain ⟨n0, t0, k0, n1, t1, k1, ht, hs, hn, _⟩ := stop_twin ha hst
  obtain ⟨bb, u, d, c, e1, e2, e3⟩ := ht.crash hs hn a3 (keepB l4)
  rw [e1, ht.get]
  simp only [sextonlaw05_TwinCrash.j1, disk_Crash.f, e2, Option.bind_some, twin_Get.f, sextonlaw05_twins.f]
  rw [if_neg (by decide), if_pos trivial, if_pos trivial]
  have hb := ht.num.2.2
  rcases e3 with ⟨m0, u0, j0, m1, u1, j1, hx, q1, q2⟩ | ⟨rfl, rfl⟩
  · rw [hx.get, q1, q2]
    simp only [if_true]
    rw [wrap_at (x := newN n0 k0 n1 k1 + 1 - 1) (by omega) (by omega), if_pos (by omega)]
  · rw [ht.get]
    simp only [if_true]
    rw [wrap_at (x := newN n0 k0 n1 k1 - 1) (by omega) (by omega), if_neg (by omega), if_neg (by decide)]
    simp
end Go.Proofs.Ytkgcaheddhfpgaa.Pure
