/-
  The walk and the plain statement of TwinBack, joined.
-/
import Derived.Test.YtkgcaheddhfpgaaPx0
import Derived.Test.YtkgcaheddhfpgaaC05f
import Derived.Test.YtkgcaheddhfpgaaC05d
import Derived.Test.YtkgcaheddhfpgaaC05e
set_option linter.unusedVariables false
set_option linter.unusedSimpArgs false
/-
  The walk of TwinBack, by the print; the ways that would answer false are closed.
-/
namespace Go.Proofs.Ytkgcaheddhfpgaa.P
open Go.RowKit Go.Proofs.YtkgcaheddhfpgaaW.PrintWords Go.Proofs.YtkgcaheddhfpgaaW.PrintLast Go.Proofs.YtkgcaheddhfpgaaW.PrintMore
attribute [local go_sem] max2_int min2_int max_two min_two max_three min_three max_four min_four   -- for this text's walks alone
set_option linter.unusedVariables false
set_option linter.unusedSimpArgs false

/-! ### sextonlaw05_TwinBack: function 3 -/
mutual
def sextonlaw05_TwinBack.j0 : Nat → Int → ByteArray → ByteArray → Bool → List ByteArray → List (S73) → Option (Bool)
  | 0, _, _, _, _, _, _ => none
  | k + 1, x1, x2, x3, x29, x157000, x157001 => if x29 = true then (some true) else ((twin_Get.f x157000 x157001 x1).bind fun bt158 => ((twin_Put.f x157000 x157001 x1 x2).bind fun bt161 => (if bt161.2.2 = 0 then ((twin_Get.f bt161.1 bt161.2.1 x1).bind fun bt170 => (if bt158.2.2 = 0 then (if bt170.2.2 = 0 then (if bt170.1.toList = x2.toList then (if (wrap64 (bt170.2.1 - 1)) = bt158.2.1 then (sextonlaw05_TwinBack.j1 k x1 x3 bt170.2.1 ((bt161.2.1.length : Int) != 0) bt161.1 bt161.2.1) else (sextonlaw05_TwinBack.j1 k x1 x3 bt170.2.1 true bt161.1 bt161.2.1)) else (sextonlaw05_TwinBack.j1 k x1 x3 bt170.2.1 true bt161.1 bt161.2.1)) else (sextonlaw05_TwinBack.j1 k x1 x3 bt170.2.1 true bt161.1 bt161.2.1)) else (sextonlaw05_TwinBack.j1 k x1 x3 bt170.2.1 true bt161.1 bt161.2.1))) else ((sextonlaw05_twins.f).bind fun t169 => (if t169 = true then (some ((bt161.1.length : Int) == 0)) else (some false))))))
def sextonlaw05_TwinBack.j1 : Nat → Int → ByteArray → Int → Bool → List ByteArray → List (S73) → Option (Bool)
  | 0, _, _, _, _, _, _ => none
  | k + 1, x1, x3, x15, x82, x169000, x169001 => if x82 = true then (some false) else ((twin_Put.f x169000 x169001 x1 x3).bind fun bt173 => ((twin_Get.f bt173.1 bt173.2.1 x1).bind fun bt181 => ((sextonlaw05_twins.f).bind fun t184 => (if t184 = true then (if bt173.2.2 = 0 then (if bt181.2.2 = 0 then (if bt181.1.toList = x3.toList then (some ((wrap64 (bt181.2.1 - 1)) == x15)) else (some false)) else (some false)) else (some true)) else (some false)))))
end
def sextonlaw05_TwinBack.f (k : Nat) (l0_0 : List ByteArray) (l0_1 : List (S73)) (a1 : Int) (a2 : ByteArray) (a3 : ByteArray) : Option (Bool) := (sextonlaw05_far.f k l0_0 l0_1 a2).bind fun t157 => (if t157 = true then (sextonlaw05_TwinBack.j0 k a1 a2 a3 true l0_0 l0_1) else (sextonlaw05_TwinBack.j0 k a1 a2 a3 (decide ((a3.size : Int) > 400)) l0_0 l0_1))
theorem sextonlaw05_TwinBack.mono_l : ∀ k, (∀ y0 y1 y2 y3 y4 y5, LeO (sextonlaw05_TwinBack.j0 k y0 y1 y2 y3 y4 y5) (sextonlaw05_TwinBack.j0 (k + 1) y0 y1 y2 y3 y4 y5)) ∧ (∀ y0 y1 y2 y3 y4 y5, LeO (sextonlaw05_TwinBack.j1 k y0 y1 y2 y3 y4 y5) (sextonlaw05_TwinBack.j1 (k + 1) y0 y1 y2 y3 y4 y5))
  | 0 => ⟨fun _ _ _ _ _ _ r h => by simp [sextonlaw05_TwinBack.j0] at h, fun _ _ _ _ _ _ r h => by simp [sextonlaw05_TwinBack.j1] at h⟩
  | k + 1 => by
    obtain ⟨ih0, ih1⟩ := sextonlaw05_TwinBack.mono_l k
    refine ⟨?_, ?_⟩
    · intro y0 y1 y2 y3 y4 y5
      unfold sextonlaw05_TwinBack.j0
      repeat' first
      | (with_reducible exact ih0 _ _ _ _ _ _)
      | (with_reducible exact ih1 _ _ _ _ _ _)
      | (with_reducible exact sextonlaw05_far.mono _ _ _ _)
      | (with_reducible exact LeO.refl _)
      | (with_reducible exact LeO.none _)
      | (with_reducible refine LeO.ite ?_ ?_)
      | (with_reducible refine LeO.bind ?_ (fun _ => ?_))
      | exact ih0 _ _ _ _ _ _
      | exact ih1 _ _ _ _ _ _
      | exact sextonlaw05_far.mono _ _ _ _
      | exact LeO.none _
      | refine LeO.ite ?_ ?_
      | refine LeO.bind ?_ (fun _ => ?_)
    · intro y0 y1 y2 y3 y4 y5
      unfold sextonlaw05_TwinBack.j1
      repeat' first
      | (with_reducible exact ih0 _ _ _ _ _ _)
      | (with_reducible exact ih1 _ _ _ _ _ _)
      | (with_reducible exact sextonlaw05_far.mono _ _ _ _)
      | (with_reducible exact LeO.refl _)
      | (with_reducible exact LeO.none _)
      | (with_reducible refine LeO.ite ?_ ?_)
      | (with_reducible refine LeO.bind ?_ (fun _ => ?_))
      | exact ih0 _ _ _ _ _ _
      | exact ih1 _ _ _ _ _ _
      | exact sextonlaw05_far.mono _ _ _ _
      | exact LeO.none _
      | refine LeO.ite ?_ ?_
      | refine LeO.bind ?_ (fun _ => ?_)
theorem sextonlaw05_TwinBack.mono : ∀ a0 a1 a2 a3 a4 k, LeO (sextonlaw05_TwinBack.f k a0 a1 a2 a3 a4) (sextonlaw05_TwinBack.f (k + 1) a0 a1 a2 a3 a4) := by
  intro a0 a1 a2 a3 a4 k
  obtain ⟨ih0, ih1⟩ := sextonlaw05_TwinBack.mono_l k
  unfold sextonlaw05_TwinBack.f
  repeat' first
      | (with_reducible exact ih0 _ _ _ _ _ _)
      | (with_reducible exact ih1 _ _ _ _ _ _)
      | (with_reducible exact sextonlaw05_far.mono _ _ _ _)
      | (with_reducible exact LeO.refl _)
      | (with_reducible exact LeO.none _)
      | (with_reducible refine LeO.ite ?_ ?_)
      | (with_reducible refine LeO.bind ?_ (fun _ => ?_))
      | exact ih0 _ _ _ _ _ _
      | exact ih1 _ _ _ _ _ _
      | exact sextonlaw05_far.mono _ _ _ _
      | exact LeO.none _
      | refine LeO.ite ?_ ?_
      | refine LeO.bind ?_ (fun _ => ?_)
set_option maxHeartbeats 8000000 in
set_option maxRecDepth 100000 in
theorem sextonlaw05_TwinBack.calls (k : Nat) (A0_0 : Option Addr) (c0_0 : Nat) (l0_0 : List ByteArray) (A0_1 : Option Addr) (c0_1 : Nat) (l0_1 : List (S73)) (a1 : Int) (a2 : ByteArray) (a3 : ByteArray) (r : Bool) (hrt : r = true := by rfl) (w : World) (hr0_0 : Kd.C Kd.string w A0_0 l0_0.length l0_0) (hc0_0 : l0_0.length ≤ c0_0) (hr0_1 : Kd.C k73 w A0_1 l0_1.length l0_1) (hc0_1 : l0_1.length ≤ c0_1) (h : sextonlaw05_TwinBack.f k l0_0 l0_1 a1 a2 a3 = some r) :
    Calls Try.prog 3 #[.agg #[.slice A0_0 l0_0.length c0_0, .slice A0_1 l0_1.length c0_1], .int .i64 a1, .string a2, .string a3] w fun e w' => e = .returned (.bool r) ∧ Below w.heap.size w w' := by
  have HRT := Aside0.mk hrt
  have hu25 := Try.underlying25
  have HR0_0 := Aside0.mk hr0_0
  have HC0_0 := Aside0.mk hc0_0
  clear hr0_0 hc0_0
  have HR0_1 := Aside0.mk hr0_1
  have HC0_1 := Aside0.mk hc0_1
  clear hr0_1 hc0_1
  have HB := Aside0.mk (Below.refl w.heap.size w)
  have H : ((sextonlaw05_far.f k l0_0 l0_1 a2).bind fun t157 => (if t157 = true then (sextonlaw05_TwinBack.j0 k a1 a2 a3 true l0_0 l0_1) else (sextonlaw05_TwinBack.j0 k a1 a2 a3 (decide ((a3.size : Int) > 400)) l0_0 l0_1))) = some r := h
  clear h
  have HC5 := Aside0.mk H
  clear H
  go_enter Try.func3, Try.ntmps3
  go_upto_region 1 with (first | ((with_reducible refine gate_dst (N := 4) rfl ?_); (try (refine gate_guard (by rfl) ?_; dsimp only)); refine box_event ?hg (N := 4) ?hd (cs := #[.slice A0_0 l0_0.length c0_0, .slice A0_1 l0_1.length c0_1]) (t := 25) ?hr ?_; (case hd => rfl); (case hg => rfl); (case hr => first | (go_simp; done) | (go_simp; rfl)); intro gb156 hg w6 hbox hb; have n0_ := Aside0.mk (below_step (by repeat (first | (with_reducible first | exact HB.out | apply below_alloc | apply pw_below_drewN | apply below_drew1) | exact HB.out)) hb); have n1_ := Aside0.mk (hbox); have n2_ := Aside0.mk ((by rw [hg]; exact (below_size (by repeat (first | (with_reducible first | exact HB.out | apply below_alloc | apply pw_below_drewN | apply below_drew1) | exact HB.out))) : w.heap.size ≤ gb156)); have n3_ := Aside0.mk ((by rw [hg]; exact (below_size (by repeat (first | (with_reducible first | exact HB.out | apply below_alloc | apply pw_below_drewN | apply below_drew1) | exact HB.out))) : w.heap.size ≤ gb156)); clear HB; have HB := n0_; have BK156 := n1_; have GW156 := n2_; have GE156 := n3_; clear n0_ n1_ n2_ n3_; clear hb hbox hg))
  (try simp only [Act.put, List.setIfInBounds_toArray, List.set_cons_zero, List.set_cons_succ])
  go_cut [29] (fun v29 wc => ∃ (kq : Nat) (x29_4 : Bool), v29 = .bool x29_4 ∧ Aside0 (sextonlaw05_TwinBack.j0 kq a1 a2 a3 x29_4 l0_0 l0_1 = some r) ∧ Aside0 (kq ≤ k) ∧ Aside0 (wc.heap[gb156]? = some (.cells #[(.slice A0_0 l0_0.length c0_0), (.slice A0_1 l0_1.length c0_1)] 25 (0, 0))) ∧ Aside0 (Below w.heap.size w wc))
  case first =>
    have H := HC5.out
    clear HC5
    replace H := Option.bind_eq_some_iff.mp H
    obtain ⟨t157, A70, H⟩ := H
    replace H : (if t157 = true then (sextonlaw05_TwinBack.j0 k a1 a2 a3 true l0_0 l0_1) else (sextonlaw05_TwinBack.j0 k a1 a2 a3 (decide ((a3.size : Int) > 400)) l0_0 l0_1)) = some r := H
    have A7 := Aside0.mk A70
    clear A70
    by_cases c8 : t157 = true
    · subst c8
      have H1 : (sextonlaw05_TwinBack.j0 k a1 a2 a3 true l0_0 l0_1) = some r := by rw [if_pos rfl] at H; exact H
      clear H
      have H := H1
      clear H1
      have H' := Aside0.mk H
      clear H
      have hcz9_0 : w6.cell? ⟨gb156, 0, none⟩ = some (.slice A0_0 l0_0.length c0_0) := (blk_cell BK156.out 0).trans rfl
      have hcz9_1 : w6.cell? ⟨gb156, 1, none⟩ = some (.slice A0_1 l0_1.length c0_1) := (blk_cell BK156.out 1).trans rfl
      have hfz9_0 := blk_frozen BK156.out 0
      have hfz9_1 := blk_frozen BK156.out 1
      go_wp2_with (first | ((with_reducible refine gate_callee (f := 11) rfl ?_); refine goesL_ (some 24) rfl rfl Try.func11 (by kernel_rfl) rfl #[.agg #[.slice A0_0 l0_0.length c0_0, .slice A0_1 l0_1.length c0_1], .string a2] rfl (by (try simp only [List.map_toArray, List.map_cons, List.map_nil]); first | done | rfl | (simp only [List.length_drop, List.length_take]; rfl)) ?_; (with_reducible refine (sextonlaw05_far.calls k _ _ l0_0 _ _ l0_1 a2 true _ ?side1 ?side2 ?side3 ?side4 A7.out).mono ?_); (case side1 => repeat (first | exact (Kd.C_below HR0_0.out HB.out) | (with_reducible refine Kd.C_alloc ?_ _) | (with_reducible refine Kd.C_drewN ?_ _) | (with_reducible refine Kd.C_drew ?_))); (case side2 => exact HC0_0.out); (case side3 => repeat (first | exact (Kd.C_below HR0_1.out HB.out) | (with_reducible refine Kd.C_alloc ?_ _) | (with_reducible refine Kd.C_drewN ?_ _) | (with_reducible refine Kd.C_drew ?_))); (case side4 => exact HC0_1.out); rintro e w10 ⟨rfl, hb⟩; refine ⟨_, rfl, ?_⟩; have n0_ := Aside0.mk (blk_below (g := gb156) (o := .cells #[.slice A0_0 l0_0.length c0_0, .slice A0_1 l0_1.length c0_1] 25 (0, 0)) (by (with_reducible repeat (first | refine blk_drewN ?_ _ | refine blk_drew ?_ | refine blk_alloc ?_ _)); exact BK156.out) hb); have n1_ := Aside0.mk (below_step (by repeat (first | (with_reducible first | exact HB.out | apply below_alloc | apply pw_below_drewN | apply below_drew1 | refine below_set ?_ GE156.out) | exact HB.out)) hb); clear BK156; clear HB; have BK156 := n0_; have HB := n1_; clear n0_ n1_; (try clear hb); (try clear hb2); (try clear hk); (try clear hi)))
      go_meet
      case rel => exact ⟨_, (true), (by first | rfl | (simp; done) | (simp [*]; done)), H', ⟨by first | omega | exact Nat.le_refl _⟩, ⟨by (with_reducible repeat (first | refine blk_drewN ?_ _ | refine blk_drew ?_ | refine blk_alloc ?_ _)); exact BK156.out⟩, ⟨by repeat (first | (with_reducible first | exact HB.out | apply below_alloc | apply pw_below_drewN | apply below_drew1 | refine below_set ?_ GE156.out) | exact HB.out)⟩⟩
    · replace c8 := Bool.eq_false_iff.mpr c8
      subst c8
      have H1 : (sextonlaw05_TwinBack.j0 k a1 a2 a3 (decide ((a3.size : Int) > 400)) l0_0 l0_1) = some r := by rw [if_neg (show ¬ (false = true) by decide)] at H; exact H
      clear H
      have H := H1
      clear H1
      have H' := Aside0.mk H
      clear H
      have hcz11_0 : w6.cell? ⟨gb156, 0, none⟩ = some (.slice A0_0 l0_0.length c0_0) := (blk_cell BK156.out 0).trans rfl
      have hcz11_1 : w6.cell? ⟨gb156, 1, none⟩ = some (.slice A0_1 l0_1.length c0_1) := (blk_cell BK156.out 1).trans rfl
      have hfz11_0 := blk_frozen BK156.out 0
      have hfz11_1 := blk_frozen BK156.out 1
      go_wp2_with (first | ((with_reducible refine gate_callee (f := 11) rfl ?_); refine goesL_ (some 24) rfl rfl Try.func11 (by kernel_rfl) rfl #[.agg #[.slice A0_0 l0_0.length c0_0, .slice A0_1 l0_1.length c0_1], .string a2] rfl (by (try simp only [List.map_toArray, List.map_cons, List.map_nil]); first | done | rfl | (simp only [List.length_drop, List.length_take]; rfl)) ?_; (with_reducible refine (sextonlaw05_far.calls k _ _ l0_0 _ _ l0_1 a2 false _ ?side1 ?side2 ?side3 ?side4 A7.out).mono ?_); (case side1 => repeat (first | exact (Kd.C_below HR0_0.out HB.out) | (with_reducible refine Kd.C_alloc ?_ _) | (with_reducible refine Kd.C_drewN ?_ _) | (with_reducible refine Kd.C_drew ?_))); (case side2 => exact HC0_0.out); (case side3 => repeat (first | exact (Kd.C_below HR0_1.out HB.out) | (with_reducible refine Kd.C_alloc ?_ _) | (with_reducible refine Kd.C_drewN ?_ _) | (with_reducible refine Kd.C_drew ?_))); (case side4 => exact HC0_1.out); rintro e w12 ⟨rfl, hb⟩; refine ⟨_, rfl, ?_⟩; have n0_ := Aside0.mk (blk_below (g := gb156) (o := .cells #[.slice A0_0 l0_0.length c0_0, .slice A0_1 l0_1.length c0_1] 25 (0, 0)) (by (with_reducible repeat (first | refine blk_drewN ?_ _ | refine blk_drew ?_ | refine blk_alloc ?_ _)); exact BK156.out) hb); have n1_ := Aside0.mk (below_step (by repeat (first | (with_reducible first | exact HB.out | apply below_alloc | apply pw_below_drewN | apply below_drew1 | refine below_set ?_ GE156.out) | exact HB.out)) hb); clear BK156; clear HB; have BK156 := n0_; have HB := n1_; clear n0_ n1_; (try clear hb); (try clear hb2); (try clear hk); (try clear hi)))
      go_meet
      case rel => exact ⟨_, (decide ((a3.size : Int) > 400)), (by first | rfl | (simp; done) | (simp [*]; done)), H', ⟨by first | omega | exact Nat.le_refl _⟩, ⟨by (with_reducible repeat (first | refine blk_drewN ?_ _ | refine blk_drew ?_ | refine blk_alloc ?_ _)); exact BK156.out⟩, ⟨by repeat (first | (with_reducible first | exact HB.out | apply below_alloc | apply pw_below_drewN | apply below_drew1 | refine below_set ?_ GE156.out) | exact HB.out)⟩⟩
  case rest =>
    clear HC5
    try clear c1
    try clear p2
    try clear c3
    try clear c8
    try clear c11
    try clear hcz11_0
    try clear hcz11_1
    try clear hcz9_0
    try clear hcz9_1
    try clear hfz11_0
    try clear hfz11_1
    try clear hfz9_0
    try clear hfz9_1
    obtain ⟨kq, x29_4, rfl, HA, HJ4, BK156, HB⟩ := hcut
    cases kq with
    | zero => exact absurd HA.out (by simp [sextonlaw05_TwinBack.j0])
    | succ kj4 =>
      have H := HA.out
      clear HA
      simp only [sextonlaw05_TwinBack.j0] at H
      by_cases c13 : x29_4 = true
      · subst c13
        have H1 : (some true) = some r := by rw [if_pos rfl] at H; exact H
        clear H
        have H := H1
        clear H1
        obtain rfl := Option.some.inj H
        go_wp2
        go_ret
        exact ⟨by first | rfl | (simp [errW_none, errW_some] <;> rfl) | (simp [*, errW_none, errW_some] <;> rfl), by repeat (first | (with_reducible first | exact HB.out | apply below_alloc | apply pw_below_drewN | apply below_drew1 | refine below_set ?_ GE156.out) | exact HB.out)⟩
      · replace c13 := Bool.eq_false_iff.mpr c13
        subst c13
        have H1 : ((twin_Get.f l0_0 l0_1 a1).bind fun bt158 => ((twin_Put.f l0_0 l0_1 a1 a2).bind fun bt161 => (if bt161.2.2 = 0 then ((twin_Get.f bt161.1 bt161.2.1 a1).bind fun bt170 => (if bt158.2.2 = 0 then (if bt170.2.2 = 0 then (if bt170.1.toList = a2.toList then (if (wrap64 (bt170.2.1 - 1)) = bt158.2.1 then (sextonlaw05_TwinBack.j1 kj4 a1 a3 bt170.2.1 ((bt161.2.1.length : Int) != 0) bt161.1 bt161.2.1) else (sextonlaw05_TwinBack.j1 kj4 a1 a3 bt170.2.1 true bt161.1 bt161.2.1)) else (sextonlaw05_TwinBack.j1 kj4 a1 a3 bt170.2.1 true bt161.1 bt161.2.1)) else (sextonlaw05_TwinBack.j1 kj4 a1 a3 bt170.2.1 true bt161.1 bt161.2.1)) else (sextonlaw05_TwinBack.j1 kj4 a1 a3 bt170.2.1 true bt161.1 bt161.2.1))) else ((sextonlaw05_twins.f).bind fun t169 => (if t169 = true then (some ((bt161.1.length : Int) == 0)) else (some false)))))) = some r := by rw [if_neg (show ¬ (false = true) by decide)] at H; exact H
        clear H
        have H := H1
        clear H1
        replace H := Option.bind_eq_some_iff.mp H
        obtain ⟨⟨t158, t159, t160⟩, A140, H⟩ := H
        replace H : ((twin_Put.f l0_0 l0_1 a1 a2).bind fun bt161 => (if bt161.2.2 = 0 then ((twin_Get.f bt161.1 bt161.2.1 a1).bind fun bt170 => (if t160 = 0 then (if bt170.2.2 = 0 then (if bt170.1.toList = a2.toList then (if (wrap64 (bt170.2.1 - 1)) = t159 then (sextonlaw05_TwinBack.j1 kj4 a1 a3 bt170.2.1 ((bt161.2.1.length : Int) != 0) bt161.1 bt161.2.1) else (sextonlaw05_TwinBack.j1 kj4 a1 a3 bt170.2.1 true bt161.1 bt161.2.1)) else (sextonlaw05_TwinBack.j1 kj4 a1 a3 bt170.2.1 true bt161.1 bt161.2.1)) else (sextonlaw05_TwinBack.j1 kj4 a1 a3 bt170.2.1 true bt161.1 bt161.2.1)) else (sextonlaw05_TwinBack.j1 kj4 a1 a3 bt170.2.1 true bt161.1 bt161.2.1))) else ((sextonlaw05_twins.f).bind fun t169 => (if t169 = true then (some ((bt161.1.length : Int) == 0)) else (some false))))) = some r := H
        have A14 := Aside0.mk A140
        clear A140
        replace H := Option.bind_eq_some_iff.mp H
        obtain ⟨⟨t161, t164, t167⟩, A150, H⟩ := H
        replace H : (if t167 = 0 then ((twin_Get.f t161 t164 a1).bind fun bt170 => (if t160 = 0 then (if bt170.2.2 = 0 then (if bt170.1.toList = a2.toList then (if (wrap64 (bt170.2.1 - 1)) = t159 then (sextonlaw05_TwinBack.j1 kj4 a1 a3 bt170.2.1 ((t164.length : Int) != 0) t161 t164) else (sextonlaw05_TwinBack.j1 kj4 a1 a3 bt170.2.1 true t161 t164)) else (sextonlaw05_TwinBack.j1 kj4 a1 a3 bt170.2.1 true t161 t164)) else (sextonlaw05_TwinBack.j1 kj4 a1 a3 bt170.2.1 true t161 t164)) else (sextonlaw05_TwinBack.j1 kj4 a1 a3 bt170.2.1 true t161 t164))) else ((sextonlaw05_twins.f).bind fun t169 => (if t169 = true then (some ((t161.length : Int) == 0)) else (some false)))) = some r := H
        have A15 := Aside0.mk A150
        clear A150
        by_cases c16 : t167 = 0
        · rw [if_pos c16] at H
          have c16b0 : (t167 == 0) = true := beq_iff_eq.mpr c16
          have c16b1 : (t167 != 0) = false := bne_eq_false_iff_eq.mpr c16
          clear c16
          replace H := Option.bind_eq_some_iff.mp H
          obtain ⟨⟨t170, t171, t172⟩, A170, H⟩ := H
          replace H : (if t160 = 0 then (if t172 = 0 then (if t170.toList = a2.toList then (if (wrap64 (t171 - 1)) = t159 then (sextonlaw05_TwinBack.j1 kj4 a1 a3 t171 ((t164.length : Int) != 0) t161 t164) else (sextonlaw05_TwinBack.j1 kj4 a1 a3 t171 true t161 t164)) else (sextonlaw05_TwinBack.j1 kj4 a1 a3 t171 true t161 t164)) else (sextonlaw05_TwinBack.j1 kj4 a1 a3 t171 true t161 t164)) else (sextonlaw05_TwinBack.j1 kj4 a1 a3 t171 true t161 t164)) = some r := H
          have A17 := Aside0.mk A170
          clear A170
          have HC18 := Aside0.mk H
          clear H
          have hcz19_0 : wc.cell? ⟨gb156, 0, none⟩ = some (.slice A0_0 l0_0.length c0_0) := (blk_cell BK156.out 0).trans rfl
          have hcz19_1 : wc.cell? ⟨gb156, 1, none⟩ = some (.slice A0_1 l0_1.length c0_1) := (blk_cell BK156.out 1).trans rfl
          have hfz19_0 := blk_frozen BK156.out 0
          have hfz19_1 := blk_frozen BK156.out 1
          go_upto_region 8 with (first | ((with_reducible refine gate_callee (f := 12) rfl ?_); refine goesL_ (some 33) rfl rfl Try.func12 (by kernel_rfl) rfl #[.agg #[.slice A0_0 l0_0.length c0_0, .slice A0_1 l0_1.length c0_1], .int .i64 a1] rfl (by (try simp only [List.map_toArray, List.map_cons, List.map_nil]); first | done | rfl | (simp only [List.length_drop, List.length_take]; rfl)) ?_; (with_reducible refine (twin_Get.calls _ _ l0_0 _ _ l0_1 a1 t158 t159 t160 _ ?side1 ?side2 ?side3 ?side4 A14.out).mono ?_); (case side1 => repeat (first | exact (Kd.C_below HR0_0.out HB.out) | (with_reducible refine Kd.C_alloc ?_ _) | (with_reducible refine Kd.C_drewN ?_ _) | (with_reducible refine Kd.C_drew ?_))); (case side2 => exact HC0_0.out); (case side3 => repeat (first | exact (Kd.C_below HR0_1.out HB.out) | (with_reducible refine Kd.C_alloc ?_ _) | (with_reducible refine Kd.C_drewN ?_ _) | (with_reducible refine Kd.C_drew ?_))); (case side4 => exact HC0_1.out); rintro e w20 ⟨rfl, hb⟩; refine ⟨_, rfl, ?_⟩; have n0_ := Aside0.mk (blk_below (g := gb156) (o := .cells #[.slice A0_0 l0_0.length c0_0, .slice A0_1 l0_1.length c0_1] 25 (0, 0)) (by (with_reducible repeat (first | refine blk_drewN ?_ _ | refine blk_drew ?_ | refine blk_alloc ?_ _)); exact BK156.out) hb); have n1_ := Aside0.mk (below_step (by repeat (first | (with_reducible first | exact HB.out | apply below_alloc | apply pw_below_drewN | apply below_drew1 | refine below_set ?_ GE156.out) | exact HB.out)) hb); clear BK156; clear HB; have BK156 := n0_; have HB := n1_; clear n0_ n1_; (try clear hb); (try clear hb2); (try clear hk); (try clear hi); have hcz21_0 : w20.cell? ⟨gb156, 0, none⟩ = some (.slice A0_0 l0_0.length c0_0) := (blk_cell BK156.out 0).trans rfl; have hcz21_1 : w20.cell? ⟨gb156, 1, none⟩ = some (.slice A0_1 l0_1.length c0_1) := (blk_cell BK156.out 1).trans rfl; have hfz21_0 := blk_frozen BK156.out 0; have hfz21_1 := blk_frozen BK156.out 1) | ((with_reducible refine gate_callee (f := 13) rfl ?_); refine goesL_ (some 41) rfl rfl Try.func13 (by kernel_rfl) rfl #[.agg #[.slice A0_0 l0_0.length c0_0, .slice A0_1 l0_1.length c0_1], .int .i64 a1, .string a2] rfl (by (try simp only [List.map_toArray, List.map_cons, List.map_nil]); first | done | rfl | (simp only [List.length_drop, List.length_take]; rfl)) ?_; (with_reducible refine (twin_Put.calls _ _ l0_0 _ _ l0_1 a1 a2 t161 t164 t167 _ ?side1 ?side2 ?side3 ?side4 A15.out).mono ?_); (case side1 => repeat (first | exact (Kd.C_below HR0_0.out HB.out) | (with_reducible refine Kd.C_alloc ?_ _) | (with_reducible refine Kd.C_drewN ?_ _) | (with_reducible refine Kd.C_drew ?_))); (case side2 => exact HC0_0.out); (case side3 => repeat (first | exact (Kd.C_below HR0_1.out HB.out) | (with_reducible refine Kd.C_alloc ?_ _) | (with_reducible refine Kd.C_drewN ?_ _) | (with_reducible refine Kd.C_drew ?_))); (case side4 => exact HC0_1.out); rintro e w22 ⟨v162, v165, rfl, ho0, ho1, hb⟩; refine ⟨_, rfl, ?_⟩; have n0_ := Aside0.mk (Kd.R_lower ho0 (below_size (by repeat (first | (with_reducible first | exact HB.out | apply below_alloc | apply pw_below_drewN | apply below_drew1 | refine below_set ?_ GE156.out) | exact HB.out)))); have n1_ := Aside0.mk (Kd.R_lower ho1 (below_size (by repeat (first | (with_reducible first | exact HB.out | apply below_alloc | apply pw_below_drewN | apply below_drew1 | refine below_set ?_ GE156.out) | exact HB.out)))); have n2_ := Aside0.mk (blk_below (g := gb156) (o := .cells #[.slice A0_0 l0_0.length c0_0, .slice A0_1 l0_1.length c0_1] 25 (0, 0)) (by (with_reducible repeat (first | refine blk_drewN ?_ _ | refine blk_drew ?_ | refine blk_alloc ?_ _)); exact BK156.out) hb); have n3_ := Aside0.mk (below_step (by repeat (first | (with_reducible first | exact HB.out | apply below_alloc | apply pw_below_drewN | apply below_drew1 | refine below_set ?_ GE156.out) | exact HB.out)) hb); clear BK156; clear HB; have HO163 := n0_; have HO166 := n1_; have BK156 := n2_; have HB := n3_; clear n0_ n1_ n2_ n3_; (try clear hb); (try clear hb2); (try clear hk); (try clear hi); (try clear ho0); (try clear ho1)) | ((with_reducible refine gate_dst (N := 12) rfl ?_); (try (refine gate_guard (by rfl) ?_; dsimp only)); refine box_event ?hg (N := 12) ?hd (cs := #[.slice none 0 0, .slice none 0 0]) (t := 25) ?hr ?_; (case hd => rfl); (case hg => rfl); (case hr => first | (go_simp; done) | (go_simp; rfl)); intro gb168 hg w23 hbox hb; have n0_ := Aside0.mk (Kd.R_below (by (with_reducible repeat (first | apply Kd.R_alloc | apply Kd.R_drewN | apply Kd.R_drew)); exact HO163.out) hb); have n1_ := Aside0.mk (Kd.R_below (by (with_reducible repeat (first | apply Kd.R_alloc | apply Kd.R_drewN | apply Kd.R_drew)); exact HO166.out) hb); have n2_ := Aside0.mk (blk_below (g := gb156) (o := .cells #[.slice A0_0 l0_0.length c0_0, .slice A0_1 l0_1.length c0_1] 25 (0, 0)) (by (with_reducible repeat (first | refine blk_drewN ?_ _ | refine blk_drew ?_ | refine blk_alloc ?_ _)); exact BK156.out) hb); have n3_ := Aside0.mk (below_step (by repeat (first | (with_reducible first | exact HB.out | apply below_alloc | apply pw_below_drewN | apply below_drew1 | refine below_set ?_ GE156.out) | exact HB.out)) hb); have n4_ := Aside0.mk (hbox); have n5_ := Aside0.mk ((by rw [hg]; exact (below_size (by repeat (first | (with_reducible first | exact HB.out | apply below_alloc | apply pw_below_drewN | apply below_drew1 | refine below_set ?_ GE156.out) | exact HB.out))) : w.heap.size ≤ gb168)); have n6_ := Aside0.mk ((by rw [hg]; exact (below_size (by repeat (first | (with_reducible first | exact HB.out | apply below_alloc | apply pw_below_drewN | apply below_drew1 | refine below_set ?_ GE156.out) | exact HB.out))) : w.heap.size ≤ gb168)); have n7_ := Aside0.mk ((by rw [hg]; exact Nat.ne_of_lt (blk_lt (g := gb156) (o := .cells #[.slice A0_0 l0_0.length c0_0, .slice A0_1 l0_1.length c0_1] 25 (0, 0)) (by (with_reducible repeat (first | refine blk_drewN ?_ _ | refine blk_drew ?_ | refine blk_alloc ?_ _)); exact BK156.out)) : gb156 ≠ gb168)); have n8_ := Aside0.mk ((by rw [hg]; exact Nat.ne_of_gt (blk_lt (g := gb156) (o := .cells #[.slice A0_0 l0_0.length c0_0, .slice A0_1 l0_1.length c0_1] 25 (0, 0)) (by (with_reducible repeat (first | refine blk_drewN ?_ _ | refine blk_drew ?_ | refine blk_alloc ?_ _)); exact BK156.out)) : gb168 ≠ gb156)); clear HO163; clear HO166; clear BK156; clear HB; have HO163 := n0_; have HO166 := n1_; have BK156 := n2_; have HB := n3_; have BK168 := n4_; have GW168 := n5_; have GE168 := n6_; have NB156_168 := n7_; have NB168_156 := n8_; clear n0_ n1_ n2_ n3_ n4_ n5_ n6_ n7_ n8_; clear hb hbox hg; obtain ⟨Ao24, co24, eo24⟩ := Kd.R_slice HO163.out; subst eo24; have hnb25 := NB168_156.out; have hnc25 := NB156_168.out; have hcz26_0 : w23.cell? ⟨gb168, 0, none⟩ = some (.slice none 0 0) := (blk_cell BK168.out 0).trans rfl; have hcz26_1 : w23.cell? ⟨gb168, 1, none⟩ = some (.slice none 0 0) := (blk_cell BK168.out 1).trans rfl; have hfz26_0 := blk_frozen BK168.out 0; have hfz26_1 := blk_frozen BK168.out 1; obtain ⟨Ao27, co27, eo27⟩ := Kd.R_slice HO166.out; subst eo27) | ((with_reducible refine gate_callee (f := 12) rfl ?_); refine goesL_ (some 56) rfl rfl Try.func12 (by kernel_rfl) rfl #[.agg #[.slice Ao24 t161.length co24, .slice Ao27 t164.length co27], .int .i64 a1] rfl (by (try simp only [List.map_toArray, List.map_cons, List.map_nil]); first | done | rfl | (simp only [List.length_drop, List.length_take]; rfl)) ?_; (with_reducible refine (twin_Get.calls _ _ t161 _ _ t164 a1 t170 t171 t172 _ ?side1 ?side2 ?side3 ?side4 A17.out).mono ?_); (case side1 => refine (Kd.R_reads' (e := 9) (base := w.heap.size) (ok := fun k_ => True) (n := t161.length) (c := co24) ?_).2.2; exact (by (with_reducible repeat (first | apply Kd.R_alloc | apply Kd.R_drewN | apply Kd.R_drew)); exact (Kd.R_mono (Kd.R_far (p := ⟨gb168, 1, none⟩) (Kd.R_far (p := ⟨gb168, 0, none⟩) (Kd.R_types HO163.out BK168.out (by decide)) (fun _ hk => hk.2) (.slice Ao24 t161.length co24)) (fun _ hk => hk.2) (.slice Ao27 t164.length co27)) (fun _ h_ => h_.1)))); (case side2 => exact (Kd.R_reads' HO163.out).2.1); (case side3 => refine (Kd.R_reads' (e := 73) (base := w.heap.size) (ok := fun k_ => True) (n := t164.length) (c := co27) ?_).2.2; exact (by (with_reducible repeat (first | apply Kd.R_alloc | apply Kd.R_drewN | apply Kd.R_drew)); exact (Kd.R_mono (Kd.R_far (p := ⟨gb168, 1, none⟩) (Kd.R_far (p := ⟨gb168, 0, none⟩) (Kd.R_types HO166.out BK168.out (by decide)) (fun _ hk => hk.2) (.slice Ao24 t161.length co24)) (fun _ hk => hk.2) (.slice Ao27 t164.length co27)) (fun _ h_ => h_.1)))); (case side4 => exact (Kd.R_reads' HO166.out).2.1); rintro e w28 ⟨rfl, hb⟩; refine ⟨_, rfl, ?_⟩; have n0_ := Aside0.mk (Kd.R_below (by (with_reducible repeat (first | apply Kd.R_alloc | apply Kd.R_drewN | apply Kd.R_drew)); exact (Kd.R_mono (Kd.R_far (p := ⟨gb168, 1, none⟩) (Kd.R_far (p := ⟨gb168, 0, none⟩) (Kd.R_types HO163.out BK168.out (by decide)) (fun _ hk => hk.2) (.slice Ao24 t161.length co24)) (fun _ hk => hk.2) (.slice Ao27 t164.length co27)) (fun _ h_ => h_.1))) hb); have n1_ := Aside0.mk (Kd.R_below (by (with_reducible repeat (first | apply Kd.R_alloc | apply Kd.R_drewN | apply Kd.R_drew)); exact (Kd.R_mono (Kd.R_far (p := ⟨gb168, 1, none⟩) (Kd.R_far (p := ⟨gb168, 0, none⟩) (Kd.R_types HO166.out BK168.out (by decide)) (fun _ hk => hk.2) (.slice Ao24 t161.length co24)) (fun _ hk => hk.2) (.slice Ao27 t164.length co27)) (fun _ h_ => h_.1))) hb); have n2_ := Aside0.mk (blk_below (g := gb156) (o := .cells #[.slice A0_0 l0_0.length c0_0, .slice A0_1 l0_1.length c0_1] 25 (0, 0)) (by (with_reducible repeat (first | refine blk_drewN ?_ _ | refine blk_drew ?_ | refine blk_alloc ?_ _)); refine blk_far ?_ NB156_168.out _; (with_reducible repeat (first | refine blk_drewN ?_ _ | refine blk_drew ?_ | refine blk_alloc ?_ _)); refine blk_far ?_ NB156_168.out _; (with_reducible repeat (first | refine blk_drewN ?_ _ | refine blk_drew ?_ | refine blk_alloc ?_ _)); exact BK156.out) hb); have n3_ := Aside0.mk (blk_below (g := gb168) (o := .cells #[.slice Ao24 t161.length co24, .slice Ao27 t164.length co27] 25 (0, 0)) (by (with_reducible repeat (first | refine blk_drewN ?_ _ | refine blk_drew ?_ | refine blk_alloc ?_ _)); refine blk_put (cs := #[.slice Ao24 t161.length co24, .slice none 0 0]) ?_ 1 _ rfl; (with_reducible repeat (first | refine blk_drewN ?_ _ | refine blk_drew ?_ | refine blk_alloc ?_ _)); refine blk_put (cs := #[.slice none 0 0, .slice none 0 0]) ?_ 0 _ rfl; (with_reducible repeat (first | refine blk_drewN ?_ _ | refine blk_drew ?_ | refine blk_alloc ?_ _)); exact BK168.out) hb); have n4_ := Aside0.mk (below_step (by repeat (first | (with_reducible first | exact HB.out | apply below_alloc | apply pw_below_drewN | apply below_drew1 | refine below_set ?_ GE156.out | refine below_set ?_ GE168.out) | exact HB.out)) hb); clear HO163; clear HO166; clear BK156; clear BK168; clear HB; have HO163 := n0_; have HO166 := n1_; have BK156 := n2_; have BK168 := n3_; have HB := n4_; clear n0_ n1_ n2_ n3_ n4_; (try clear hb); (try clear hb2); (try clear hk); (try clear hi)))
          (try simp only [Act.put, List.setIfInBounds_toArray, List.set_cons_zero, List.set_cons_succ])
          go_cut [82] (fun v82 wc => ∃ (kq : Nat) (x82_17 : Bool), v82 = .bool x82_17 ∧ Aside0 (sextonlaw05_TwinBack.j1 kq a1 a3 t171 x82_17 t161 t164 = some r) ∧ Aside0 (kq ≤ kj4) ∧ Aside0 (Kd.R Kd.string 9 wc w.heap.size (fun _ => True) (.slice Ao24 t161.length co24) t161) ∧ Aside0 (Kd.R k73 73 wc w.heap.size (fun _ => True) (.slice Ao27 t164.length co27) t164) ∧ Aside0 (wc.heap[gb156]? = some (.cells #[(.slice A0_0 l0_0.length c0_0), (.slice A0_1 l0_1.length c0_1)] 25 (0, 0))) ∧ Aside0 (wc.heap[gb168]? = some (.cells #[(.slice Ao24 t161.length co24), (.slice Ao27 t164.length co27)] 25 (0, 0))) ∧ Aside0 (Below w.heap.size w wc))
          case first =>
            have H := HC18.out
            clear HC18
            by_cases c29 : t160 = 0
            · rw [if_pos c29] at H
              have c29b0 : (t160 == 0) = true := beq_iff_eq.mpr c29
              have c29b1 : (t160 != 0) = false := bne_eq_false_iff_eq.mpr c29
              clear c29
              (first | rw [c29b0] | (simp only [i64_w, i32_w]; rw [c29b0]) | skip)
              by_cases c30 : t172 = 0
              · rw [if_pos c30] at H
                have c30b0 : (t172 == 0) = true := beq_iff_eq.mpr c30
                have c30b1 : (t172 != 0) = false := bne_eq_false_iff_eq.mpr c30
                clear c30
                by_cases c31 : t170.toList = a2.toList
                · rw [if_pos c31] at H
                  have c31b0 : (t170.toList == a2.toList) = true := beq_iff_eq.mpr c31
                  have c31b1 : (t170.toList != a2.toList) = false := bne_eq_false_iff_eq.mpr c31
                  clear c31
                  by_cases c32 : (wrap64 (t171 - 1)) = t159
                  · rw [if_pos c32] at H
                    have c32b0 : ((wrap64 (t171 - 1)) == t159) = true := beq_iff_eq.mpr c32
                    have c32b1 : ((wrap64 (t171 - 1)) != t159) = false := bne_eq_false_iff_eq.mpr c32
                    clear c32
                    have H' := Aside0.mk H
                    clear H
                    have hnb33 := NB168_156.out
                    have hnc33 := NB156_168.out
                    have hcz34_0 : w28.cell? ⟨gb168, 0, none⟩ = some (.slice Ao24 t161.length co24) := (blk_cell BK168.out 0).trans rfl
                    have hcz34_1 : w28.cell? ⟨gb168, 1, none⟩ = some (.slice Ao27 t164.length co27) := (blk_cell BK168.out 1).trans rfl
                    have hfz34_0 := blk_frozen BK168.out 0
                    have hfz34_1 := blk_frozen BK168.out 1
                    go_wp2
                    go_meet
                    case rel => exact ⟨_, (((t164.length : Int) != 0)), (by first | rfl | (simp; done) | (simp [*]; done)), H', ⟨by have := HJ4.out; first | omega | exact Nat.le_refl _⟩, ⟨by (with_reducible repeat (first | apply Kd.R_alloc | apply Kd.R_drewN | apply Kd.R_drew)); exact HO163.out⟩, ⟨by (with_reducible repeat (first | apply Kd.R_alloc | apply Kd.R_drewN | apply Kd.R_drew)); exact HO166.out⟩, ⟨by (with_reducible repeat (first | refine blk_drewN ?_ _ | refine blk_drew ?_ | refine blk_alloc ?_ _)); exact BK156.out⟩, ⟨by (with_reducible repeat (first | refine blk_drewN ?_ _ | refine blk_drew ?_ | refine blk_alloc ?_ _)); exact BK168.out⟩, ⟨by repeat (first | (with_reducible first | exact HB.out | apply below_alloc | apply pw_below_drewN | apply below_drew1 | refine below_set ?_ GE156.out | refine below_set ?_ GE168.out) | exact HB.out)⟩⟩
                  · rw [if_neg c32] at H
                    have c32b0 : ((wrap64 (t171 - 1)) == t159) = false := beq_eq_false_iff_ne.mpr c32
                    have c32b1 : ((wrap64 (t171 - 1)) != t159) = true := bne_iff_ne.mpr c32
                    have H' := Aside0.mk H
                    clear H
                    go_wp2
                    go_meet
                    case rel => exact ⟨_, (true), (by first | rfl | (simp; done) | (simp [*]; done)), H', ⟨by have := HJ4.out; first | omega | exact Nat.le_refl _⟩, ⟨by (with_reducible repeat (first | apply Kd.R_alloc | apply Kd.R_drewN | apply Kd.R_drew)); exact HO163.out⟩, ⟨by (with_reducible repeat (first | apply Kd.R_alloc | apply Kd.R_drewN | apply Kd.R_drew)); exact HO166.out⟩, ⟨by (with_reducible repeat (first | refine blk_drewN ?_ _ | refine blk_drew ?_ | refine blk_alloc ?_ _)); exact BK156.out⟩, ⟨by (with_reducible repeat (first | refine blk_drewN ?_ _ | refine blk_drew ?_ | refine blk_alloc ?_ _)); exact BK168.out⟩, ⟨by repeat (first | (with_reducible first | exact HB.out | apply below_alloc | apply pw_below_drewN | apply below_drew1 | refine below_set ?_ GE156.out | refine below_set ?_ GE168.out) | exact HB.out)⟩⟩
                · rw [if_neg c31] at H
                  have c31b0 : (t170.toList == a2.toList) = false := beq_eq_false_iff_ne.mpr c31
                  have c31b1 : (t170.toList != a2.toList) = true := bne_iff_ne.mpr c31
                  have H' := Aside0.mk H
                  clear H
                  go_wp2
                  go_meet
                  case rel => exact ⟨_, (true), (by first | rfl | (simp; done) | (simp [*]; done)), H', ⟨by have := HJ4.out; first | omega | exact Nat.le_refl _⟩, ⟨by (with_reducible repeat (first | apply Kd.R_alloc | apply Kd.R_drewN | apply Kd.R_drew)); exact HO163.out⟩, ⟨by (with_reducible repeat (first | apply Kd.R_alloc | apply Kd.R_drewN | apply Kd.R_drew)); exact HO166.out⟩, ⟨by (with_reducible repeat (first | refine blk_drewN ?_ _ | refine blk_drew ?_ | refine blk_alloc ?_ _)); exact BK156.out⟩, ⟨by (with_reducible repeat (first | refine blk_drewN ?_ _ | refine blk_drew ?_ | refine blk_alloc ?_ _)); exact BK168.out⟩, ⟨by repeat (first | (with_reducible first | exact HB.out | apply below_alloc | apply pw_below_drewN | apply below_drew1 | refine below_set ?_ GE156.out | refine below_set ?_ GE168.out) | exact HB.out)⟩⟩
              · rw [if_neg c30] at H
                have c30b0 : (t172 == 0) = false := beq_eq_false_iff_ne.mpr c30
                have c30b1 : (t172 != 0) = true := bne_iff_ne.mpr c30
                have H' := Aside0.mk H
                clear H
                go_wp2
                go_meet
                case rel => exact ⟨_, (true), (by first | rfl | (simp; done) | (simp [*]; done)), H', ⟨by have := HJ4.out; first | omega | exact Nat.le_refl _⟩, ⟨by (with_reducible repeat (first | apply Kd.R_alloc | apply Kd.R_drewN | apply Kd.R_drew)); exact HO163.out⟩, ⟨by (with_reducible repeat (first | apply Kd.R_alloc | apply Kd.R_drewN | apply Kd.R_drew)); exact HO166.out⟩, ⟨by (with_reducible repeat (first | refine blk_drewN ?_ _ | refine blk_drew ?_ | refine blk_alloc ?_ _)); exact BK156.out⟩, ⟨by (with_reducible repeat (first | refine blk_drewN ?_ _ | refine blk_drew ?_ | refine blk_alloc ?_ _)); exact BK168.out⟩, ⟨by repeat (first | (with_reducible first | exact HB.out | apply below_alloc | apply pw_below_drewN | apply below_drew1 | refine below_set ?_ GE156.out | refine below_set ?_ GE168.out) | exact HB.out)⟩⟩
            · rw [if_neg c29] at H
              have c29b0 : (t160 == 0) = false := beq_eq_false_iff_ne.mpr c29
              have c29b1 : (t160 != 0) = true := bne_iff_ne.mpr c29
              (first | rw [c29b0] | (simp only [i64_w, i32_w]; rw [c29b0]) | skip)
              have H' := Aside0.mk H
              clear H
              go_wp2
              go_meet
              case rel => exact ⟨_, (true), (by first | rfl | (simp; done) | (simp [*]; done)), H', ⟨by have := HJ4.out; first | omega | exact Nat.le_refl _⟩, ⟨by (with_reducible repeat (first | apply Kd.R_alloc | apply Kd.R_drewN | apply Kd.R_drew)); exact HO163.out⟩, ⟨by (with_reducible repeat (first | apply Kd.R_alloc | apply Kd.R_drewN | apply Kd.R_drew)); exact HO166.out⟩, ⟨by (with_reducible repeat (first | refine blk_drewN ?_ _ | refine blk_drew ?_ | refine blk_alloc ?_ _)); exact BK156.out⟩, ⟨by (with_reducible repeat (first | refine blk_drewN ?_ _ | refine blk_drew ?_ | refine blk_alloc ?_ _)); exact BK168.out⟩, ⟨by repeat (first | (with_reducible first | exact HB.out | apply below_alloc | apply pw_below_drewN | apply below_drew1 | refine below_set ?_ GE156.out | refine below_set ?_ GE168.out) | exact HB.out)⟩⟩
          case rest =>
            clear HC18
            try clear c1
            try clear c2
            try clear p2
            try clear c3
            try clear p6
            try clear c8
            try clear c11
            try clear c12
            try clear c13
            try clear c16
            try clear c16b0
            try clear c16b1
            try clear c25
            try clear c29
            try clear c29b0
            try clear c29b1
            try clear c30
            try clear c30b0
            try clear c30b1
            try clear c31
            try clear c31b0
            try clear c31b1
            try clear c32
            try clear c32b0
            try clear c32b1
            try clear c33
            try clear hcz11_0
            try clear hcz11_1
            try clear hcz19_0
            try clear hcz19_1
            try clear hcz21_0
            try clear hcz21_1
            try clear hcz26_0
            try clear hcz26_1
            try clear hcz34_0
            try clear hcz34_1
            try clear hcz9_0
            try clear hcz9_1
            try clear hfz11_0
            try clear hfz11_1
            try clear hfz19_0
            try clear hfz19_1
            try clear hfz21_0
            try clear hfz21_1
            try clear hfz26_0
            try clear hfz26_1
            try clear hfz34_0
            try clear hfz34_1
            try clear hfz9_0
            try clear hfz9_1
            try clear p2
            obtain ⟨kq, x82_17, rfl, HA, HJ17, HO_169000, HO_169001, BK156, BK168, HB⟩ := hcut
            cases kq with
            | zero => exact absurd HA.out (by simp [sextonlaw05_TwinBack.j1])
            | succ kj17 =>
              have H := HA.out
              clear HA
              simp only [sextonlaw05_TwinBack.j1] at H
              by_cases c35 : x82_17 = true
              · subst c35
                have H1 : (some false) = some r := by rw [if_pos rfl] at H; exact H
                exact absurd (H1.trans (congrArg some HRT.out)) (by decide)
              · replace c35 := Bool.eq_false_iff.mpr c35
                subst c35
                have H1 : ((twin_Put.f t161 t164 a1 a3).bind fun bt173 => ((twin_Get.f bt173.1 bt173.2.1 a1).bind fun bt181 => ((sextonlaw05_twins.f).bind fun t184 => (if t184 = true then (if bt173.2.2 = 0 then (if bt181.2.2 = 0 then (if bt181.1.toList = a3.toList then (some ((wrap64 (bt181.2.1 - 1)) == t171)) else (some false)) else (some false)) else (some true)) else (some false))))) = some r := by rw [if_neg (show ¬ (false = true) by decide)] at H; exact H
                clear H
                have H := H1
                clear H1
                replace H := Option.bind_eq_some_iff.mp H
                obtain ⟨⟨t173, t176, t179⟩, A360, H⟩ := H
                replace H : ((twin_Get.f t173 t176 a1).bind fun bt181 => ((sextonlaw05_twins.f).bind fun t184 => (if t184 = true then (if t179 = 0 then (if bt181.2.2 = 0 then (if bt181.1.toList = a3.toList then (some ((wrap64 (bt181.2.1 - 1)) == t171)) else (some false)) else (some false)) else (some true)) else (some false)))) = some r := H
                have A36 := Aside0.mk A360
                clear A360
                replace H := Option.bind_eq_some_iff.mp H
                obtain ⟨⟨t181, t182, t183⟩, A370, H⟩ := H
                replace H : ((sextonlaw05_twins.f).bind fun t184 => (if t184 = true then (if t179 = 0 then (if t183 = 0 then (if t181.toList = a3.toList then (some ((wrap64 (t182 - 1)) == t171)) else (some false)) else (some false)) else (some true)) else (some false))) = some r := H
                have A37 := Aside0.mk A370
                clear A370
                replace H := Option.bind_eq_some_iff.mp H
                obtain ⟨t184, A380, H⟩ := H
                replace H : (if t184 = true then (if t179 = 0 then (if t183 = 0 then (if t181.toList = a3.toList then (some ((wrap64 (t182 - 1)) == t171)) else (some false)) else (some false)) else (some true)) else (some false)) = some r := H
                have A38 := Aside0.mk A380
                clear A380
                by_cases c39 : t184 = true
                · subst c39
                  have H1 : (if t179 = 0 then (if t183 = 0 then (if t181.toList = a3.toList then (some ((wrap64 (t182 - 1)) == t171)) else (some false)) else (some false)) else (some true)) = some r := by rw [if_pos rfl] at H; exact H
                  clear H
                  have H := H1
                  clear H1
                  by_cases c40 : t179 = 0
                  · rw [if_pos c40] at H
                    have c40b0 : (t179 == 0) = true := beq_iff_eq.mpr c40
                    have c40b1 : (t179 != 0) = false := bne_eq_false_iff_eq.mpr c40
                    clear c40
                    by_cases c41 : t183 = 0
                    · rw [if_pos c41] at H
                      have c41b0 : (t183 == 0) = true := beq_iff_eq.mpr c41
                      have c41b1 : (t183 != 0) = false := bne_eq_false_iff_eq.mpr c41
                      clear c41
                      by_cases c42 : t181.toList = a3.toList
                      · rw [if_pos c42] at H
                        have c42b0 : (t181.toList == a3.toList) = true := beq_iff_eq.mpr c42
                        have c42b1 : (t181.toList != a3.toList) = false := bne_eq_false_iff_eq.mpr c42
                        clear c42
                        obtain rfl := Option.some.inj H
                        have hnb43 := NB168_156.out
                        have hnc43 := NB156_168.out
                        have hcz44_0 : wc.cell? ⟨gb168, 0, none⟩ = some (.slice Ao24 t161.length co24) := (blk_cell BK168.out 0).trans rfl
                        have hcz44_1 : wc.cell? ⟨gb168, 1, none⟩ = some (.slice Ao27 t164.length co27) := (blk_cell BK168.out 1).trans rfl
                        have hfz44_0 := blk_frozen BK168.out 0
                        have hfz44_1 := blk_frozen BK168.out 1
                        go_wp2_with (first | ((with_reducible refine gate_callee (f := 13) rfl ?_); refine goesL_ (some 87) rfl rfl Try.func13 (by kernel_rfl) rfl #[.agg #[.slice Ao24 t161.length co24, .slice Ao27 t164.length co27], .int .i64 a1, .string a3] rfl (by (try simp only [List.map_toArray, List.map_cons, List.map_nil]); first | done | rfl | (simp only [List.length_drop, List.length_take]; rfl)) ?_; (with_reducible refine (twin_Put.calls _ _ t161 _ _ t164 a1 a3 t173 t176 t179 _ ?side1 ?side2 ?side3 ?side4 A36.out).mono ?_); (case side1 => repeat (first | exact (Kd.R_reads' HO_169000.out).2.2 | (with_reducible refine Kd.C_alloc ?_ _) | (with_reducible refine Kd.C_drewN ?_ _) | (with_reducible refine Kd.C_drew ?_))); (case side2 => exact (Kd.R_reads' HO_169000.out).2.1); (case side3 => repeat (first | exact (Kd.R_reads' HO_169001.out).2.2 | (with_reducible refine Kd.C_alloc ?_ _) | (with_reducible refine Kd.C_drewN ?_ _) | (with_reducible refine Kd.C_drew ?_))); (case side4 => exact (Kd.R_reads' HO_169001.out).2.1); rintro e w45 ⟨v174, v177, rfl, ho0, ho1, hb⟩; refine ⟨_, rfl, ?_⟩; have n0_ := Aside0.mk (Kd.R_elder' (by (with_reducible repeat (first | apply Kd.R_alloc | apply Kd.R_drewN | apply Kd.R_drew)); exact HO_169000.out) (Kd.R_base ho0) hb); have n1_ := Aside0.mk (Kd.R_elder' (by (with_reducible repeat (first | apply Kd.R_alloc | apply Kd.R_drewN | apply Kd.R_drew)); exact HO_169001.out) (Kd.R_base ho1) hb); have n2_ := Aside0.mk (Kd.R_lower (Kd.R_new' ho0 (Kd.R_lt (by (with_reducible repeat (first | apply Kd.R_alloc | apply Kd.R_drewN | apply Kd.R_drew)); exact HO_169000.out))) (below_size (by repeat (first | (with_reducible first | exact HB.out | apply below_alloc | apply pw_below_drewN | apply below_drew1 | refine below_set ?_ GE156.out | refine below_set ?_ GE168.out) | exact HB.out)))); have n3_ := Aside0.mk (Kd.R_lower (Kd.R_new' ho1 (Kd.R_lt (by (with_reducible repeat (first | apply Kd.R_alloc | apply Kd.R_drewN | apply Kd.R_drew)); exact HO_169001.out))) (below_size (by repeat (first | (with_reducible first | exact HB.out | apply below_alloc | apply pw_below_drewN | apply below_drew1 | refine below_set ?_ GE156.out | refine below_set ?_ GE168.out) | exact HB.out)))); have n4_ := Aside0.mk (blk_below (g := gb156) (o := .cells #[.slice A0_0 l0_0.length c0_0, .slice A0_1 l0_1.length c0_1] 25 (0, 0)) (by (with_reducible repeat (first | refine blk_drewN ?_ _ | refine blk_drew ?_ | refine blk_alloc ?_ _)); exact BK156.out) hb); have n5_ := Aside0.mk (blk_below (g := gb168) (o := .cells #[.slice Ao24 t161.length co24, .slice Ao27 t164.length co27] 25 (0, 0)) (by (with_reducible repeat (first | refine blk_drewN ?_ _ | refine blk_drew ?_ | refine blk_alloc ?_ _)); exact BK168.out) hb); have n6_ := Aside0.mk (below_step (by repeat (first | (with_reducible first | exact HB.out | apply below_alloc | apply pw_below_drewN | apply below_drew1 | refine below_set ?_ GE156.out | refine below_set ?_ GE168.out) | exact HB.out)) hb); clear HO_169000; clear HO_169001; clear BK156; clear BK168; clear HB; have HO_169000 := n0_; have HO_169001 := n1_; have HO175 := n2_; have HO178 := n3_; have BK156 := n4_; have BK168 := n5_; have HB := n6_; clear n0_ n1_ n2_ n3_ n4_ n5_ n6_; (try clear hb); (try clear hb2); (try clear hk); (try clear hi); (try clear ho0); (try clear ho1)) | ((with_reducible refine gate_dst (N := 17) rfl ?_); (try (refine gate_guard (by rfl) ?_; dsimp only)); refine box_event ?hg (N := 17) ?hd (cs := #[.slice none 0 0, .slice none 0 0]) (t := 25) ?hr ?_; (case hd => rfl); (case hg => rfl); (case hr => first | (go_simp; done) | (go_simp; rfl)); intro gb180 hg w46 hbox hb; have n0_ := Aside0.mk (Kd.R_below (by (with_reducible repeat (first | apply Kd.R_alloc | apply Kd.R_drewN | apply Kd.R_drew)); exact HO_169000.out) hb); have n1_ := Aside0.mk (Kd.R_below (by (with_reducible repeat (first | apply Kd.R_alloc | apply Kd.R_drewN | apply Kd.R_drew)); exact HO_169001.out) hb); have n2_ := Aside0.mk (Kd.R_below (by (with_reducible repeat (first | apply Kd.R_alloc | apply Kd.R_drewN | apply Kd.R_drew)); exact HO175.out) hb); have n3_ := Aside0.mk (Kd.R_below (by (with_reducible repeat (first | apply Kd.R_alloc | apply Kd.R_drewN | apply Kd.R_drew)); exact HO178.out) hb); have n4_ := Aside0.mk (blk_below (g := gb156) (o := .cells #[.slice A0_0 l0_0.length c0_0, .slice A0_1 l0_1.length c0_1] 25 (0, 0)) (by (with_reducible repeat (first | refine blk_drewN ?_ _ | refine blk_drew ?_ | refine blk_alloc ?_ _)); exact BK156.out) hb); have n5_ := Aside0.mk (blk_below (g := gb168) (o := .cells #[.slice Ao24 t161.length co24, .slice Ao27 t164.length co27] 25 (0, 0)) (by (with_reducible repeat (first | refine blk_drewN ?_ _ | refine blk_drew ?_ | refine blk_alloc ?_ _)); exact BK168.out) hb); have n6_ := Aside0.mk (below_step (by repeat (first | (with_reducible first | exact HB.out | apply below_alloc | apply pw_below_drewN | apply below_drew1 | refine below_set ?_ GE156.out | refine below_set ?_ GE168.out) | exact HB.out)) hb); have n7_ := Aside0.mk (hbox); have n8_ := Aside0.mk ((by rw [hg]; exact (below_size (by repeat (first | (with_reducible first | exact HB.out | apply below_alloc | apply pw_below_drewN | apply below_drew1 | refine below_set ?_ GE156.out | refine below_set ?_ GE168.out) | exact HB.out))) : w.heap.size ≤ gb180)); have n9_ := Aside0.mk ((by rw [hg]; exact (below_size (by repeat (first | (with_reducible first | exact HB.out | apply below_alloc | apply pw_below_drewN | apply below_drew1 | refine below_set ?_ GE156.out | refine below_set ?_ GE168.out) | exact HB.out))) : w.heap.size ≤ gb180)); have n10_ := Aside0.mk ((by rw [hg]; exact Nat.ne_of_lt (blk_lt (g := gb156) (o := .cells #[.slice A0_0 l0_0.length c0_0, .slice A0_1 l0_1.length c0_1] 25 (0, 0)) (by (with_reducible repeat (first | refine blk_drewN ?_ _ | refine blk_drew ?_ | refine blk_alloc ?_ _)); exact BK156.out)) : gb156 ≠ gb180)); have n11_ := Aside0.mk ((by rw [hg]; exact Nat.ne_of_gt (blk_lt (g := gb156) (o := .cells #[.slice A0_0 l0_0.length c0_0, .slice A0_1 l0_1.length c0_1] 25 (0, 0)) (by (with_reducible repeat (first | refine blk_drewN ?_ _ | refine blk_drew ?_ | refine blk_alloc ?_ _)); exact BK156.out)) : gb180 ≠ gb156)); have n12_ := Aside0.mk ((by rw [hg]; exact Nat.ne_of_lt (blk_lt (g := gb168) (o := .cells #[.slice Ao24 t161.length co24, .slice Ao27 t164.length co27] 25 (0, 0)) (by (with_reducible repeat (first | refine blk_drewN ?_ _ | refine blk_drew ?_ | refine blk_alloc ?_ _)); exact BK168.out)) : gb168 ≠ gb180)); have n13_ := Aside0.mk ((by rw [hg]; exact Nat.ne_of_gt (blk_lt (g := gb168) (o := .cells #[.slice Ao24 t161.length co24, .slice Ao27 t164.length co27] 25 (0, 0)) (by (with_reducible repeat (first | refine blk_drewN ?_ _ | refine blk_drew ?_ | refine blk_alloc ?_ _)); exact BK168.out)) : gb180 ≠ gb168)); clear HO_169000; clear HO_169001; clear HO175; clear HO178; clear BK156; clear BK168; clear HB; have HO_169000 := n0_; have HO_169001 := n1_; have HO175 := n2_; have HO178 := n3_; have BK156 := n4_; have BK168 := n5_; have HB := n6_; have BK180 := n7_; have GW180 := n8_; have GE180 := n9_; have NB156_180 := n10_; have NB180_156 := n11_; have NB168_180 := n12_; have NB180_168 := n13_; clear n0_ n1_ n2_ n3_ n4_ n5_ n6_ n7_ n8_ n9_ n10_ n11_ n12_ n13_; clear hb hbox hg; obtain ⟨Ao47, co47, eo47⟩ := Kd.R_slice HO175.out; subst eo47; have hnb48 := NB180_156.out; have hnc48 := NB156_180.out; have hnb49 := NB180_168.out; have hnc49 := NB168_180.out; have hcz50_0 : w46.cell? ⟨gb180, 0, none⟩ = some (.slice none 0 0) := (blk_cell BK180.out 0).trans rfl; have hcz50_1 : w46.cell? ⟨gb180, 1, none⟩ = some (.slice none 0 0) := (blk_cell BK180.out 1).trans rfl; have hfz50_0 := blk_frozen BK180.out 0; have hfz50_1 := blk_frozen BK180.out 1; obtain ⟨Ao51, co51, eo51⟩ := Kd.R_slice HO178.out; subst eo51) | ((with_reducible refine gate_callee (f := 12) rfl ?_); refine goesL_ (some 93) rfl rfl Try.func12 (by kernel_rfl) rfl #[.agg #[.slice Ao47 t173.length co47, .slice Ao51 t176.length co51], .int .i64 a1] rfl (by (try simp only [List.map_toArray, List.map_cons, List.map_nil]); first | done | rfl | (simp only [List.length_drop, List.length_take]; rfl)) ?_; (with_reducible refine (twin_Get.calls _ _ t173 _ _ t176 a1 t181 t182 t183 _ ?side1 ?side2 ?side3 ?side4 A37.out).mono ?_); (case side1 => refine (Kd.R_reads' (e := 9) (base := w.heap.size) (ok := fun k_ => (True ∧ some k_ ≠ (.slice Ao24 t161.length co24 : Value).ownBlock)) (n := t173.length) (c := co47) ?_).2.2; exact (by (with_reducible repeat (first | apply Kd.R_alloc | apply Kd.R_drewN | apply Kd.R_drew)); exact (Kd.R_mono (Kd.R_far (p := ⟨gb180, 1, none⟩) (Kd.R_far (p := ⟨gb180, 0, none⟩) (Kd.R_types HO175.out BK180.out (by decide)) (fun _ hk => hk.2) (.slice Ao47 t173.length co47)) (fun _ hk => hk.2) (.slice Ao51 t176.length co51)) (fun _ h_ => h_.1)))); (case side2 => exact (Kd.R_reads' HO175.out).2.1); (case side3 => refine (Kd.R_reads' (e := 73) (base := w.heap.size) (ok := fun k_ => (True ∧ some k_ ≠ (.slice Ao27 t164.length co27 : Value).ownBlock)) (n := t176.length) (c := co51) ?_).2.2; exact (by (with_reducible repeat (first | apply Kd.R_alloc | apply Kd.R_drewN | apply Kd.R_drew)); exact (Kd.R_mono (Kd.R_far (p := ⟨gb180, 1, none⟩) (Kd.R_far (p := ⟨gb180, 0, none⟩) (Kd.R_types HO178.out BK180.out (by decide)) (fun _ hk => hk.2) (.slice Ao47 t173.length co47)) (fun _ hk => hk.2) (.slice Ao51 t176.length co51)) (fun _ h_ => h_.1)))); (case side4 => exact (Kd.R_reads' HO178.out).2.1); rintro e w52 ⟨rfl, hb⟩; refine ⟨_, rfl, ?_⟩; have n0_ := Aside0.mk (Kd.R_below (by (with_reducible repeat (first | apply Kd.R_alloc | apply Kd.R_drewN | apply Kd.R_drew)); exact (Kd.R_mono (Kd.R_far (p := ⟨gb180, 1, none⟩) (Kd.R_far (p := ⟨gb180, 0, none⟩) (Kd.R_types HO_169000.out BK180.out (by decide)) (fun _ hk => hk.2) (.slice Ao47 t173.length co47)) (fun _ hk => hk.2) (.slice Ao51 t176.length co51)) (fun _ h_ => h_.1))) hb); have n1_ := Aside0.mk (Kd.R_below (by (with_reducible repeat (first | apply Kd.R_alloc | apply Kd.R_drewN | apply Kd.R_drew)); exact (Kd.R_mono (Kd.R_far (p := ⟨gb180, 1, none⟩) (Kd.R_far (p := ⟨gb180, 0, none⟩) (Kd.R_types HO_169001.out BK180.out (by decide)) (fun _ hk => hk.2) (.slice Ao47 t173.length co47)) (fun _ hk => hk.2) (.slice Ao51 t176.length co51)) (fun _ h_ => h_.1))) hb); have n2_ := Aside0.mk (Kd.R_below (by (with_reducible repeat (first | apply Kd.R_alloc | apply Kd.R_drewN | apply Kd.R_drew)); exact (Kd.R_mono (Kd.R_far (p := ⟨gb180, 1, none⟩) (Kd.R_far (p := ⟨gb180, 0, none⟩) (Kd.R_types HO175.out BK180.out (by decide)) (fun _ hk => hk.2) (.slice Ao47 t173.length co47)) (fun _ hk => hk.2) (.slice Ao51 t176.length co51)) (fun _ h_ => h_.1))) hb); have n3_ := Aside0.mk (Kd.R_below (by (with_reducible repeat (first | apply Kd.R_alloc | apply Kd.R_drewN | apply Kd.R_drew)); exact (Kd.R_mono (Kd.R_far (p := ⟨gb180, 1, none⟩) (Kd.R_far (p := ⟨gb180, 0, none⟩) (Kd.R_types HO178.out BK180.out (by decide)) (fun _ hk => hk.2) (.slice Ao47 t173.length co47)) (fun _ hk => hk.2) (.slice Ao51 t176.length co51)) (fun _ h_ => h_.1))) hb); have n4_ := Aside0.mk (blk_below (g := gb156) (o := .cells #[.slice A0_0 l0_0.length c0_0, .slice A0_1 l0_1.length c0_1] 25 (0, 0)) (by (with_reducible repeat (first | refine blk_drewN ?_ _ | refine blk_drew ?_ | refine blk_alloc ?_ _)); refine blk_far ?_ NB156_180.out _; (with_reducible repeat (first | refine blk_drewN ?_ _ | refine blk_drew ?_ | refine blk_alloc ?_ _)); refine blk_far ?_ NB156_180.out _; (with_reducible repeat (first | refine blk_drewN ?_ _ | refine blk_drew ?_ | refine blk_alloc ?_ _)); exact BK156.out) hb); have n5_ := Aside0.mk (blk_below (g := gb168) (o := .cells #[.slice Ao24 t161.length co24, .slice Ao27 t164.length co27] 25 (0, 0)) (by (with_reducible repeat (first | refine blk_drewN ?_ _ | refine blk_drew ?_ | refine blk_alloc ?_ _)); refine blk_far ?_ NB168_180.out _; (with_reducible repeat (first | refine blk_drewN ?_ _ | refine blk_drew ?_ | refine blk_alloc ?_ _)); refine blk_far ?_ NB168_180.out _; (with_reducible repeat (first | refine blk_drewN ?_ _ | refine blk_drew ?_ | refine blk_alloc ?_ _)); exact BK168.out) hb); have n6_ := Aside0.mk (blk_below (g := gb180) (o := .cells #[.slice Ao47 t173.length co47, .slice Ao51 t176.length co51] 25 (0, 0)) (by (with_reducible repeat (first | refine blk_drewN ?_ _ | refine blk_drew ?_ | refine blk_alloc ?_ _)); refine blk_put (cs := #[.slice Ao47 t173.length co47, .slice none 0 0]) ?_ 1 _ rfl; (with_reducible repeat (first | refine blk_drewN ?_ _ | refine blk_drew ?_ | refine blk_alloc ?_ _)); refine blk_put (cs := #[.slice none 0 0, .slice none 0 0]) ?_ 0 _ rfl; (with_reducible repeat (first | refine blk_drewN ?_ _ | refine blk_drew ?_ | refine blk_alloc ?_ _)); exact BK180.out) hb); have n7_ := Aside0.mk (below_step (by repeat (first | (with_reducible first | exact HB.out | apply below_alloc | apply pw_below_drewN | apply below_drew1 | refine below_set ?_ GE156.out | refine below_set ?_ GE168.out | refine below_set ?_ GE180.out) | exact HB.out)) hb); clear HO_169000; clear HO_169001; clear HO175; clear HO178; clear BK156; clear BK168; clear BK180; clear HB; have HO_169000 := n0_; have HO_169001 := n1_; have HO175 := n2_; have HO178 := n3_; have BK156 := n4_; have BK168 := n5_; have BK180 := n6_; have HB := n7_; clear n0_ n1_ n2_ n3_ n4_ n5_ n6_ n7_; (try clear hb); (try clear hb2); (try clear hk); (try clear hi)) | ((with_reducible refine gate_callee (f := 14) rfl ?_); refine goesL_ (some 97) rfl rfl Try.func14 (by kernel_rfl) rfl #[] rfl (by (try simp only [List.map_toArray, List.map_cons, List.map_nil]); first | done | rfl | (simp only [List.length_drop, List.length_take]; rfl)) ?_; (with_reducible refine (sextonlaw05_twins.calls  true _ A38.out).mono ?_); rintro e w53 ⟨rfl, hb⟩; refine ⟨_, rfl, ?_⟩; have n0_ := Aside0.mk (Kd.R_below (by (with_reducible repeat (first | apply Kd.R_alloc | apply Kd.R_drewN | apply Kd.R_drew)); exact HO_169000.out) hb); have n1_ := Aside0.mk (Kd.R_below (by (with_reducible repeat (first | apply Kd.R_alloc | apply Kd.R_drewN | apply Kd.R_drew)); exact HO_169001.out) hb); have n2_ := Aside0.mk (Kd.R_below (by (with_reducible repeat (first | apply Kd.R_alloc | apply Kd.R_drewN | apply Kd.R_drew)); exact HO175.out) hb); have n3_ := Aside0.mk (Kd.R_below (by (with_reducible repeat (first | apply Kd.R_alloc | apply Kd.R_drewN | apply Kd.R_drew)); exact HO178.out) hb); have n4_ := Aside0.mk (blk_below (g := gb156) (o := .cells #[.slice A0_0 l0_0.length c0_0, .slice A0_1 l0_1.length c0_1] 25 (0, 0)) (by (with_reducible repeat (first | refine blk_drewN ?_ _ | refine blk_drew ?_ | refine blk_alloc ?_ _)); exact BK156.out) hb); have n5_ := Aside0.mk (blk_below (g := gb168) (o := .cells #[.slice Ao24 t161.length co24, .slice Ao27 t164.length co27] 25 (0, 0)) (by (with_reducible repeat (first | refine blk_drewN ?_ _ | refine blk_drew ?_ | refine blk_alloc ?_ _)); exact BK168.out) hb); have n6_ := Aside0.mk (blk_below (g := gb180) (o := .cells #[.slice Ao47 t173.length co47, .slice Ao51 t176.length co51] 25 (0, 0)) (by (with_reducible repeat (first | refine blk_drewN ?_ _ | refine blk_drew ?_ | refine blk_alloc ?_ _)); exact BK180.out) hb); have n7_ := Aside0.mk (below_step (by repeat (first | (with_reducible first | exact HB.out | apply below_alloc | apply pw_below_drewN | apply below_drew1 | refine below_set ?_ GE156.out | refine below_set ?_ GE168.out | refine below_set ?_ GE180.out) | exact HB.out)) hb); clear HO_169000; clear HO_169001; clear HO175; clear HO178; clear BK156; clear BK168; clear BK180; clear HB; have HO_169000 := n0_; have HO_169001 := n1_; have HO175 := n2_; have HO178 := n3_; have BK156 := n4_; have BK168 := n5_; have BK180 := n6_; have HB := n7_; clear n0_ n1_ n2_ n3_ n4_ n5_ n6_ n7_; (try clear hb); (try clear hb2); (try clear hk); (try clear hi)))
                        go_ret
                        exact ⟨by first | rfl | (simp [errW_none, errW_some] <;> rfl) | (simp [*, errW_none, errW_some] <;> rfl), by repeat (first | (with_reducible first | exact HB.out | apply below_alloc | apply pw_below_drewN | apply below_drew1 | refine below_set ?_ GE156.out | refine below_set ?_ GE168.out | refine below_set ?_ GE180.out) | exact HB.out)⟩
                      · rw [if_neg c42] at H
                        exact absurd (H.trans (congrArg some HRT.out)) (by decide)
                    · rw [if_neg c41] at H
                      exact absurd (H.trans (congrArg some HRT.out)) (by decide)
                  · rw [if_neg c40] at H
                    have c40b0 : (t179 == 0) = false := beq_eq_false_iff_ne.mpr c40
                    have c40b1 : (t179 != 0) = true := bne_iff_ne.mpr c40
                    obtain rfl := Option.some.inj H
                    have hnb76 := NB168_156.out
                    have hnc76 := NB156_168.out
                    have hcz77_0 : wc.cell? ⟨gb168, 0, none⟩ = some (.slice Ao24 t161.length co24) := (blk_cell BK168.out 0).trans rfl
                    have hcz77_1 : wc.cell? ⟨gb168, 1, none⟩ = some (.slice Ao27 t164.length co27) := (blk_cell BK168.out 1).trans rfl
                    have hfz77_0 := blk_frozen BK168.out 0
                    have hfz77_1 := blk_frozen BK168.out 1
                    go_wp2_with (first | ((with_reducible refine gate_callee (f := 13) rfl ?_); refine goesL_ (some 87) rfl rfl Try.func13 (by kernel_rfl) rfl #[.agg #[.slice Ao24 t161.length co24, .slice Ao27 t164.length co27], .int .i64 a1, .string a3] rfl (by (try simp only [List.map_toArray, List.map_cons, List.map_nil]); first | done | rfl | (simp only [List.length_drop, List.length_take]; rfl)) ?_; (with_reducible refine (twin_Put.calls _ _ t161 _ _ t164 a1 a3 t173 t176 t179 _ ?side1 ?side2 ?side3 ?side4 A36.out).mono ?_); (case side1 => repeat (first | exact (Kd.R_reads' HO_169000.out).2.2 | (with_reducible refine Kd.C_alloc ?_ _) | (with_reducible refine Kd.C_drewN ?_ _) | (with_reducible refine Kd.C_drew ?_))); (case side2 => exact (Kd.R_reads' HO_169000.out).2.1); (case side3 => repeat (first | exact (Kd.R_reads' HO_169001.out).2.2 | (with_reducible refine Kd.C_alloc ?_ _) | (with_reducible refine Kd.C_drewN ?_ _) | (with_reducible refine Kd.C_drew ?_))); (case side4 => exact (Kd.R_reads' HO_169001.out).2.1); rintro e w78 ⟨v174, v177, rfl, ho0, ho1, hb⟩; refine ⟨_, rfl, ?_⟩; have n0_ := Aside0.mk (Kd.R_elder' (by (with_reducible repeat (first | apply Kd.R_alloc | apply Kd.R_drewN | apply Kd.R_drew)); exact HO_169000.out) (Kd.R_base ho0) hb); have n1_ := Aside0.mk (Kd.R_elder' (by (with_reducible repeat (first | apply Kd.R_alloc | apply Kd.R_drewN | apply Kd.R_drew)); exact HO_169001.out) (Kd.R_base ho1) hb); have n2_ := Aside0.mk (Kd.R_lower (Kd.R_new' ho0 (Kd.R_lt (by (with_reducible repeat (first | apply Kd.R_alloc | apply Kd.R_drewN | apply Kd.R_drew)); exact HO_169000.out))) (below_size (by repeat (first | (with_reducible first | exact HB.out | apply below_alloc | apply pw_below_drewN | apply below_drew1 | refine below_set ?_ GE156.out | refine below_set ?_ GE168.out) | exact HB.out)))); have n3_ := Aside0.mk (Kd.R_lower (Kd.R_new' ho1 (Kd.R_lt (by (with_reducible repeat (first | apply Kd.R_alloc | apply Kd.R_drewN | apply Kd.R_drew)); exact HO_169001.out))) (below_size (by repeat (first | (with_reducible first | exact HB.out | apply below_alloc | apply pw_below_drewN | apply below_drew1 | refine below_set ?_ GE156.out | refine below_set ?_ GE168.out) | exact HB.out)))); have n4_ := Aside0.mk (blk_below (g := gb156) (o := .cells #[.slice A0_0 l0_0.length c0_0, .slice A0_1 l0_1.length c0_1] 25 (0, 0)) (by (with_reducible repeat (first | refine blk_drewN ?_ _ | refine blk_drew ?_ | refine blk_alloc ?_ _)); exact BK156.out) hb); have n5_ := Aside0.mk (blk_below (g := gb168) (o := .cells #[.slice Ao24 t161.length co24, .slice Ao27 t164.length co27] 25 (0, 0)) (by (with_reducible repeat (first | refine blk_drewN ?_ _ | refine blk_drew ?_ | refine blk_alloc ?_ _)); exact BK168.out) hb); have n6_ := Aside0.mk (below_step (by repeat (first | (with_reducible first | exact HB.out | apply below_alloc | apply pw_below_drewN | apply below_drew1 | refine below_set ?_ GE156.out | refine below_set ?_ GE168.out) | exact HB.out)) hb); clear HO_169000; clear HO_169001; clear BK156; clear BK168; clear HB; have HO_169000 := n0_; have HO_169001 := n1_; have HO175 := n2_; have HO178 := n3_; have BK156 := n4_; have BK168 := n5_; have HB := n6_; clear n0_ n1_ n2_ n3_ n4_ n5_ n6_; (try clear hb); (try clear hb2); (try clear hk); (try clear hi); (try clear ho0); (try clear ho1)) | ((with_reducible refine gate_dst (N := 17) rfl ?_); (try (refine gate_guard (by rfl) ?_; dsimp only)); refine box_event ?hg (N := 17) ?hd (cs := #[.slice none 0 0, .slice none 0 0]) (t := 25) ?hr ?_; (case hd => rfl); (case hg => rfl); (case hr => first | (go_simp; done) | (go_simp; rfl)); intro gb180 hg w79 hbox hb; have n0_ := Aside0.mk (Kd.R_below (by (with_reducible repeat (first | apply Kd.R_alloc | apply Kd.R_drewN | apply Kd.R_drew)); exact HO_169000.out) hb); have n1_ := Aside0.mk (Kd.R_below (by (with_reducible repeat (first | apply Kd.R_alloc | apply Kd.R_drewN | apply Kd.R_drew)); exact HO_169001.out) hb); have n2_ := Aside0.mk (Kd.R_below (by (with_reducible repeat (first | apply Kd.R_alloc | apply Kd.R_drewN | apply Kd.R_drew)); exact HO175.out) hb); have n3_ := Aside0.mk (Kd.R_below (by (with_reducible repeat (first | apply Kd.R_alloc | apply Kd.R_drewN | apply Kd.R_drew)); exact HO178.out) hb); have n4_ := Aside0.mk (blk_below (g := gb156) (o := .cells #[.slice A0_0 l0_0.length c0_0, .slice A0_1 l0_1.length c0_1] 25 (0, 0)) (by (with_reducible repeat (first | refine blk_drewN ?_ _ | refine blk_drew ?_ | refine blk_alloc ?_ _)); exact BK156.out) hb); have n5_ := Aside0.mk (blk_below (g := gb168) (o := .cells #[.slice Ao24 t161.length co24, .slice Ao27 t164.length co27] 25 (0, 0)) (by (with_reducible repeat (first | refine blk_drewN ?_ _ | refine blk_drew ?_ | refine blk_alloc ?_ _)); exact BK168.out) hb); have n6_ := Aside0.mk (below_step (by repeat (first | (with_reducible first | exact HB.out | apply below_alloc | apply pw_below_drewN | apply below_drew1 | refine below_set ?_ GE156.out | refine below_set ?_ GE168.out) | exact HB.out)) hb); have n7_ := Aside0.mk (hbox); have n8_ := Aside0.mk ((by rw [hg]; exact (below_size (by repeat (first | (with_reducible first | exact HB.out | apply below_alloc | apply pw_below_drewN | apply below_drew1 | refine below_set ?_ GE156.out | refine below_set ?_ GE168.out) | exact HB.out))) : w.heap.size ≤ gb180)); have n9_ := Aside0.mk ((by rw [hg]; exact (below_size (by repeat (first | (with_reducible first | exact HB.out | apply below_alloc | apply pw_below_drewN | apply below_drew1 | refine below_set ?_ GE156.out | refine below_set ?_ GE168.out) | exact HB.out))) : w.heap.size ≤ gb180)); have n10_ := Aside0.mk ((by rw [hg]; exact Nat.ne_of_lt (blk_lt (g := gb156) (o := .cells #[.slice A0_0 l0_0.length c0_0, .slice A0_1 l0_1.length c0_1] 25 (0, 0)) (by (with_reducible repeat (first | refine blk_drewN ?_ _ | refine blk_drew ?_ | refine blk_alloc ?_ _)); exact BK156.out)) : gb156 ≠ gb180)); have n11_ := Aside0.mk ((by rw [hg]; exact Nat.ne_of_gt (blk_lt (g := gb156) (o := .cells #[.slice A0_0 l0_0.length c0_0, .slice A0_1 l0_1.length c0_1] 25 (0, 0)) (by (with_reducible repeat (first | refine blk_drewN ?_ _ | refine blk_drew ?_ | refine blk_alloc ?_ _)); exact BK156.out)) : gb180 ≠ gb156)); have n12_ := Aside0.mk ((by rw [hg]; exact Nat.ne_of_lt (blk_lt (g := gb168) (o := .cells #[.slice Ao24 t161.length co24, .slice Ao27 t164.length co27] 25 (0, 0)) (by (with_reducible repeat (first | refine blk_drewN ?_ _ | refine blk_drew ?_ | refine blk_alloc ?_ _)); exact BK168.out)) : gb168 ≠ gb180)); have n13_ := Aside0.mk ((by rw [hg]; exact Nat.ne_of_gt (blk_lt (g := gb168) (o := .cells #[.slice Ao24 t161.length co24, .slice Ao27 t164.length co27] 25 (0, 0)) (by (with_reducible repeat (first | refine blk_drewN ?_ _ | refine blk_drew ?_ | refine blk_alloc ?_ _)); exact BK168.out)) : gb180 ≠ gb168)); clear HO_169000; clear HO_169001; clear HO175; clear HO178; clear BK156; clear BK168; clear HB; have HO_169000 := n0_; have HO_169001 := n1_; have HO175 := n2_; have HO178 := n3_; have BK156 := n4_; have BK168 := n5_; have HB := n6_; have BK180 := n7_; have GW180 := n8_; have GE180 := n9_; have NB156_180 := n10_; have NB180_156 := n11_; have NB168_180 := n12_; have NB180_168 := n13_; clear n0_ n1_ n2_ n3_ n4_ n5_ n6_ n7_ n8_ n9_ n10_ n11_ n12_ n13_; clear hb hbox hg; obtain ⟨Ao80, co80, eo80⟩ := Kd.R_slice HO175.out; subst eo80; have hnb81 := NB180_156.out; have hnc81 := NB156_180.out; have hnb82 := NB180_168.out; have hnc82 := NB168_180.out; have hcz83_0 : w79.cell? ⟨gb180, 0, none⟩ = some (.slice none 0 0) := (blk_cell BK180.out 0).trans rfl; have hcz83_1 : w79.cell? ⟨gb180, 1, none⟩ = some (.slice none 0 0) := (blk_cell BK180.out 1).trans rfl; have hfz83_0 := blk_frozen BK180.out 0; have hfz83_1 := blk_frozen BK180.out 1; obtain ⟨Ao84, co84, eo84⟩ := Kd.R_slice HO178.out; subst eo84) | ((with_reducible refine gate_callee (f := 12) rfl ?_); refine goesL_ (some 93) rfl rfl Try.func12 (by kernel_rfl) rfl #[.agg #[.slice Ao80 t173.length co80, .slice Ao84 t176.length co84], .int .i64 a1] rfl (by (try simp only [List.map_toArray, List.map_cons, List.map_nil]); first | done | rfl | (simp only [List.length_drop, List.length_take]; rfl)) ?_; (with_reducible refine (twin_Get.calls _ _ t173 _ _ t176 a1 t181 t182 t183 _ ?side1 ?side2 ?side3 ?side4 A37.out).mono ?_); (case side1 => refine (Kd.R_reads' (e := 9) (base := w.heap.size) (ok := fun k_ => (True ∧ some k_ ≠ (.slice Ao24 t161.length co24 : Value).ownBlock)) (n := t173.length) (c := co80) ?_).2.2; exact (by (with_reducible repeat (first | apply Kd.R_alloc | apply Kd.R_drewN | apply Kd.R_drew)); exact (Kd.R_mono (Kd.R_far (p := ⟨gb180, 1, none⟩) (Kd.R_far (p := ⟨gb180, 0, none⟩) (Kd.R_types HO175.out BK180.out (by decide)) (fun _ hk => hk.2) (.slice Ao80 t173.length co80)) (fun _ hk => hk.2) (.slice Ao84 t176.length co84)) (fun _ h_ => h_.1)))); (case side2 => exact (Kd.R_reads' HO175.out).2.1); (case side3 => refine (Kd.R_reads' (e := 73) (base := w.heap.size) (ok := fun k_ => (True ∧ some k_ ≠ (.slice Ao27 t164.length co27 : Value).ownBlock)) (n := t176.length) (c := co84) ?_).2.2; exact (by (with_reducible repeat (first | apply Kd.R_alloc | apply Kd.R_drewN | apply Kd.R_drew)); exact (Kd.R_mono (Kd.R_far (p := ⟨gb180, 1, none⟩) (Kd.R_far (p := ⟨gb180, 0, none⟩) (Kd.R_types HO178.out BK180.out (by decide)) (fun _ hk => hk.2) (.slice Ao80 t173.length co80)) (fun _ hk => hk.2) (.slice Ao84 t176.length co84)) (fun _ h_ => h_.1)))); (case side4 => exact (Kd.R_reads' HO178.out).2.1); rintro e w85 ⟨rfl, hb⟩; refine ⟨_, rfl, ?_⟩; have n0_ := Aside0.mk (Kd.R_below (by (with_reducible repeat (first | apply Kd.R_alloc | apply Kd.R_drewN | apply Kd.R_drew)); exact (Kd.R_mono (Kd.R_far (p := ⟨gb180, 1, none⟩) (Kd.R_far (p := ⟨gb180, 0, none⟩) (Kd.R_types HO_169000.out BK180.out (by decide)) (fun _ hk => hk.2) (.slice Ao80 t173.length co80)) (fun _ hk => hk.2) (.slice Ao84 t176.length co84)) (fun _ h_ => h_.1))) hb); have n1_ := Aside0.mk (Kd.R_below (by (with_reducible repeat (first | apply Kd.R_alloc | apply Kd.R_drewN | apply Kd.R_drew)); exact (Kd.R_mono (Kd.R_far (p := ⟨gb180, 1, none⟩) (Kd.R_far (p := ⟨gb180, 0, none⟩) (Kd.R_types HO_169001.out BK180.out (by decide)) (fun _ hk => hk.2) (.slice Ao80 t173.length co80)) (fun _ hk => hk.2) (.slice Ao84 t176.length co84)) (fun _ h_ => h_.1))) hb); have n2_ := Aside0.mk (Kd.R_below (by (with_reducible repeat (first | apply Kd.R_alloc | apply Kd.R_drewN | apply Kd.R_drew)); exact (Kd.R_mono (Kd.R_far (p := ⟨gb180, 1, none⟩) (Kd.R_far (p := ⟨gb180, 0, none⟩) (Kd.R_types HO175.out BK180.out (by decide)) (fun _ hk => hk.2) (.slice Ao80 t173.length co80)) (fun _ hk => hk.2) (.slice Ao84 t176.length co84)) (fun _ h_ => h_.1))) hb); have n3_ := Aside0.mk (Kd.R_below (by (with_reducible repeat (first | apply Kd.R_alloc | apply Kd.R_drewN | apply Kd.R_drew)); exact (Kd.R_mono (Kd.R_far (p := ⟨gb180, 1, none⟩) (Kd.R_far (p := ⟨gb180, 0, none⟩) (Kd.R_types HO178.out BK180.out (by decide)) (fun _ hk => hk.2) (.slice Ao80 t173.length co80)) (fun _ hk => hk.2) (.slice Ao84 t176.length co84)) (fun _ h_ => h_.1))) hb); have n4_ := Aside0.mk (blk_below (g := gb156) (o := .cells #[.slice A0_0 l0_0.length c0_0, .slice A0_1 l0_1.length c0_1] 25 (0, 0)) (by (with_reducible repeat (first | refine blk_drewN ?_ _ | refine blk_drew ?_ | refine blk_alloc ?_ _)); refine blk_far ?_ NB156_180.out _; (with_reducible repeat (first | refine blk_drewN ?_ _ | refine blk_drew ?_ | refine blk_alloc ?_ _)); refine blk_far ?_ NB156_180.out _; (with_reducible repeat (first | refine blk_drewN ?_ _ | refine blk_drew ?_ | refine blk_alloc ?_ _)); exact BK156.out) hb); have n5_ := Aside0.mk (blk_below (g := gb168) (o := .cells #[.slice Ao24 t161.length co24, .slice Ao27 t164.length co27] 25 (0, 0)) (by (with_reducible repeat (first | refine blk_drewN ?_ _ | refine blk_drew ?_ | refine blk_alloc ?_ _)); refine blk_far ?_ NB168_180.out _; (with_reducible repeat (first | refine blk_drewN ?_ _ | refine blk_drew ?_ | refine blk_alloc ?_ _)); refine blk_far ?_ NB168_180.out _; (with_reducible repeat (first | refine blk_drewN ?_ _ | refine blk_drew ?_ | refine blk_alloc ?_ _)); exact BK168.out) hb); have n6_ := Aside0.mk (blk_below (g := gb180) (o := .cells #[.slice Ao80 t173.length co80, .slice Ao84 t176.length co84] 25 (0, 0)) (by (with_reducible repeat (first | refine blk_drewN ?_ _ | refine blk_drew ?_ | refine blk_alloc ?_ _)); refine blk_put (cs := #[.slice Ao80 t173.length co80, .slice none 0 0]) ?_ 1 _ rfl; (with_reducible repeat (first | refine blk_drewN ?_ _ | refine blk_drew ?_ | refine blk_alloc ?_ _)); refine blk_put (cs := #[.slice none 0 0, .slice none 0 0]) ?_ 0 _ rfl; (with_reducible repeat (first | refine blk_drewN ?_ _ | refine blk_drew ?_ | refine blk_alloc ?_ _)); exact BK180.out) hb); have n7_ := Aside0.mk (below_step (by repeat (first | (with_reducible first | exact HB.out | apply below_alloc | apply pw_below_drewN | apply below_drew1 | refine below_set ?_ GE156.out | refine below_set ?_ GE168.out | refine below_set ?_ GE180.out) | exact HB.out)) hb); clear HO_169000; clear HO_169001; clear HO175; clear HO178; clear BK156; clear BK168; clear BK180; clear HB; have HO_169000 := n0_; have HO_169001 := n1_; have HO175 := n2_; have HO178 := n3_; have BK156 := n4_; have BK168 := n5_; have BK180 := n6_; have HB := n7_; clear n0_ n1_ n2_ n3_ n4_ n5_ n6_ n7_; (try clear hb); (try clear hb2); (try clear hk); (try clear hi)) | ((with_reducible refine gate_callee (f := 14) rfl ?_); refine goesL_ (some 97) rfl rfl Try.func14 (by kernel_rfl) rfl #[] rfl (by (try simp only [List.map_toArray, List.map_cons, List.map_nil]); first | done | rfl | (simp only [List.length_drop, List.length_take]; rfl)) ?_; (with_reducible refine (sextonlaw05_twins.calls  true _ A38.out).mono ?_); rintro e w86 ⟨rfl, hb⟩; refine ⟨_, rfl, ?_⟩; have n0_ := Aside0.mk (Kd.R_below (by (with_reducible repeat (first | apply Kd.R_alloc | apply Kd.R_drewN | apply Kd.R_drew)); exact HO_169000.out) hb); have n1_ := Aside0.mk (Kd.R_below (by (with_reducible repeat (first | apply Kd.R_alloc | apply Kd.R_drewN | apply Kd.R_drew)); exact HO_169001.out) hb); have n2_ := Aside0.mk (Kd.R_below (by (with_reducible repeat (first | apply Kd.R_alloc | apply Kd.R_drewN | apply Kd.R_drew)); exact HO175.out) hb); have n3_ := Aside0.mk (Kd.R_below (by (with_reducible repeat (first | apply Kd.R_alloc | apply Kd.R_drewN | apply Kd.R_drew)); exact HO178.out) hb); have n4_ := Aside0.mk (blk_below (g := gb156) (o := .cells #[.slice A0_0 l0_0.length c0_0, .slice A0_1 l0_1.length c0_1] 25 (0, 0)) (by (with_reducible repeat (first | refine blk_drewN ?_ _ | refine blk_drew ?_ | refine blk_alloc ?_ _)); exact BK156.out) hb); have n5_ := Aside0.mk (blk_below (g := gb168) (o := .cells #[.slice Ao24 t161.length co24, .slice Ao27 t164.length co27] 25 (0, 0)) (by (with_reducible repeat (first | refine blk_drewN ?_ _ | refine blk_drew ?_ | refine blk_alloc ?_ _)); exact BK168.out) hb); have n6_ := Aside0.mk (blk_below (g := gb180) (o := .cells #[.slice Ao80 t173.length co80, .slice Ao84 t176.length co84] 25 (0, 0)) (by (with_reducible repeat (first | refine blk_drewN ?_ _ | refine blk_drew ?_ | refine blk_alloc ?_ _)); exact BK180.out) hb); have n7_ := Aside0.mk (below_step (by repeat (first | (with_reducible first | exact HB.out | apply below_alloc | apply pw_below_drewN | apply below_drew1 | refine below_set ?_ GE156.out | refine below_set ?_ GE168.out | refine below_set ?_ GE180.out) | exact HB.out)) hb); clear HO_169000; clear HO_169001; clear HO175; clear HO178; clear BK156; clear BK168; clear BK180; clear HB; have HO_169000 := n0_; have HO_169001 := n1_; have HO175 := n2_; have HO178 := n3_; have BK156 := n4_; have BK168 := n5_; have BK180 := n6_; have HB := n7_; clear n0_ n1_ n2_ n3_ n4_ n5_ n6_ n7_; (try clear hb); (try clear hb2); (try clear hk); (try clear hi)))
                    go_ret
                    exact ⟨by first | rfl | (simp [errW_none, errW_some] <;> rfl) | (simp [*, errW_none, errW_some] <;> rfl), by repeat (first | (with_reducible first | exact HB.out | apply below_alloc | apply pw_below_drewN | apply below_drew1 | refine below_set ?_ GE156.out | refine below_set ?_ GE168.out | refine below_set ?_ GE180.out) | exact HB.out)⟩
                · replace c39 := Bool.eq_false_iff.mpr c39
                  subst c39
                  have H1 : (some false) = some r := by rw [if_neg (show ¬ (false = true) by decide)] at H; exact H
                  exact absurd (H1.trans (congrArg some HRT.out)) (by decide)
        · rw [if_neg c16] at H
          have c16b0 : (t167 == 0) = false := beq_eq_false_iff_ne.mpr c16
          have c16b1 : (t167 != 0) = true := bne_iff_ne.mpr c16
          replace H := Option.bind_eq_some_iff.mp H
          obtain ⟨t169, A980, H⟩ := H
          replace H : (if t169 = true then (some ((t161.length : Int) == 0)) else (some false)) = some r := H
          have A98 := Aside0.mk A980
          clear A980
          by_cases c99 : t169 = true
          · subst c99
            have H1 : (some ((t161.length : Int) == 0)) = some r := by rw [if_pos rfl] at H; exact H
            clear H
            have H := H1
            clear H1
            obtain rfl := Option.some.inj H
            have hcz100_0 : wc.cell? ⟨gb156, 0, none⟩ = some (.slice A0_0 l0_0.length c0_0) := (blk_cell BK156.out 0).trans rfl
            have hcz100_1 : wc.cell? ⟨gb156, 1, none⟩ = some (.slice A0_1 l0_1.length c0_1) := (blk_cell BK156.out 1).trans rfl
            have hfz100_0 := blk_frozen BK156.out 0
            have hfz100_1 := blk_frozen BK156.out 1
            go_wp2_with (first | ((with_reducible refine gate_callee (f := 12) rfl ?_); refine goesL_ (some 33) rfl rfl Try.func12 (by kernel_rfl) rfl #[.agg #[.slice A0_0 l0_0.length c0_0, .slice A0_1 l0_1.length c0_1], .int .i64 a1] rfl (by (try simp only [List.map_toArray, List.map_cons, List.map_nil]); first | done | rfl | (simp only [List.length_drop, List.length_take]; rfl)) ?_; (with_reducible refine (twin_Get.calls _ _ l0_0 _ _ l0_1 a1 t158 t159 t160 _ ?side1 ?side2 ?side3 ?side4 A14.out).mono ?_); (case side1 => repeat (first | exact (Kd.C_below HR0_0.out HB.out) | (with_reducible refine Kd.C_alloc ?_ _) | (with_reducible refine Kd.C_drewN ?_ _) | (with_reducible refine Kd.C_drew ?_))); (case side2 => exact HC0_0.out); (case side3 => repeat (first | exact (Kd.C_below HR0_1.out HB.out) | (with_reducible refine Kd.C_alloc ?_ _) | (with_reducible refine Kd.C_drewN ?_ _) | (with_reducible refine Kd.C_drew ?_))); (case side4 => exact HC0_1.out); rintro e w101 ⟨rfl, hb⟩; refine ⟨_, rfl, ?_⟩; have n0_ := Aside0.mk (blk_below (g := gb156) (o := .cells #[.slice A0_0 l0_0.length c0_0, .slice A0_1 l0_1.length c0_1] 25 (0, 0)) (by (with_reducible repeat (first | refine blk_drewN ?_ _ | refine blk_drew ?_ | refine blk_alloc ?_ _)); exact BK156.out) hb); have n1_ := Aside0.mk (below_step (by repeat (first | (with_reducible first | exact HB.out | apply below_alloc | apply pw_below_drewN | apply below_drew1 | refine below_set ?_ GE156.out) | exact HB.out)) hb); clear BK156; clear HB; have BK156 := n0_; have HB := n1_; clear n0_ n1_; (try clear hb); (try clear hb2); (try clear hk); (try clear hi); have hcz102_0 : w101.cell? ⟨gb156, 0, none⟩ = some (.slice A0_0 l0_0.length c0_0) := (blk_cell BK156.out 0).trans rfl; have hcz102_1 : w101.cell? ⟨gb156, 1, none⟩ = some (.slice A0_1 l0_1.length c0_1) := (blk_cell BK156.out 1).trans rfl; have hfz102_0 := blk_frozen BK156.out 0; have hfz102_1 := blk_frozen BK156.out 1) | ((with_reducible refine gate_callee (f := 13) rfl ?_); refine goesL_ (some 41) rfl rfl Try.func13 (by kernel_rfl) rfl #[.agg #[.slice A0_0 l0_0.length c0_0, .slice A0_1 l0_1.length c0_1], .int .i64 a1, .string a2] rfl (by (try simp only [List.map_toArray, List.map_cons, List.map_nil]); first | done | rfl | (simp only [List.length_drop, List.length_take]; rfl)) ?_; (with_reducible refine (twin_Put.calls _ _ l0_0 _ _ l0_1 a1 a2 t161 t164 t167 _ ?side1 ?side2 ?side3 ?side4 A15.out).mono ?_); (case side1 => repeat (first | exact (Kd.C_below HR0_0.out HB.out) | (with_reducible refine Kd.C_alloc ?_ _) | (with_reducible refine Kd.C_drewN ?_ _) | (with_reducible refine Kd.C_drew ?_))); (case side2 => exact HC0_0.out); (case side3 => repeat (first | exact (Kd.C_below HR0_1.out HB.out) | (with_reducible refine Kd.C_alloc ?_ _) | (with_reducible refine Kd.C_drewN ?_ _) | (with_reducible refine Kd.C_drew ?_))); (case side4 => exact HC0_1.out); rintro e w103 ⟨v162, v165, rfl, ho0, ho1, hb⟩; refine ⟨_, rfl, ?_⟩; have n0_ := Aside0.mk (Kd.R_lower ho0 (below_size (by repeat (first | (with_reducible first | exact HB.out | apply below_alloc | apply pw_below_drewN | apply below_drew1 | refine below_set ?_ GE156.out) | exact HB.out)))); have n1_ := Aside0.mk (Kd.R_lower ho1 (below_size (by repeat (first | (with_reducible first | exact HB.out | apply below_alloc | apply pw_below_drewN | apply below_drew1 | refine below_set ?_ GE156.out) | exact HB.out)))); have n2_ := Aside0.mk (blk_below (g := gb156) (o := .cells #[.slice A0_0 l0_0.length c0_0, .slice A0_1 l0_1.length c0_1] 25 (0, 0)) (by (with_reducible repeat (first | refine blk_drewN ?_ _ | refine blk_drew ?_ | refine blk_alloc ?_ _)); exact BK156.out) hb); have n3_ := Aside0.mk (below_step (by repeat (first | (with_reducible first | exact HB.out | apply below_alloc | apply pw_below_drewN | apply below_drew1 | refine below_set ?_ GE156.out) | exact HB.out)) hb); clear BK156; clear HB; have HO163 := n0_; have HO166 := n1_; have BK156 := n2_; have HB := n3_; clear n0_ n1_ n2_ n3_; (try clear hb); (try clear hb2); (try clear hk); (try clear hi); (try clear ho0); (try clear ho1)) | ((with_reducible refine gate_dst (N := 12) rfl ?_); (try (refine gate_guard (by rfl) ?_; dsimp only)); refine box_event ?hg (N := 12) ?hd (cs := #[.slice none 0 0, .slice none 0 0]) (t := 25) ?hr ?_; (case hd => rfl); (case hg => rfl); (case hr => first | (go_simp; done) | (go_simp; rfl)); intro gb168 hg w104 hbox hb; have n0_ := Aside0.mk (Kd.R_below (by (with_reducible repeat (first | apply Kd.R_alloc | apply Kd.R_drewN | apply Kd.R_drew)); exact HO163.out) hb); have n1_ := Aside0.mk (Kd.R_below (by (with_reducible repeat (first | apply Kd.R_alloc | apply Kd.R_drewN | apply Kd.R_drew)); exact HO166.out) hb); have n2_ := Aside0.mk (blk_below (g := gb156) (o := .cells #[.slice A0_0 l0_0.length c0_0, .slice A0_1 l0_1.length c0_1] 25 (0, 0)) (by (with_reducible repeat (first | refine blk_drewN ?_ _ | refine blk_drew ?_ | refine blk_alloc ?_ _)); exact BK156.out) hb); have n3_ := Aside0.mk (below_step (by repeat (first | (with_reducible first | exact HB.out | apply below_alloc | apply pw_below_drewN | apply below_drew1 | refine below_set ?_ GE156.out) | exact HB.out)) hb); have n4_ := Aside0.mk (hbox); have n5_ := Aside0.mk ((by rw [hg]; exact (below_size (by repeat (first | (with_reducible first | exact HB.out | apply below_alloc | apply pw_below_drewN | apply below_drew1 | refine below_set ?_ GE156.out) | exact HB.out))) : w.heap.size ≤ gb168)); have n6_ := Aside0.mk ((by rw [hg]; exact (below_size (by repeat (first | (with_reducible first | exact HB.out | apply below_alloc | apply pw_below_drewN | apply below_drew1 | refine below_set ?_ GE156.out) | exact HB.out))) : w.heap.size ≤ gb168)); have n7_ := Aside0.mk ((by rw [hg]; exact Nat.ne_of_lt (blk_lt (g := gb156) (o := .cells #[.slice A0_0 l0_0.length c0_0, .slice A0_1 l0_1.length c0_1] 25 (0, 0)) (by (with_reducible repeat (first | refine blk_drewN ?_ _ | refine blk_drew ?_ | refine blk_alloc ?_ _)); exact BK156.out)) : gb156 ≠ gb168)); have n8_ := Aside0.mk ((by rw [hg]; exact Nat.ne_of_gt (blk_lt (g := gb156) (o := .cells #[.slice A0_0 l0_0.length c0_0, .slice A0_1 l0_1.length c0_1] 25 (0, 0)) (by (with_reducible repeat (first | refine blk_drewN ?_ _ | refine blk_drew ?_ | refine blk_alloc ?_ _)); exact BK156.out)) : gb168 ≠ gb156)); clear HO163; clear HO166; clear BK156; clear HB; have HO163 := n0_; have HO166 := n1_; have BK156 := n2_; have HB := n3_; have BK168 := n4_; have GW168 := n5_; have GE168 := n6_; have NB156_168 := n7_; have NB168_156 := n8_; clear n0_ n1_ n2_ n3_ n4_ n5_ n6_ n7_ n8_; clear hb hbox hg; obtain ⟨Ao105, co105, eo105⟩ := Kd.R_slice HO163.out; subst eo105; have hnb106 := NB168_156.out; have hnc106 := NB156_168.out; have hcz107_0 : w104.cell? ⟨gb168, 0, none⟩ = some (.slice none 0 0) := (blk_cell BK168.out 0).trans rfl; have hcz107_1 : w104.cell? ⟨gb168, 1, none⟩ = some (.slice none 0 0) := (blk_cell BK168.out 1).trans rfl; have hfz107_0 := blk_frozen BK168.out 0; have hfz107_1 := blk_frozen BK168.out 1; obtain ⟨Ao108, co108, eo108⟩ := Kd.R_slice HO166.out; subst eo108) | ((with_reducible refine gate_callee (f := 14) rfl ?_); refine goesL_ (some 46) rfl rfl Try.func14 (by kernel_rfl) rfl #[] rfl (by (try simp only [List.map_toArray, List.map_cons, List.map_nil]); first | done | rfl | (simp only [List.length_drop, List.length_take]; rfl)) ?_; (with_reducible refine (sextonlaw05_twins.calls  true _ A98.out).mono ?_); rintro e w109 ⟨rfl, hb⟩; refine ⟨_, rfl, ?_⟩; have n0_ := Aside0.mk (Kd.R_below (by (with_reducible repeat (first | apply Kd.R_alloc | apply Kd.R_drewN | apply Kd.R_drew)); exact (Kd.R_mono (Kd.R_far (p := ⟨gb168, 1, none⟩) (Kd.R_far (p := ⟨gb168, 0, none⟩) (Kd.R_types HO163.out BK168.out (by decide)) (fun _ hk => hk.2) (.slice Ao105 t161.length co105)) (fun _ hk => hk.2) (.slice Ao108 t164.length co108)) (fun _ h_ => h_.1))) hb); have n1_ := Aside0.mk (Kd.R_below (by (with_reducible repeat (first | apply Kd.R_alloc | apply Kd.R_drewN | apply Kd.R_drew)); exact (Kd.R_mono (Kd.R_far (p := ⟨gb168, 1, none⟩) (Kd.R_far (p := ⟨gb168, 0, none⟩) (Kd.R_types HO166.out BK168.out (by decide)) (fun _ hk => hk.2) (.slice Ao105 t161.length co105)) (fun _ hk => hk.2) (.slice Ao108 t164.length co108)) (fun _ h_ => h_.1))) hb); have n2_ := Aside0.mk (blk_below (g := gb156) (o := .cells #[.slice A0_0 l0_0.length c0_0, .slice A0_1 l0_1.length c0_1] 25 (0, 0)) (by (with_reducible repeat (first | refine blk_drewN ?_ _ | refine blk_drew ?_ | refine blk_alloc ?_ _)); refine blk_far ?_ NB156_168.out _; (with_reducible repeat (first | refine blk_drewN ?_ _ | refine blk_drew ?_ | refine blk_alloc ?_ _)); refine blk_far ?_ NB156_168.out _; (with_reducible repeat (first | refine blk_drewN ?_ _ | refine blk_drew ?_ | refine blk_alloc ?_ _)); exact BK156.out) hb); have n3_ := Aside0.mk (blk_below (g := gb168) (o := .cells #[.slice Ao105 t161.length co105, .slice Ao108 t164.length co108] 25 (0, 0)) (by (with_reducible repeat (first | refine blk_drewN ?_ _ | refine blk_drew ?_ | refine blk_alloc ?_ _)); refine blk_put (cs := #[.slice Ao105 t161.length co105, .slice none 0 0]) ?_ 1 _ rfl; (with_reducible repeat (first | refine blk_drewN ?_ _ | refine blk_drew ?_ | refine blk_alloc ?_ _)); refine blk_put (cs := #[.slice none 0 0, .slice none 0 0]) ?_ 0 _ rfl; (with_reducible repeat (first | refine blk_drewN ?_ _ | refine blk_drew ?_ | refine blk_alloc ?_ _)); exact BK168.out) hb); have n4_ := Aside0.mk (below_step (by repeat (first | (with_reducible first | exact HB.out | apply below_alloc | apply pw_below_drewN | apply below_drew1 | refine below_set ?_ GE156.out | refine below_set ?_ GE168.out) | exact HB.out)) hb); clear HO163; clear HO166; clear BK156; clear BK168; clear HB; have HO163 := n0_; have HO166 := n1_; have BK156 := n2_; have BK168 := n3_; have HB := n4_; clear n0_ n1_ n2_ n3_ n4_; (try clear hb); (try clear hb2); (try clear hk); (try clear hi); have hcz110_0 : w109.cell? ⟨gb168, 0, none⟩ = some (.slice Ao105 t161.length co105) := (blk_cell BK168.out 0).trans rfl; have hcz110_1 : w109.cell? ⟨gb168, 1, none⟩ = some (.slice Ao108 t164.length co108) := (blk_cell BK168.out 1).trans rfl; have hfz110_0 := blk_frozen BK168.out 0; have hfz110_1 := blk_frozen BK168.out 1))
            go_ret
            exact ⟨by first | rfl | (simp [errW_none, errW_some] <;> rfl) | (simp [*, errW_none, errW_some] <;> rfl), by repeat (first | (with_reducible first | exact HB.out | apply below_alloc | apply pw_below_drewN | apply below_drew1 | refine below_set ?_ GE156.out | refine below_set ?_ GE168.out) | exact HB.out)⟩
          · replace c99 := Bool.eq_false_iff.mpr c99
            subst c99
            have H1 : (some false) = some r := by rw [if_neg (show ¬ (false = true) by decide)] at H; exact H
            exact absurd (H1.trans (congrArg some HRT.out)) (by decide)

end Go.Proofs.Ytkgcaheddhfpgaa.P
/-
  The plain statement of TwinBack: what was put is got, with the next number; put again, the one behind.
-/
namespace Go.Proofs.Ytkgcaheddhfpgaa.Pure
open Go.RowKit Go.Proofs Go.Proofs.CodecPlain Go.Proofs.YtkgcaheddhfpgaaW.PrintWords Go.Proofs.YtkgcaheddhfpgaaW.PrintLast Go.Proofs.Ytkgcaheddhfpgaa.P Go.Proofs.Ytkgcaheddhfpgaa.Opens

theorem put_V (l0 : List ByteArray) (l1 : List S73) (a : Int) (s : ByteArray) (ha : -9223372036854775808 ≤ a ∧ a ≤ 9223372036854775807) : twin_Put.f l0 l1 a s = some ((stopV l0 l1 a s (-1)).1, (stopV l0 l1 a s (-1)).2.1, (stopV l0 l1 a s (-1)).2.2.2) := by
  unfold twin_Put.f twin_Stop.f
  rw [if_pos ha, Option.bind_some]
/-- What is put is got. -/
theorem put_got {l0 : List ByteArray} {l1 : List S73} {a : Int} {s : ByteArray} (ha : -9223372036854775808 ≤ a ∧ a ≤ 9223372036854775807) (h : (stopV l0 l1 a s (-1)).2.2.2 = 0) :
    ∃ t n, getT l0 l1 a = (t, n, 0) ∧ 0 ≤ n ∧ n < 1000000000 ∧ (stopV l0 l1 a s (-1)).2.1 = [] ∧ getT (stopV l0 l1 a s (-1)).1 (stopV l0 l1 a s (-1)).2.1 a = (s, n + 1, 0) := by
  obtain ⟨n0, t0, k0, n1, t1, k1, ht, hs, hn, hf⟩ := stop_twin ha h
  have hst := ht.stop s (-1)
  rw [if_neg (by omega), if_neg hf, if_neg (by decide), if_neg (by decide)] at hst
  rw [hst]
  obtain ⟨_, c2⟩ := ht.stopped s hs hf
  obtain ⟨m0, u0, j0, m1, u1, j1, hx, e1, e2⟩ := ht.next hs hn c2 rfl
  refine ⟨_, _, ht.get, ht.num.2.2, hn, rfl, ?_⟩
  rw [hx.get, e1, e2]
theorem back_j1 (k : Nat) (a : Int) (t : ByteArray) (m : Int) (l0 : List ByteArray) (l1 : List S73) (s : ByteArray) (ha : -9223372036854775808 ≤ a ∧ a ≤ 9223372036854775807) (hg : getT l0 l1 a = (s, m, 0)) : sextonlaw05_TwinBack.j1 (k + 1) a t m false l0 l1 = some true := by
  simp only [sextonlaw05_TwinBack.j1]
  rw [if_neg (by decide), put_V _ _ _ _ ha, Option.bind_some]
  simp only [twin_Get.f, Option.bind_some, sextonlaw05_twins.f]
  rw [if_pos trivial]
  by_cases h : (stopV l0 l1 a t (-1)).2.2.2 = 0
  · obtain ⟨u, n, g1, b0, b1, _, g2⟩ := put_got ha h
    rw [if_pos h, g2]
    simp only [if_true]
    rw [hg] at g1
    injection g1 with _ g1
    injection g1 with g1 _
    rw [g1, wrap_at (x := n + 1 - 1) (by omega) (by omega), show n + 1 - 1 = n by omega]
    simp
  · rw [if_neg h]
theorem TwinBack (l0_0 : List ByteArray) (l0_1 : List S73) (a1 : Int) (a2 : ByteArray) (a3 : ByteArray) {okp : Prop} (h0 : okp) (h1 : OkInt .i64 a1) {okq : Prop} (h2 : okq) {okr : Prop} (h3 : okr) : ∃ k, sextonlaw05_TwinBack.f k l0_0 l0_1 a1 a2 a3 = some true := by
  have ha : -9223372036854775808 ≤ a1 ∧ a1 ≤ 9223372036854775807 := by
    simp only [OkInt, Lit.wf, Bool.and_eq_true, decide_eq_true_eq] at h1
    exact h1
  obtain ⟨b, K, e⟩ := far5_ends l0_0 l0_1 a2
  refine ⟨K + 3, ?_⟩
  unfold sextonlaw05_TwinBack.f
  have out : ∀ k, sextonlaw05_TwinBack.j0 (k + 1) a1 a2 a3 true l0_0 l0_1 = some true := fun k => by
    simp only [sextonlaw05_TwinBack.j0]
    rw [if_pos trivial]
  have e' := e (K + 3) (by omega)
  simp only at e'
  rw [e', Option.bind_some]
  cases b
  rotate_left
  · rw [if_pos rfl]; exact out (K + 2)
  rw [if_neg (by decide)]
  by_cases h400 : (a3.size : Int) > 400
  · rw [decide_eq_true h400]; exact out (K + 2)
  rw [decide_eq_false h400]
  simp only [sextonlaw05_TwinBack.j0]
  rw [if_neg (by decide), put_V _ _ _ _ ha]
  simp only [twin_Get.f, Option.bind_some, sextonlaw05_twins.f]
  by_cases h : (stopV l0_0 l0_1 a1 a2 (-1)).2.2.2 = 0
  · rw [if_pos h]
    obtain ⟨u, n, g1, b0, b1, g3, g2⟩ := put_got ha h
    have hj := back_j1 (K + 1) a1 a3 (n + 1) _ _ a2 ha g2
    rw [g1, g2]
    simp only [if_true]
    rw [wrap_at (x := n + 1 - 1) (by omega) (by omega), if_pos (by omega), g3]
    rw [g3] at hj
    exact hj
  · rw [if_neg h, if_pos trivial, stop_fails h]
    rfl
end Go.Proofs.Ytkgcaheddhfpgaa.Pure
