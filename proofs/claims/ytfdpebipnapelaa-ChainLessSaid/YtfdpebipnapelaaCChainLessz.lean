/-
  The walk and the plain statement of ChainLess, joined.
-/
import Derived.Test.YtfdpebipnapelaaPx0
import Derived.Test.YtfdpebipnapelaaC13a
import Derived.Test.YtfdpebipnapelaaC13b
import Derived.Test.YtfdpebipnapelaaC13c
set_option linter.unusedVariables false
set_option linter.unusedSimpArgs false
/-
  The walk of ChainLess, by the print; the ways that would answer false are closed.
-/
namespace Go.Proofs.Ytfdpebipnapelaa.P
open Go.RowKit Go.Proofs.YtfdpebipnapelaaW.PrintWords Go.Proofs.YtfdpebipnapelaaW.PrintLast Go.Proofs.YtfdpebipnapelaaW.PrintMore
attribute [local go_sem] max2_int min2_int max_two min_two max_three min_three max_four min_four   -- for this text's walks alone
set_option linter.unusedVariables false
set_option linter.unusedSimpArgs false

/-! ### sextonlaw13_ChainLess: function 10 -/
mutual
def sextonlaw13_ChainLess.j0 : Nat → Int → List ByteArray → Bool → Int → Int → List Int → Option (Bool)
  | 0, _, _, _, _, _, _ => none
  | k + 1, x3, x10, x39, x279000, x279001, x279002 => if x39 = true then ((sextonlaw13_cut.f).bind fun t279 => (some t279)) else (if 0 ≤ x3 then (if x3 < (x10.length : Int) then ((crc_Sum.f (rdOf ByteArray.empty x10 x3)).bind fun t281 => (sextonlaw13_ChainLess.l0 k x10 ([] : List ByteArray) t281 0 x279000 x279001 x279002)) else (none)) else (none))
def sextonlaw13_ChainLess.l0 : Nat → List ByteArray → List ByteArray → Int → Int → Int → Int → List Int → Option (Bool)
  | 0, _, _, _, _, _, _, _ => none
  | k + 1, x10, x12, x13, x14, x279000, x279001, x279002 => if x14 < (x10.length : Int) then (if 0 ≤ x14 then ((crc_Sum.f (rdOf ByteArray.empty x10 x14)).bind fun t283 => (if t283 = x13 then (sextonlaw13_ChainLess.l0 k x10 x12 x13 (wrap64 (x14 + 1)) x279000 x279001 x279002) else (if x12.length < 8796093022208 then (sextonlaw13_ChainLess.l0 k x10 (x12 ++ [rdOf ByteArray.empty x10 x14]) x13 (wrap64 (x14 + 1)) x279000 x279001 x279002) else (none)))) else (none)) else ((chain_Whole.f x279000 x279001 x279002 x12).bind fun bt288 => ((sextonlaw13_cut.f).bind fun t290 => (if t290 = true then (if bt288.2 = 80 then (if bt288.1.toList = ([] : List UInt8) then ((chain_Have.f x279000 x279001 x279002 x12).bind fun t291 => (if (t291.length : Int) < (x10.length : Int) then (some ((x279002.length : Int) == (x10.length : Int))) else (some false))) else (some false)) else (some false)) else (some false))))
end
def sextonlaw13_ChainLess.f (k : Nat) (a0 : ByteArray) (a1 : Int) (a2 : Int) (a3 : Int) : Option (Bool) := if (a0.size : Int) > 200 then (some true) else ((chain_Describe.f k a0 a1 a2).bind fun bt269 => (if bt269.2.2.2.2 = 0 then (if a3 < 0 then (sextonlaw13_ChainLess.j0 k a3 bt269.2.2.2.1 true bt269.1 bt269.2.1 bt269.2.2.1) else (sextonlaw13_ChainLess.j0 k a3 bt269.2.2.2.1 (decide (a3 ≥ (bt269.2.2.2.1.length : Int))) bt269.1 bt269.2.1 bt269.2.2.1)) else (sextonlaw13_ChainLess.j0 k a3 bt269.2.2.2.1 true bt269.1 bt269.2.1 bt269.2.2.1)))
theorem sextonlaw13_ChainLess.mono_l : ∀ k, (∀ y0 y1 y2 y3 y4 y5, LeO (sextonlaw13_ChainLess.j0 k y0 y1 y2 y3 y4 y5) (sextonlaw13_ChainLess.j0 (k + 1) y0 y1 y2 y3 y4 y5)) ∧ (∀ y0 y1 y2 y3 y4 y5 y6, LeO (sextonlaw13_ChainLess.l0 k y0 y1 y2 y3 y4 y5 y6) (sextonlaw13_ChainLess.l0 (k + 1) y0 y1 y2 y3 y4 y5 y6))
  | 0 => ⟨fun _ _ _ _ _ _ r h => by simp [sextonlaw13_ChainLess.j0] at h, fun _ _ _ _ _ _ _ r h => by simp [sextonlaw13_ChainLess.l0] at h⟩
  | k + 1 => by
    obtain ⟨ih0, ih1⟩ := sextonlaw13_ChainLess.mono_l k
    refine ⟨?_, ?_⟩
    · intro y0 y1 y2 y3 y4 y5
      unfold sextonlaw13_ChainLess.j0
      repeat' first
      | (with_reducible exact ih0 _ _ _ _ _ _)
      | (with_reducible exact ih1 _ _ _ _ _ _ _)
      | (with_reducible exact chain_Describe.mono _ _ _ _)
      | (with_reducible exact LeO.refl _)
      | (with_reducible exact LeO.none _)
      | (with_reducible refine LeO.ite ?_ ?_)
      | (with_reducible refine LeO.bind ?_ (fun _ => ?_))
      | exact ih0 _ _ _ _ _ _
      | exact ih1 _ _ _ _ _ _ _
      | exact chain_Describe.mono _ _ _ _
      | exact LeO.none _
      | refine LeO.ite ?_ ?_
      | refine LeO.bind ?_ (fun _ => ?_)
    · intro y0 y1 y2 y3 y4 y5 y6
      unfold sextonlaw13_ChainLess.l0
      repeat' first
      | (with_reducible exact ih0 _ _ _ _ _ _)
      | (with_reducible exact ih1 _ _ _ _ _ _ _)
      | (with_reducible exact chain_Describe.mono _ _ _ _)
      | (with_reducible exact LeO.refl _)
      | (with_reducible exact LeO.none _)
      | (with_reducible refine LeO.ite ?_ ?_)
      | (with_reducible refine LeO.bind ?_ (fun _ => ?_))
      | exact ih0 _ _ _ _ _ _
      | exact ih1 _ _ _ _ _ _ _
      | exact chain_Describe.mono _ _ _ _
      | exact LeO.none _
      | refine LeO.ite ?_ ?_
      | refine LeO.bind ?_ (fun _ => ?_)
theorem sextonlaw13_ChainLess.mono : ∀ a0 a1 a2 a3 k, LeO (sextonlaw13_ChainLess.f k a0 a1 a2 a3) (sextonlaw13_ChainLess.f (k + 1) a0 a1 a2 a3) := by
  intro a0 a1 a2 a3 k
  obtain ⟨ih0, ih1⟩ := sextonlaw13_ChainLess.mono_l k
  unfold sextonlaw13_ChainLess.f
  repeat' first
      | (with_reducible exact ih0 _ _ _ _ _ _)
      | (with_reducible exact ih1 _ _ _ _ _ _ _)
      | (with_reducible exact chain_Describe.mono _ _ _ _)
      | (with_reducible exact LeO.refl _)
      | (with_reducible exact LeO.none _)
      | (with_reducible refine LeO.ite ?_ ?_)
      | (with_reducible refine LeO.bind ?_ (fun _ => ?_))
      | exact ih0 _ _ _ _ _ _
      | exact ih1 _ _ _ _ _ _ _
      | exact chain_Describe.mono _ _ _ _
      | exact LeO.none _
      | refine LeO.ite ?_ ?_
      | refine LeO.bind ?_ (fun _ => ?_)
set_option maxHeartbeats 8000000 in
set_option maxRecDepth 100000 in
theorem sextonlaw13_ChainLess.calls (k : Nat) (a0 : ByteArray) (a1 : Int) (a2 : Int) (a3 : Int) (r : Bool) (hrt : r = true := by rfl) (w : World) (h : sextonlaw13_ChainLess.f k a0 a1 a2 a3 = some r) :
    Calls Try.prog 10 #[.string a0, .int .i64 a1, .int .i64 a2, .int .i64 a3] w fun e w' => e = .returned (.bool r) ∧ Below w.heap.size w w' := by
  have HRT := Aside0.mk hrt
  have hu24 := Try.underlying24
  have HB := Aside0.mk (Below.refl w.heap.size w)
  have H : (if (a0.size : Int) > 200 then (some true) else ((chain_Describe.f k a0 a1 a2).bind fun bt269 => (if bt269.2.2.2.2 = 0 then (if a3 < 0 then (sextonlaw13_ChainLess.j0 k a3 bt269.2.2.2.1 true bt269.1 bt269.2.1 bt269.2.2.1) else (sextonlaw13_ChainLess.j0 k a3 bt269.2.2.2.1 (decide (a3 ≥ (bt269.2.2.2.1.length : Int))) bt269.1 bt269.2.1 bt269.2.2.1)) else (sextonlaw13_ChainLess.j0 k a3 bt269.2.2.2.1 true bt269.1 bt269.2.1 bt269.2.2.1)))) = some r := h
  clear h
  by_cases c5 : (a0.size : Int) > 200
  · rw [if_pos c5] at H
    have c5b0 : decide (200 < (a0.size : Int)) = true := decide_eq_true c5
    have c5b1 : decide (200 < a0.size) = true := decide_eq_true (by omega)
    clear c5
    obtain rfl := Option.some.inj H
    go_enter Try.func10, Try.ntmps10
    go_wp2
    go_ret
    exact ⟨by first | rfl | (simp [errW_none, errW_some] <;> rfl) | (simp [*, errW_none, errW_some] <;> rfl), by repeat (first | (with_reducible first | exact HB.out | apply below_alloc | apply pw_below_drewN | apply below_drew1) | exact HB.out)⟩
  · rw [if_neg c5] at H
    have c5b0 : decide (200 < (a0.size : Int)) = false := decide_eq_false c5
    have c5b1 : decide (200 < a0.size) = false := decide_eq_false (by omega)
    clear c5
    replace H := Option.bind_eq_some_iff.mp H
    obtain ⟨⟨t269, t270, t271, t274, t277⟩, A60, H⟩ := H
    replace H : (if t277 = 0 then (if a3 < 0 then (sextonlaw13_ChainLess.j0 k a3 t274 true t269 t270 t271) else (sextonlaw13_ChainLess.j0 k a3 t274 (decide (a3 ≥ (t274.length : Int))) t269 t270 t271)) else (sextonlaw13_ChainLess.j0 k a3 t274 true t269 t270 t271)) = some r := H
    have A6 := Aside0.mk A60
    clear A60
    have HC7 := Aside0.mk H
    clear H
    go_enter Try.func10, Try.ntmps10
    go_upto_region 4 with (first | ((with_reducible refine gate_callee (f := 30) rfl ?_); refine goesL_ (some 24) rfl rfl Try.func30 (by kernel_rfl) rfl #[.string a0, .int .i64 a1, .int .i64 a2] rfl (by (try simp only [List.map_toArray, List.map_cons, List.map_nil]); first | done | rfl | (simp only [List.length_drop, List.length_take]; rfl)) ?_; (with_reducible refine (chain_Describe.calls k a0 a1 a2 t269 t270 t271 t274 t277 _ A6.out).mono ?_); rintro e w8 ⟨v272, v275, rfl, ho0, ho1, hb⟩; refine ⟨_, rfl, ?_⟩; have n0_ := Aside0.mk (Kd.R_lower ho0 (below_size (by repeat (first | (with_reducible first | exact HB.out | apply below_alloc | apply pw_below_drewN | apply below_drew1) | exact HB.out)))); have n1_ := Aside0.mk (Kd.R_lower ho1 (below_size (by repeat (first | (with_reducible first | exact HB.out | apply below_alloc | apply pw_below_drewN | apply below_drew1) | exact HB.out)))); have n2_ := Aside0.mk (below_step (by repeat (first | (with_reducible first | exact HB.out | apply below_alloc | apply pw_below_drewN | apply below_drew1) | exact HB.out)) hb); clear HB; have HO273 := n0_; have HO276 := n1_; have HB := n2_; clear n0_ n1_ n2_; (try clear hb); (try clear hb2); (try clear hk); (try clear hi); (try clear ho0); (try clear ho1)) | ((with_reducible refine gate_dst (N := 9) rfl ?_); (try (refine gate_guard (by rfl) ?_; dsimp only)); refine box_event ?hg (N := 9) ?hd (cs := #[.int .i64 0, .int .i64 0, .slice none 0 0]) (t := 24) ?hr ?_; (case hd => rfl); (case hg => rfl); (case hr => first | (go_simp; done) | (go_simp; rfl)); intro gb278 hg w9 hbox hb; have n0_ := Aside0.mk (Kd.R_below (by (with_reducible repeat (first | apply Kd.R_alloc | apply Kd.R_drewN | apply Kd.R_drew)); exact HO273.out) hb); have n1_ := Aside0.mk (Kd.R_below (by (with_reducible repeat (first | apply Kd.R_alloc | apply Kd.R_drewN | apply Kd.R_drew)); exact HO276.out) hb); have n2_ := Aside0.mk (below_step (by repeat (first | (with_reducible first | exact HB.out | apply below_alloc | apply pw_below_drewN | apply below_drew1) | exact HB.out)) hb); have n3_ := Aside0.mk (hbox); have n4_ := Aside0.mk ((by rw [hg]; exact (below_size (by repeat (first | (with_reducible first | exact HB.out | apply below_alloc | apply pw_below_drewN | apply below_drew1) | exact HB.out))) : w.heap.size ≤ gb278)); have n5_ := Aside0.mk ((by rw [hg]; exact (below_size (by repeat (first | (with_reducible first | exact HB.out | apply below_alloc | apply pw_below_drewN | apply below_drew1) | exact HB.out))) : w.heap.size ≤ gb278)); clear HO273; clear HO276; clear HB; have HO273 := n0_; have HO276 := n1_; have HB := n2_; have BK278 := n3_; have GW278 := n4_; have GE278 := n5_; clear n0_ n1_ n2_ n3_ n4_ n5_; clear hb hbox hg; have hcz10_0 : w9.cell? ⟨gb278, 0, none⟩ = some (.int .i64 0) := (blk_cell BK278.out 0).trans rfl; have hcz10_1 : w9.cell? ⟨gb278, 1, none⟩ = some (.int .i64 0) := (blk_cell BK278.out 1).trans rfl; have hcz10_2 : w9.cell? ⟨gb278, 2, none⟩ = some (.slice none 0 0) := (blk_cell BK278.out 2).trans rfl; have hfz10_0 := blk_frozen BK278.out 0; have hfz10_1 := blk_frozen BK278.out 1; have hfz10_2 := blk_frozen BK278.out 2; obtain ⟨Ao11, co11, eo11⟩ := Kd.R_slice HO273.out; subst eo11))
    (try simp only [Act.put, List.setIfInBounds_toArray, List.set_cons_zero, List.set_cons_succ])
    go_cut [39] (fun v39 wc => ∃ (kq : Nat) (x39_6 : Bool), v39 = .bool x39_6 ∧ Aside0 (sextonlaw13_ChainLess.j0 kq a3 t274 x39_6 t269 t270 t271 = some r) ∧ Aside0 (kq ≤ k) ∧ Aside0 (Kd.R Kd.string 9 wc w.heap.size (fun _ => True) v275 t274) ∧ Aside0 (Kd.R (Kd.int .i64) 3 wc w.heap.size (fun _ => True) (.slice Ao11 t271.length co11) t271) ∧ Aside0 (wc.heap[gb278]? = some (.cells #[.int .i64 t269, .int .i64 t270, (.slice Ao11 t271.length co11)] 24 (0, 0))) ∧ Aside0 (Below w.heap.size w wc))
    case first =>
      have H := HC7.out
      clear HC7
      by_cases c12 : t277 = 0
      · rw [if_pos c12] at H
        have c12b0 : (t277 == 0) = true := beq_iff_eq.mpr c12
        have c12b1 : (t277 != 0) = false := bne_eq_false_iff_eq.mpr c12
        clear c12
        (first | rw [c12b0] | (simp only [i64_w, i32_w]; rw [c12b0]) | skip)
        by_cases c13 : a3 < 0
        · rw [if_pos c13] at H
          have c13b0 : decide (a3 < 0) = true := decide_eq_true c13
          clear c13
          have H' := Aside0.mk H
          clear H
          go_wp2
          go_meet
          case rel => exact ⟨_, (true), (by first | rfl | (simp; done) | (simp [*]; done)), H', ⟨by first | omega | exact Nat.le_refl _⟩, ⟨by (with_reducible repeat (first | apply Kd.R_alloc | apply Kd.R_drewN | apply Kd.R_drew)); exact Kd.R_mono (Kd.R_far (p := ⟨gb278, 2, none⟩) (Kd.R_far (p := ⟨gb278, 1, none⟩) (Kd.R_far (p := ⟨gb278, 0, none⟩) (Kd.R_types HO276.out BK278.out (by decide)) (fun _ hk => hk.2) (.int .i64 t269)) (fun _ hk => hk.2) (.int .i64 t270)) (fun _ hk => hk.2) (.slice Ao11 t271.length co11)) (fun _ hk => trivial)⟩, ⟨by (with_reducible repeat (first | apply Kd.R_alloc | apply Kd.R_drewN | apply Kd.R_drew)); exact Kd.R_mono (Kd.R_far (p := ⟨gb278, 2, none⟩) (Kd.R_far (p := ⟨gb278, 1, none⟩) (Kd.R_far (p := ⟨gb278, 0, none⟩) (Kd.R_types HO273.out BK278.out (by decide)) (fun _ hk => hk.2) (.int .i64 t269)) (fun _ hk => hk.2) (.int .i64 t270)) (fun _ hk => hk.2) (.slice Ao11 t271.length co11)) (fun _ hk => trivial)⟩, ⟨by (with_reducible repeat (first | refine blk_drewN ?_ _ | refine blk_drew ?_ | refine blk_alloc ?_ _)); refine blk_put (cs := #[.int .i64 t269, .int .i64 t270, .slice none 0 0]) ?_ 2 _ rfl; (with_reducible repeat (first | refine blk_drewN ?_ _ | refine blk_drew ?_ | refine blk_alloc ?_ _)); refine blk_put (cs := #[.int .i64 t269, .int .i64 0, .slice none 0 0]) ?_ 1 _ rfl; (with_reducible repeat (first | refine blk_drewN ?_ _ | refine blk_drew ?_ | refine blk_alloc ?_ _)); refine blk_put (cs := #[.int .i64 0, .int .i64 0, .slice none 0 0]) ?_ 0 _ rfl; (with_reducible repeat (first | refine blk_drewN ?_ _ | refine blk_drew ?_ | refine blk_alloc ?_ _)); exact BK278.out⟩, ⟨by repeat (first | (with_reducible first | exact HB.out | apply below_alloc | apply pw_below_drewN | apply below_drew1 | refine below_set ?_ GE278.out) | exact HB.out)⟩⟩
        · rw [if_neg c13] at H
          have c13b0 : decide (a3 < 0) = false := decide_eq_false c13
          clear c13
          have H' := Aside0.mk H
          clear H
          obtain ⟨Ao14, co14, eo14⟩ := Kd.R_slice HO276.out
          subst eo14
          go_wp2
          go_meet
          case rel => exact ⟨_, (decide (a3 ≥ (t274.length : Int))), (by first | rfl | (simp; done) | (simp [*]; done)), H', ⟨by first | omega | exact Nat.le_refl _⟩, ⟨by (with_reducible repeat (first | apply Kd.R_alloc | apply Kd.R_drewN | apply Kd.R_drew)); exact Kd.R_mono (Kd.R_far (p := ⟨gb278, 2, none⟩) (Kd.R_far (p := ⟨gb278, 1, none⟩) (Kd.R_far (p := ⟨gb278, 0, none⟩) (Kd.R_types HO276.out BK278.out (by decide)) (fun _ hk => hk.2) (.int .i64 t269)) (fun _ hk => hk.2) (.int .i64 t270)) (fun _ hk => hk.2) (.slice Ao11 t271.length co11)) (fun _ hk => trivial)⟩, ⟨by (with_reducible repeat (first | apply Kd.R_alloc | apply Kd.R_drewN | apply Kd.R_drew)); exact Kd.R_mono (Kd.R_far (p := ⟨gb278, 2, none⟩) (Kd.R_far (p := ⟨gb278, 1, none⟩) (Kd.R_far (p := ⟨gb278, 0, none⟩) (Kd.R_types HO273.out BK278.out (by decide)) (fun _ hk => hk.2) (.int .i64 t269)) (fun _ hk => hk.2) (.int .i64 t270)) (fun _ hk => hk.2) (.slice Ao11 t271.length co11)) (fun _ hk => trivial)⟩, ⟨by (with_reducible repeat (first | refine blk_drewN ?_ _ | refine blk_drew ?_ | refine blk_alloc ?_ _)); refine blk_put (cs := #[.int .i64 t269, .int .i64 t270, .slice none 0 0]) ?_ 2 _ rfl; (with_reducible repeat (first | refine blk_drewN ?_ _ | refine blk_drew ?_ | refine blk_alloc ?_ _)); refine blk_put (cs := #[.int .i64 t269, .int .i64 0, .slice none 0 0]) ?_ 1 _ rfl; (with_reducible repeat (first | refine blk_drewN ?_ _ | refine blk_drew ?_ | refine blk_alloc ?_ _)); refine blk_put (cs := #[.int .i64 0, .int .i64 0, .slice none 0 0]) ?_ 0 _ rfl; (with_reducible repeat (first | refine blk_drewN ?_ _ | refine blk_drew ?_ | refine blk_alloc ?_ _)); exact BK278.out⟩, ⟨by repeat (first | (with_reducible first | exact HB.out | apply below_alloc | apply pw_below_drewN | apply below_drew1 | refine below_set ?_ GE278.out) | exact HB.out)⟩⟩
      · rw [if_neg c12] at H
        have c12b0 : (t277 == 0) = false := beq_eq_false_iff_ne.mpr c12
        have c12b1 : (t277 != 0) = true := bne_iff_ne.mpr c12
        (first | rw [c12b0] | (simp only [i64_w, i32_w]; rw [c12b0]) | skip)
        have H' := Aside0.mk H
        clear H
        go_wp2
        go_meet
        case rel => exact ⟨_, (true), (by first | rfl | (simp; done) | (simp [*]; done)), H', ⟨by first | omega | exact Nat.le_refl _⟩, ⟨by (with_reducible repeat (first | apply Kd.R_alloc | apply Kd.R_drewN | apply Kd.R_drew)); exact Kd.R_mono (Kd.R_far (p := ⟨gb278, 2, none⟩) (Kd.R_far (p := ⟨gb278, 1, none⟩) (Kd.R_far (p := ⟨gb278, 0, none⟩) (Kd.R_types HO276.out BK278.out (by decide)) (fun _ hk => hk.2) (.int .i64 t269)) (fun _ hk => hk.2) (.int .i64 t270)) (fun _ hk => hk.2) (.slice Ao11 t271.length co11)) (fun _ hk => trivial)⟩, ⟨by (with_reducible repeat (first | apply Kd.R_alloc | apply Kd.R_drewN | apply Kd.R_drew)); exact Kd.R_mono (Kd.R_far (p := ⟨gb278, 2, none⟩) (Kd.R_far (p := ⟨gb278, 1, none⟩) (Kd.R_far (p := ⟨gb278, 0, none⟩) (Kd.R_types HO273.out BK278.out (by decide)) (fun _ hk => hk.2) (.int .i64 t269)) (fun _ hk => hk.2) (.int .i64 t270)) (fun _ hk => hk.2) (.slice Ao11 t271.length co11)) (fun _ hk => trivial)⟩, ⟨by (with_reducible repeat (first | refine blk_drewN ?_ _ | refine blk_drew ?_ | refine blk_alloc ?_ _)); refine blk_put (cs := #[.int .i64 t269, .int .i64 t270, .slice none 0 0]) ?_ 2 _ rfl; (with_reducible repeat (first | refine blk_drewN ?_ _ | refine blk_drew ?_ | refine blk_alloc ?_ _)); refine blk_put (cs := #[.int .i64 t269, .int .i64 0, .slice none 0 0]) ?_ 1 _ rfl; (with_reducible repeat (first | refine blk_drewN ?_ _ | refine blk_drew ?_ | refine blk_alloc ?_ _)); refine blk_put (cs := #[.int .i64 0, .int .i64 0, .slice none 0 0]) ?_ 0 _ rfl; (with_reducible repeat (first | refine blk_drewN ?_ _ | refine blk_drew ?_ | refine blk_alloc ?_ _)); exact BK278.out⟩, ⟨by repeat (first | (with_reducible first | exact HB.out | apply below_alloc | apply pw_below_drewN | apply below_drew1 | refine below_set ?_ GE278.out) | exact HB.out)⟩⟩
    case rest =>
      clear HC7
      try clear c1
      try clear p2
      try clear c3
      try clear c5
      try clear c5b0
      try clear c5b1
      try clear c10
      try clear c12
      try clear c12b0
      try clear c12b1
      try clear c13
      try clear c13b0
      try clear hcz10_0
      try clear hcz10_1
      try clear hcz10_2
      try clear hfz10_0
      try clear hfz10_1
      try clear hfz10_2
      obtain ⟨kq, x39_6, rfl, HA, HJ6, HO_10, HO_279002, BK278, HB⟩ := hcut
      cases kq with
      | zero => exact absurd HA.out (by simp [sextonlaw13_ChainLess.j0])
      | succ kj6 =>
        have H := HA.out
        clear HA
        simp only [sextonlaw13_ChainLess.j0] at H
        by_cases c15 : x39_6 = true
        · subst c15
          have H1 : ((sextonlaw13_cut.f).bind fun t279 => (some t279)) = some r := by rw [if_pos rfl] at H; exact H
          clear H
          have H := H1
          clear H1
          replace H := Option.bind_eq_some_iff.mp H
          obtain ⟨t279, A160, H⟩ := H
          replace H : (some t279) = some r := H
          have A16 := Aside0.mk A160
          clear A160
          obtain rfl := Option.some.inj H
          go_wp2_with (first | ((with_reducible refine gate_callee (f := 35) rfl ?_); refine goesL_ (some 40) rfl rfl Try.func35 (by kernel_rfl) rfl #[] rfl (by (try simp only [List.map_toArray, List.map_cons, List.map_nil]); first | done | rfl | (simp only [List.length_drop, List.length_take]; rfl)) ?_; (with_reducible refine (sextonlaw13_cut.calls  t279 _ A16.out).mono ?_); rintro e w17 ⟨rfl, hb⟩; refine ⟨_, rfl, ?_⟩; have n0_ := Aside0.mk (Kd.R_below (by (with_reducible repeat (first | apply Kd.R_alloc | apply Kd.R_drewN | apply Kd.R_drew)); exact HO_10.out) hb); have n1_ := Aside0.mk (Kd.R_below (by (with_reducible repeat (first | apply Kd.R_alloc | apply Kd.R_drewN | apply Kd.R_drew)); exact HO_279002.out) hb); have n2_ := Aside0.mk (blk_below (g := gb278) (o := .cells #[.int .i64 t269, .int .i64 t270, .slice Ao11 t271.length co11] 24 (0, 0)) (by (with_reducible repeat (first | refine blk_drewN ?_ _ | refine blk_drew ?_ | refine blk_alloc ?_ _)); exact BK278.out) hb); have n3_ := Aside0.mk (below_step (by repeat (first | (with_reducible first | exact HB.out | apply below_alloc | apply pw_below_drewN | apply below_drew1 | refine below_set ?_ GE278.out) | exact HB.out)) hb); clear HO_10; clear HO_279002; clear BK278; clear HB; have HO_10 := n0_; have HO_279002 := n1_; have BK278 := n2_; have HB := n3_; clear n0_ n1_ n2_ n3_; (try clear hb); (try clear hb2); (try clear hk); (try clear hi)))
          go_ret
          exact ⟨by first | rfl | (simp [errW_none, errW_some] <;> rfl) | (simp [*, errW_none, errW_some] <;> rfl), by repeat (first | (with_reducible first | exact HB.out | apply below_alloc | apply pw_below_drewN | apply below_drew1 | refine below_set ?_ GE278.out) | exact HB.out)⟩
        · replace c15 := Bool.eq_false_iff.mpr c15
          subst c15
          have H1 : (if 0 ≤ a3 then (if a3 < (t274.length : Int) then ((crc_Sum.f (rdOf ByteArray.empty t274 a3)).bind fun t281 => (sextonlaw13_ChainLess.l0 kj6 t274 ([] : List ByteArray) t281 0 t269 t270 t271)) else (none)) else (none)) = some r := by rw [if_neg (show ¬ (false = true) by decide)] at H; exact H
          clear H
          have H := H1
          clear H1
          by_cases c18 : 0 ≤ a3
          · rw [if_pos c18] at H
            have c18b0 : decide (0 ≤ a3) = true := decide_eq_true c18
            clear c18
            by_cases c19 : a3 < (t274.length : Int)
            · rw [if_pos c19] at H
              have c19b0 : decide (a3 < (t274.length : Int)) = true := decide_eq_true c19
              clear c19
              replace H := Option.bind_eq_some_iff.mp H
              obtain ⟨t281, A200, H⟩ := H
              replace H : (sextonlaw13_ChainLess.l0 kj6 t274 ([] : List ByteArray) t281 0 t269 t270 t271) = some r := H
              have A20 := Aside0.mk A200
              clear A200
              have H' := Aside0.mk H
              clear H
              obtain ⟨Ao21, co21, eo21⟩ := Kd.R_slice HO_10.out
              subst eo21
              have p280 : 0 ≤ (a3 : Int) := of_decide_eq_true (by first | (with_reducible assumption) | assumption)
              have q280 : a3 < (t274.length : Int) := of_decide_eq_true (by first | (with_reducible assumption) | assumption)
              obtain ⟨ad280, e280, hx280_0⟩ := Kd.at_string (Kd.R_reads' HO_10.out).2.2 a3 p280 q280
              cases e280
              replace p280 := eq_true p280
              replace q280 := eq_true q280
              go_wp2_with (first | ((with_reducible refine gate_callee (f := 42) rfl ?_); refine goesL_ (some 45) rfl rfl Try.func42 (by kernel_rfl) rfl #[.string (rdOf ByteArray.empty t274 a3)] rfl (by (try simp only [List.map_toArray, List.map_cons, List.map_nil]); first | done | rfl | (simp only [List.length_drop, List.length_take]; rfl)) ?_; (with_reducible refine (crc_Sum.calls (rdOf ByteArray.empty t274 a3) t281 _ A20.out).mono ?_); rintro e w22 ⟨rfl, hb⟩; refine ⟨_, rfl, ?_⟩; have n0_ := Aside0.mk (Kd.R_below (by (with_reducible repeat (first | apply Kd.R_alloc | apply Kd.R_drewN | apply Kd.R_drew)); exact HO_10.out) hb); have n1_ := Aside0.mk (Kd.R_below (by (with_reducible repeat (first | apply Kd.R_alloc | apply Kd.R_drewN | apply Kd.R_drew)); exact HO_279002.out) hb); have n2_ := Aside0.mk (blk_below (g := gb278) (o := .cells #[.int .i64 t269, .int .i64 t270, .slice Ao11 t271.length co11] 24 (0, 0)) (by (with_reducible repeat (first | refine blk_drewN ?_ _ | refine blk_drew ?_ | refine blk_alloc ?_ _)); exact BK278.out) hb); have n3_ := Aside0.mk (below_step (by repeat (first | (with_reducible first | exact HB.out | apply below_alloc | apply pw_below_drewN | apply below_drew1 | refine below_set ?_ GE278.out) | exact HB.out)) hb); clear HO_10; clear HO_279002; clear BK278; clear HB; have HO_10 := n0_; have HO_279002 := n1_; have BK278 := n2_; have HB := n3_; clear n0_ n1_ n2_ n3_; (try clear hb); (try clear hb2); (try clear hk); (try clear hi)))
              go_loopg [12, 14] kj6 (fun kq v12 v14 w' => ∃ (x12_2 : List ByteArray) (x14_2 : Int), v14 = .int .i64 x14_2 ∧ Aside0 (sextonlaw13_ChainLess.l0 kq t274 x12_2 t281 x14_2 t269 t270 t271 = some r) ∧ Aside0 (kq ≤ kj6) ∧ Aside0 (Kd.R Kd.string 9 w' w.heap.size (fun k_ => some k_ ≠ (v12 : Value).ownBlock) (.slice (some ad280) t274.length co21) t274) ∧ Aside0 (Kd.R Kd.string 9 w' w.heap.size (fun k_ => some k_ ≠ ((.slice (some ad280) t274.length co21) : Value).ownBlock) v12 x12_2) ∧ Aside0 (Kd.R (Kd.int .i64) 3 w' w.heap.size (fun _ => True) (.slice Ao11 t271.length co11) t271) ∧ Aside0 (w'.heap[gb278]? = some (.cells #[.int .i64 t269, .int .i64 t270, (.slice Ao11 t271.length co11)] 24 (0, 0))) ∧ Aside0 (Below w.heap.size w w'))
              case atStart => exact ⟨(([] : List ByteArray)), (0), (by first | rfl | (simp; done) | (simp [*]; done)), H', ⟨Nat.le_refl _⟩, ⟨by (with_reducible repeat (first | apply Kd.R_alloc | apply Kd.R_drewN | apply Kd.R_drew)); exact Kd.R_mono HO_10.out (fun _ hk => (by simp [Value.ownBlock]))⟩, ⟨by first | exact Kd.R_nil _ _ _ _ _ | exact Kd.N_nil _ _ _ _ _ | exact Kd.V_nil _ _ _ _ _ | exact Kd.Q_nil _ _ _ _ _ | exact Kd.S_nil _ _ _ _ _⟩, ⟨by (with_reducible repeat (first | apply Kd.R_alloc | apply Kd.R_drewN | apply Kd.R_drew)); exact HO_279002.out⟩, ⟨by (with_reducible repeat (first | refine blk_drewN ?_ _ | refine blk_drew ?_ | refine blk_alloc ?_ _)); exact BK278.out⟩, ⟨by repeat (first | (with_reducible first | exact HB.out | apply below_alloc | apply pw_below_drewN | apply below_drew1 | refine below_set ?_ GE278.out) | exact HB.out)⟩⟩
              case round =>
                clear H'
                try clear c1
                try clear p2
                try clear q2
                try clear hx2
                try clear c3
                try clear c4
                try clear c5
                try clear c5b0
                try clear c5b1
                try clear c10
                try clear c12
                try clear c12b0
                try clear c12b1
                try clear c13
                try clear c13b0
                try clear c15
                try clear c18
                try clear c18b0
                try clear c19
                try clear c19b0
                try clear hcz10_0
                try clear hcz10_1
                try clear hcz10_2
                try clear hfz10_0
                try clear hfz10_1
                try clear hfz10_2
                try clear hx280_0
                try clear p2
                try clear p280
                try clear q280
                obtain ⟨x12_2, x14_2, rfl, HA, HK2, HO_10, HO_12, HO_279002, BK278, HB⟩ := hrel
                cases gk with
                | zero => exact absurd HA.out (by simp [sextonlaw13_ChainLess.l0])
                | succ k2 =>
                  have H := HA.out
                  clear HA
                  simp only [sextonlaw13_ChainLess.l0] at H
                  by_cases c23 : x14_2 < (t274.length : Int)
                  · rw [if_pos c23] at H
                    have c23b0 : decide (x14_2 < (t274.length : Int)) = true := decide_eq_true c23
                    clear c23
                    by_cases c24 : 0 ≤ x14_2
                    · rw [if_pos c24] at H
                      have c24b0 : decide (0 ≤ x14_2) = true := decide_eq_true c24
                      clear c24
                      replace H := Option.bind_eq_some_iff.mp H
                      obtain ⟨t283, A250, H⟩ := H
                      replace H : (if t283 = t281 then (sextonlaw13_ChainLess.l0 k2 t274 x12_2 t281 (wrap64 (x14_2 + 1)) t269 t270 t271) else (if x12_2.length < 8796093022208 then (sextonlaw13_ChainLess.l0 k2 t274 (x12_2 ++ [rdOf ByteArray.empty t274 x14_2]) t281 (wrap64 (x14_2 + 1)) t269 t270 t271) else (none))) = some r := H
                      have A25 := Aside0.mk A250
                      clear A250
                      by_cases c26 : t283 = t281
                      · rw [if_pos c26] at H
                        have c26b0 : (t283 == t281) = true := beq_iff_eq.mpr c26
                        have c26b1 : (t283 != t281) = false := bne_eq_false_iff_eq.mpr c26
                        clear c26
                        have H' := Aside0.mk H
                        clear H
                        have p282 : 0 ≤ (x14_2 : Int) := of_decide_eq_true (by first | (with_reducible assumption) | assumption)
                        have q282 : x14_2 < (t274.length : Int) := of_decide_eq_true (by first | (with_reducible assumption) | assumption)
                        obtain ⟨ad282, e282, hx282_0⟩ := Kd.at_string (Kd.R_reads' HO_10.out).2.2 x14_2 p282 q282
                        obtain rfl : ad280 = ad282 := (by injection e282)
                        replace p282 := eq_true p282
                        replace q282 := eq_true q282
                        go_wp2_with (first | ((with_reducible refine gate_callee (f := 42) rfl ?_); refine goesL_ (some 56) rfl rfl Try.func42 (by kernel_rfl) rfl #[.string (rdOf ByteArray.empty t274 x14_2)] rfl (by (try simp only [List.map_toArray, List.map_cons, List.map_nil]); first | done | rfl | (simp only [List.length_drop, List.length_take]; rfl)) ?_; (with_reducible refine (crc_Sum.calls (rdOf ByteArray.empty t274 x14_2) t283 _ A25.out).mono ?_); rintro e w27 ⟨rfl, hb⟩; refine ⟨_, rfl, ?_⟩; have n0_ := Aside0.mk (Kd.R_below (by (with_reducible repeat (first | apply Kd.R_alloc | apply Kd.R_drewN | apply Kd.R_drew)); exact HO_10.out) hb); have n1_ := Aside0.mk (Kd.R_below (by (with_reducible repeat (first | apply Kd.R_alloc | apply Kd.R_drewN | apply Kd.R_drew)); exact HO_12.out) hb); have n2_ := Aside0.mk (Kd.R_below (by (with_reducible repeat (first | apply Kd.R_alloc | apply Kd.R_drewN | apply Kd.R_drew)); exact HO_279002.out) hb); have n3_ := Aside0.mk (blk_below (g := gb278) (o := .cells #[.int .i64 t269, .int .i64 t270, .slice Ao11 t271.length co11] 24 (0, 0)) (by (with_reducible repeat (first | refine blk_drewN ?_ _ | refine blk_drew ?_ | refine blk_alloc ?_ _)); exact BK278.out) hb); have n4_ := Aside0.mk (below_step (by repeat (first | (with_reducible first | exact HB.out | apply below_alloc | apply pw_below_drewN | apply below_drew1 | refine below_set ?_ GE278.out) | exact HB.out)) hb); clear HO_10; clear HO_12; clear HO_279002; clear BK278; clear HB; have HO_10 := n0_; have HO_12 := n1_; have HO_279002 := n2_; have BK278 := n3_; have HB := n4_; clear n0_ n1_ n2_ n3_ n4_; (try clear hb); (try clear hb2); (try clear hk); (try clear hi)))
                        go_roundg k2
                        case measure => have := HJ6.out; have := HK2.out; omega
                        case rel => exact ⟨(x12_2), (wrap64 (x14_2 + 1)), (by first | rfl | (simp; done) | (simp [*]; done)), H', ⟨by have := HJ6.out; have := HK2.out; omega⟩, ⟨by (with_reducible repeat (first | apply Kd.R_alloc | apply Kd.R_drewN | apply Kd.R_drew)); exact HO_10.out⟩, ⟨by (with_reducible repeat (first | apply Kd.R_alloc | apply Kd.R_drewN | apply Kd.R_drew)); exact HO_12.out⟩, ⟨by (with_reducible repeat (first | apply Kd.R_alloc | apply Kd.R_drewN | apply Kd.R_drew)); exact HO_279002.out⟩, ⟨by (with_reducible repeat (first | refine blk_drewN ?_ _ | refine blk_drew ?_ | refine blk_alloc ?_ _)); exact BK278.out⟩, ⟨by repeat (first | (with_reducible first | exact HB.out | apply below_alloc | apply pw_below_drewN | apply below_drew1 | refine below_set ?_ GE278.out) | exact HB.out)⟩⟩
                      · rw [if_neg c26] at H
                        have c26b0 : (t283 == t281) = false := beq_eq_false_iff_ne.mpr c26
                        have c26b1 : (t283 != t281) = true := bne_iff_ne.mpr c26
                        by_cases c28 : x12_2.length < 8796093022208
                        · rw [if_pos c28] at H
                          have LMc28 := Aside0.mk c28
                          clear c28
                          obtain ⟨y285, hy285⟩ : ∃ y_ : List ByteArray, y_ = (x12_2 ++ [rdOf ByteArray.empty t274 x14_2]) := ⟨_, rfl⟩
                          replace H : (sextonlaw13_ChainLess.l0 k2 t274 y285 t281 (wrap64 (x14_2 + 1)) t269 t270 t271) = some r := by first | (rw [hy285]; with_reducible exact H) | (have H2_ := (Option.bind_some _ _).symm.trans H; rw [hy285]; with_reducible exact H2_) | (have H2_ := (Option.bind_some _ _).symm.trans H; with_reducible exact H2_) | with_reducible exact H | (rw [hy285]; exact H) | exact H
                          have Ny285 := Aside0.mk hy285
                          clear hy285
                          have H' := Aside0.mk H
                          clear H
                          have p282 : 0 ≤ (x14_2 : Int) := of_decide_eq_true (by first | (with_reducible assumption) | assumption)
                          have q282 : x14_2 < (t274.length : Int) := of_decide_eq_true (by first | (with_reducible assumption) | assumption)
                          obtain ⟨ad282, e282, hx282_0⟩ := Kd.at_string (Kd.R_reads' HO_10.out).2.2 x14_2 p282 q282
                          obtain rfl : ad280 = ad282 := (by injection e282)
                          replace p282 := eq_true p282
                          replace q282 := eq_true q282
                          go_wp2_with (first | ((with_reducible refine gate_callee (f := 42) rfl ?_); refine goesL_ (some 56) rfl rfl Try.func42 (by kernel_rfl) rfl #[.string (rdOf ByteArray.empty t274 x14_2)] rfl (by (try simp only [List.map_toArray, List.map_cons, List.map_nil]); first | done | rfl | (simp only [List.length_drop, List.length_take]; rfl)) ?_; (with_reducible refine (crc_Sum.calls (rdOf ByteArray.empty t274 x14_2) t283 _ A25.out).mono ?_); rintro e w29 ⟨rfl, hb⟩; refine ⟨_, rfl, ?_⟩; have n0_ := Aside0.mk (Kd.R_below (by (with_reducible repeat (first | apply Kd.R_alloc | apply Kd.R_drewN | apply Kd.R_drew)); exact HO_10.out) hb); have n1_ := Aside0.mk (Kd.R_below (by (with_reducible repeat (first | apply Kd.R_alloc | apply Kd.R_drewN | apply Kd.R_drew)); exact HO_12.out) hb); have n2_ := Aside0.mk (Kd.R_below (by (with_reducible repeat (first | apply Kd.R_alloc | apply Kd.R_drewN | apply Kd.R_drew)); exact HO_279002.out) hb); have n3_ := Aside0.mk (blk_below (g := gb278) (o := .cells #[.int .i64 t269, .int .i64 t270, .slice Ao11 t271.length co11] 24 (0, 0)) (by (with_reducible repeat (first | refine blk_drewN ?_ _ | refine blk_drew ?_ | refine blk_alloc ?_ _)); exact BK278.out) hb); have n4_ := Aside0.mk (below_step (by repeat (first | (with_reducible first | exact HB.out | apply below_alloc | apply pw_below_drewN | apply below_drew1 | refine below_set ?_ GE278.out) | exact HB.out)) hb); clear HO_10; clear HO_12; clear HO_279002; clear BK278; clear HB; have HO_10 := n0_; have HO_12 := n1_; have HO_279002 := n2_; have BK278 := n3_; have HB := n4_; clear n0_ n1_ n2_ n3_ n4_; (try clear hb); (try clear hb2); (try clear hk); (try clear hi); have p284 : 0 ≤ (x14_2 : Int) := of_decide_eq_true (by first | (with_reducible assumption) | assumption); have q284 : x14_2 < (t274.length : Int) := of_decide_eq_true (by first | (with_reducible assumption) | assumption); obtain ⟨ad284, e284, hx284_0⟩ := Kd.at_string (Kd.R_reads' HO_10.out).2.2 x14_2 p284 q284; obtain rfl : ad280 = ad284 := (by injection e284); replace p284 := eq_true p284; replace q284 := eq_true q284) | ((with_reducible refine gate_builtin (b := .append) (xs := #[.tmp 59, .tmp 64]) rfl ?_); (try (refine gate_guard (by rfl) ?_; dsimp only)); at_builtin; refine Kd.R_append Kd.string (w0 := w) w.heap.size rfl (.tmp 59) (.tmp 64) 40 9 (.string ⟨#[]⟩) 16 rfl Try.underlying40 info9 rfl (by decide) (by omega) u12 x12_2 (rdOf ByteArray.empty t274 x14_2) [.string (rdOf ByteArray.empty t274 x14_2)] (fun k_ => some k_ ≠ (.slice (some ad280) t274.length co21 : Value).ownBlock) (fun _ => False) rfl rfl ?aP (fun _ hk => hk.elim) ?aF ?aO ?aB ?aS ?aL ?_; (case aP => exact rfl); (case aB => exact (by repeat (first | (with_reducible first | exact HB.out | apply below_alloc | apply pw_below_drewN | apply below_drew1 | refine below_set ?_ GE278.out) | exact HB.out))); (case aF => exact (fun k_ hk => Kd.fresh' (Kd.R_lt (by (with_reducible repeat (first | apply Kd.R_alloc | apply Kd.R_drewN | apply Kd.R_drew)); exact HO_10.out)) k_ hk)); (case aO => exact (by (with_reducible repeat (first | apply Kd.R_alloc | apply Kd.R_drewN | apply Kd.R_drew)); exact HO_12.out)); (case aS => exact (below_size (by repeat (first | (with_reducible first | exact HB.out | apply below_alloc | apply pw_below_drewN | apply below_drew1 | refine below_set ?_ GE278.out) | exact HB.out)))); (case aL => have := LMc28.out; omega); intro v286 w30 ho hb hg hat; rw [← Ny285.out] at ho; have n0_ := Aside0.mk (Kd.R_after (ok := (fun _ => True)) (by (with_reducible repeat (first | apply Kd.R_alloc | apply Kd.R_drewN | apply Kd.R_drew)); exact Kd.R_mono HO_10.out (fun _ hk => ⟨trivial, hk⟩)) hg hat); have n1_ := Aside0.mk (Kd.R_over' (by (with_reducible repeat (first | apply Kd.R_alloc | apply Kd.R_drewN | apply Kd.R_drew)); exact HO_279002.out) (Kd.R_typed (by (with_reducible repeat (first | apply Kd.R_alloc | apply Kd.R_drewN | apply Kd.R_drew)); exact HO_12.out)) (by decide) hg); have n2_ := Aside0.mk (blk_grown (g := gb278) (o := .cells #[.int .i64 t269, .int .i64 t270, .slice Ao11 t271.length co11] 24 (0, 0)) (by (with_reducible repeat (first | refine blk_drewN ?_ _ | refine blk_drew ?_ | refine blk_alloc ?_ _)); exact BK278.out) hg (Kd.R_ne HO_12.out BK278.out (by decide))); have n3_ := Aside0.mk (hb); have n4_ := Aside0.mk (ho); clear HO_10; clear HO_279002; clear BK278; clear HB; clear HO_12; have HO_10 := n0_; have HO_279002 := n1_; have BK278 := n2_; have HB := n3_; have HO287 := n4_; clear n0_ n1_ n2_ n3_ n4_; clear ho hb hg hat))
                          go_roundg k2
                          case measure => have := HJ6.out; have := HK2.out; omega
                          case rel => exact ⟨(y285), (wrap64 (x14_2 + 1)), (by first | rfl | (simp; done) | (simp [*]; done)), H', ⟨by have := HJ6.out; have := HK2.out; omega⟩, ⟨by (with_reducible repeat (first | apply Kd.R_alloc | apply Kd.R_drewN | apply Kd.R_drew)); exact Kd.R_mono HO_10.out (fun _ hk => hk.2)⟩, ⟨by (with_reducible repeat (first | apply Kd.R_alloc | apply Kd.R_drewN | apply Kd.R_drew)); exact HO287.out⟩, ⟨by (with_reducible repeat (first | apply Kd.R_alloc | apply Kd.R_drewN | apply Kd.R_drew)); exact HO_279002.out⟩, ⟨by (with_reducible repeat (first | refine blk_drewN ?_ _ | refine blk_drew ?_ | refine blk_alloc ?_ _)); exact BK278.out⟩, ⟨by repeat (first | (with_reducible first | exact HB.out | apply below_alloc | apply pw_below_drewN | apply below_drew1 | refine below_set ?_ GE278.out) | exact HB.out)⟩⟩
                        · rw [if_neg c28] at H
                          exact absurd H (by simp)
                    · rw [if_neg c24] at H
                      exact absurd H (by simp)
                  · rw [if_neg c23] at H
                    have c23b0 : decide (x14_2 < (t274.length : Int)) = false := decide_eq_false c23
                    clear c23
                    replace H := Option.bind_eq_some_iff.mp H
                    obtain ⟨⟨t288, t289⟩, A310, H⟩ := H
                    replace H : ((sextonlaw13_cut.f).bind fun t290 => (if t290 = true then (if t289 = 80 then (if t288.toList = ([] : List UInt8) then ((chain_Have.f t269 t270 t271 x12_2).bind fun t291 => (if (t291.length : Int) < (t274.length : Int) then (some ((t271.length : Int) == (t274.length : Int))) else (some false))) else (some false)) else (some false)) else (some false))) = some r := H
                    have A31 := Aside0.mk A310
                    clear A310
                    replace H := Option.bind_eq_some_iff.mp H
                    obtain ⟨t290, A320, H⟩ := H
                    replace H : (if t290 = true then (if t289 = 80 then (if t288.toList = ([] : List UInt8) then ((chain_Have.f t269 t270 t271 x12_2).bind fun t291 => (if (t291.length : Int) < (t274.length : Int) then (some ((t271.length : Int) == (t274.length : Int))) else (some false))) else (some false)) else (some false)) else (some false)) = some r := H
                    have A32 := Aside0.mk A320
                    clear A320
                    by_cases c33 : t290 = true
                    · subst c33
                      have H1 : (if t289 = 80 then (if t288.toList = ([] : List UInt8) then ((chain_Have.f t269 t270 t271 x12_2).bind fun t291 => (if (t291.length : Int) < (t274.length : Int) then (some ((t271.length : Int) == (t274.length : Int))) else (some false))) else (some false)) else (some false)) = some r := by rw [if_pos rfl] at H; exact H
                      clear H
                      have H := H1
                      clear H1
                      by_cases c34 : t289 = 80
                      · rw [if_pos c34] at H
                        have c34b0 : (t289 == 80) = true := beq_iff_eq.mpr c34
                        have c34b1 : (t289 != 80) = false := bne_eq_false_iff_eq.mpr c34
                        clear c34
                        by_cases c35 : t288.toList = ([] : List UInt8)
                        · rw [if_pos c35] at H
                          have c35b0 : (t288.toList == ([] : List UInt8)) = true := beq_iff_eq.mpr c35
                          have c35b1 : (t288.toList != ([] : List UInt8)) = false := bne_eq_false_iff_eq.mpr c35
                          clear c35
                          replace H := Option.bind_eq_some_iff.mp H
                          obtain ⟨t291, A360, H⟩ := H
                          replace H : (if (t291.length : Int) < (t274.length : Int) then (some ((t271.length : Int) == (t274.length : Int))) else (some false)) = some r := H
                          have A36 := Aside0.mk A360
                          clear A360
                          by_cases c37 : (t291.length : Int) < (t274.length : Int)
                          · rw [if_pos c37] at H
                            have c37b0 : decide ((t291.length : Int) < (t274.length : Int)) = true := decide_eq_true c37
                            have c37b1 : decide (t291.length < t274.length) = true := decide_eq_true (Int.ofNat_lt.mp c37)
                            clear c37
                            obtain rfl := Option.some.inj H
                            have hcz38_0 : wr.cell? ⟨gb278, 0, none⟩ = some (.int .i64 t269) := (blk_cell BK278.out 0).trans rfl
                            have hcz38_1 : wr.cell? ⟨gb278, 1, none⟩ = some (.int .i64 t270) := (blk_cell BK278.out 1).trans rfl
                            have hcz38_2 : wr.cell? ⟨gb278, 2, none⟩ = some (.slice Ao11 t271.length co11) := (blk_cell BK278.out 2).trans rfl
                            have hfz38_0 := blk_frozen BK278.out 0
                            have hfz38_1 := blk_frozen BK278.out 1
                            have hfz38_2 := blk_frozen BK278.out 2
                            obtain ⟨Ao39, co39, eo39⟩ := Kd.R_slice HO_12.out
                            subst eo39
                            go_wp2_with (first | ((with_reducible refine gate_callee (f := 32) rfl ?_); refine goesL_ (some 69) rfl rfl Try.func32 (by kernel_rfl) rfl #[.agg #[.int .i64 t269, .int .i64 t270, .slice Ao11 t271.length co11], .slice Ao39 x12_2.length co39] rfl (by (try simp only [List.map_toArray, List.map_cons, List.map_nil]); first | done | rfl | (simp only [List.length_drop, List.length_take]; rfl)) ?_; (with_reducible refine (chain_Whole.calls t269 t270 _ _ t271 _ _ x12_2 t288 t289 _ ?side1 ?side2 ?side3 ?side4 A31.out).mono ?_); (case side1 => repeat (first | exact (Kd.R_reads' HO_279002.out).2.2 | (with_reducible refine Kd.C_alloc ?_ _) | (with_reducible refine Kd.C_drewN ?_ _) | (with_reducible refine Kd.C_drew ?_))); (case side2 => exact (Kd.R_reads' HO_279002.out).2.1); (case side3 => repeat (first | exact (Kd.R_reads' HO_12.out).2.2 | (with_reducible refine Kd.C_alloc ?_ _) | (with_reducible refine Kd.C_drewN ?_ _) | (with_reducible refine Kd.C_drew ?_))); (case side4 => exact (Kd.R_reads' HO_12.out).2.1); rintro e w40 ⟨rfl, hb⟩; refine ⟨_, rfl, ?_⟩; have n0_ := Aside0.mk (Kd.R_below (by (with_reducible repeat (first | apply Kd.R_alloc | apply Kd.R_drewN | apply Kd.R_drew)); exact HO_10.out) hb); have n1_ := Aside0.mk (Kd.R_below (by (with_reducible repeat (first | apply Kd.R_alloc | apply Kd.R_drewN | apply Kd.R_drew)); exact HO_12.out) hb); have n2_ := Aside0.mk (Kd.R_below (by (with_reducible repeat (first | apply Kd.R_alloc | apply Kd.R_drewN | apply Kd.R_drew)); exact HO_279002.out) hb); have n3_ := Aside0.mk (blk_below (g := gb278) (o := .cells #[.int .i64 t269, .int .i64 t270, .slice Ao11 t271.length co11] 24 (0, 0)) (by (with_reducible repeat (first | refine blk_drewN ?_ _ | refine blk_drew ?_ | refine blk_alloc ?_ _)); exact BK278.out) hb); have n4_ := Aside0.mk (below_step (by repeat (first | (with_reducible first | exact HB.out | apply below_alloc | apply pw_below_drewN | apply below_drew1 | refine below_set ?_ GE278.out) | exact HB.out)) hb); clear HO_10; clear HO_12; clear HO_279002; clear BK278; clear HB; have HO_10 := n0_; have HO_12 := n1_; have HO_279002 := n2_; have BK278 := n3_; have HB := n4_; clear n0_ n1_ n2_ n3_ n4_; (try clear hb); (try clear hb2); (try clear hk); (try clear hi)) | ((with_reducible refine gate_callee (f := 35) rfl ?_); refine goesL_ (some 72) rfl rfl Try.func35 (by kernel_rfl) rfl #[] rfl (by (try simp only [List.map_toArray, List.map_cons, List.map_nil]); first | done | rfl | (simp only [List.length_drop, List.length_take]; rfl)) ?_; (with_reducible refine (sextonlaw13_cut.calls  true _ A32.out).mono ?_); rintro e w41 ⟨rfl, hb⟩; refine ⟨_, rfl, ?_⟩; have n0_ := Aside0.mk (Kd.R_below (by (with_reducible repeat (first | apply Kd.R_alloc | apply Kd.R_drewN | apply Kd.R_drew)); exact HO_10.out) hb); have n1_ := Aside0.mk (Kd.R_below (by (with_reducible repeat (first | apply Kd.R_alloc | apply Kd.R_drewN | apply Kd.R_drew)); exact HO_12.out) hb); have n2_ := Aside0.mk (Kd.R_below (by (with_reducible repeat (first | apply Kd.R_alloc | apply Kd.R_drewN | apply Kd.R_drew)); exact HO_279002.out) hb); have n3_ := Aside0.mk (blk_below (g := gb278) (o := .cells #[.int .i64 t269, .int .i64 t270, .slice Ao11 t271.length co11] 24 (0, 0)) (by (with_reducible repeat (first | refine blk_drewN ?_ _ | refine blk_drew ?_ | refine blk_alloc ?_ _)); exact BK278.out) hb); have n4_ := Aside0.mk (below_step (by repeat (first | (with_reducible first | exact HB.out | apply below_alloc | apply pw_below_drewN | apply below_drew1 | refine below_set ?_ GE278.out) | exact HB.out)) hb); clear HO_10; clear HO_12; clear HO_279002; clear BK278; clear HB; have HO_10 := n0_; have HO_12 := n1_; have HO_279002 := n2_; have BK278 := n3_; have HB := n4_; clear n0_ n1_ n2_ n3_ n4_; (try clear hb); (try clear hb2); (try clear hk); (try clear hi); have hcz42_0 : w41.cell? ⟨gb278, 0, none⟩ = some (.int .i64 t269) := (blk_cell BK278.out 0).trans rfl; have hcz42_1 : w41.cell? ⟨gb278, 1, none⟩ = some (.int .i64 t270) := (blk_cell BK278.out 1).trans rfl; have hcz42_2 : w41.cell? ⟨gb278, 2, none⟩ = some (.slice Ao11 t271.length co11) := (blk_cell BK278.out 2).trans rfl; have hfz42_0 := blk_frozen BK278.out 0; have hfz42_1 := blk_frozen BK278.out 1; have hfz42_2 := blk_frozen BK278.out 2) | (go_at_call 39; (with_reducible refine (chain_Have.calls t269 t270 _ _ t271 _ _ x12_2 t291 _ ?side1 ?side2 ?side3 ?side4 A36.out).mono ?_); (case side1 => repeat (first | exact (Kd.R_reads' HO_279002.out).2.2 | (with_reducible refine Kd.C_alloc ?_ _) | (with_reducible refine Kd.C_drewN ?_ _) | (with_reducible refine Kd.C_drew ?_))); (case side2 => exact (Kd.R_reads' HO_279002.out).2.1); (case side3 => repeat (first | exact (Kd.R_reads' HO_12.out).2.2 | (with_reducible refine Kd.C_alloc ?_ _) | (with_reducible refine Kd.C_drewN ?_ _) | (with_reducible refine Kd.C_drew ?_))); (case side4 => exact (Kd.R_reads' HO_12.out).2.1); rintro e w43 ⟨v292, rfl, ho0, hb⟩; have n0_ := Aside0.mk (Kd.R_below (by (with_reducible repeat (first | apply Kd.R_alloc | apply Kd.R_drewN | apply Kd.R_drew)); exact HO_10.out) hb); have n1_ := Aside0.mk (Kd.R_below (by (with_reducible repeat (first | apply Kd.R_alloc | apply Kd.R_drewN | apply Kd.R_drew)); exact HO_12.out) hb); have n2_ := Aside0.mk (Kd.R_elder' (by (with_reducible repeat (first | apply Kd.R_alloc | apply Kd.R_drewN | apply Kd.R_drew)); exact HO_279002.out) (Kd.R_base ho0) hb); have n3_ := Aside0.mk (Kd.R_lower (Kd.R_new' ho0 (Kd.R_lt (by (with_reducible repeat (first | apply Kd.R_alloc | apply Kd.R_drewN | apply Kd.R_drew)); exact HO_279002.out))) (below_size (by repeat (first | (with_reducible first | exact HB.out | apply below_alloc | apply pw_below_drewN | apply below_drew1 | refine below_set ?_ GE278.out) | exact HB.out)))); have n4_ := Aside0.mk (blk_below (g := gb278) (o := .cells #[.int .i64 t269, .int .i64 t270, .slice Ao11 t271.length co11] 24 (0, 0)) (by (with_reducible repeat (first | refine blk_drewN ?_ _ | refine blk_drew ?_ | refine blk_alloc ?_ _)); exact BK278.out) hb); have n5_ := Aside0.mk (below_step (by repeat (first | (with_reducible first | exact HB.out | apply below_alloc | apply pw_below_drewN | apply below_drew1 | refine below_set ?_ GE278.out) | exact HB.out)) hb); clear HO_10; clear HO_12; clear HO_279002; clear BK278; clear HB; have HO_10 := n0_; have HO_12 := n1_; have HO_279002 := n2_; have HO293 := n3_; have BK278 := n4_; have HB := n5_; clear n0_ n1_ n2_ n3_ n4_ n5_; (try clear hb); (try clear hb2); (try clear hk); (try clear hi); (try clear ho0); obtain ⟨Ao44, co44, eo44⟩ := Kd.R_slice HO293.out; subst eo44; have hcz45_0 : w43.cell? ⟨gb278, 0, none⟩ = some (.int .i64 t269) := (blk_cell BK278.out 0).trans rfl; have hcz45_1 : w43.cell? ⟨gb278, 1, none⟩ = some (.int .i64 t270) := (blk_cell BK278.out 1).trans rfl; have hcz45_2 : w43.cell? ⟨gb278, 2, none⟩ = some (.slice Ao11 t271.length co11) := (blk_cell BK278.out 2).trans rfl; have hfz45_0 := blk_frozen BK278.out 0; have hfz45_1 := blk_frozen BK278.out 1; have hfz45_2 := blk_frozen BK278.out 2))
                            go_ret
                            exact ⟨by first | rfl | (simp [errW_none, errW_some] <;> rfl) | (simp [*, errW_none, errW_some] <;> rfl), by repeat (first | (with_reducible first | exact HB.out | apply below_alloc | apply pw_below_drewN | apply below_drew1 | refine below_set ?_ GE278.out) | exact HB.out)⟩
                          · rw [if_neg c37] at H
                            exact absurd (H.trans (congrArg some HRT.out)) (by decide)
                        · rw [if_neg c35] at H
                          exact absurd (H.trans (congrArg some HRT.out)) (by decide)
                      · rw [if_neg c34] at H
                        exact absurd (H.trans (congrArg some HRT.out)) (by decide)
                    · replace c33 := Bool.eq_false_iff.mpr c33
                      subst c33
                      have H1 : (some false) = some r := by rw [if_neg (show ¬ (false = true) by decide)] at H; exact H
                      exact absurd (H1.trans (congrArg some HRT.out)) (by decide)
            · rw [if_neg c19] at H
              exact absurd H (by simp)
          · rw [if_neg c18] at H
            exact absurd H (by simp)

end Go.Proofs.Ytfdpebipnapelaa.P
/-
  The plain statement of ChainLess: without one of its chunks, or any of that sum, it is not whole.
-/
namespace Go.Proofs.Ytfdpebipnapelaa.Pure
open Go.RowKit Go.Proofs Go.Proofs.CodecPlain Go.Proofs.YtfdpebipnapelaaW.PrintWords Go.Proofs.YtfdpebipnapelaaW.PrintLast Go.Proofs.Ytfdpebipnapelaa.P Go.Proofs.Ytfdpebipnapelaa.Opens

/-- The texts of other sums. -/
def lessL (l : List ByteArray) (n : Int) : List ByteArray := l.filter (fun s => !(sumV s == n))
theorem lessL_sub {l : List ByteArray} {n : Int} {s : ByteArray} (h : s ∈ lessL l n) : s ∈ l ∧ sumV s ≠ n := by
  unfold lessL at h
  rw [List.mem_filter] at h
  exact ⟨h.1, by simpa using h.2⟩
theorem lessL_next (l : List ByteArray) (n : Int) (i : Nat) (h : i < l.length) : lessL (l.take (i + 1)) n = if sumV l[i] = n then lessL (l.take i) n else lessL (l.take i) n ++ [l[i]] := by
  unfold lessL
  rw [List.take_succ_eq_append_getElem h, List.filter_append]
  by_cases e : sumV l[i] = n
  · rw [if_pos e, List.filter_cons_of_neg (by simp [e])]
    simp
  · rw [if_neg e, List.filter_cons_of_pos (by simpa using e)]
    rfl
theorem less_l0 (l : List ByteArray) (a b : Int) (c : Nat) (hl : l.length ≤ 16) (hs : ∀ s ∈ l, s.size ≤ 4000) (hc : c < l.length) (hm : metaB a b (l.map sumV) = true) (d : Nat) : ∀ i, i + d = l.length → Ev (fun k => sextonlaw13_ChainLess.l0 k l (lessL (l.take i) (sumV l[c])) (sumV l[c]) (i : Int) a b (l.map sumV)) true := by
  induction d with
  | zero =>
    intro i hi
    have hno : findT (lessL l (sumV l[c])) (sumV l[c]) = none := findT_none (fun s h => (lessL_sub h).2)
    have hll : (lessL l (sumV l[c])).length ≤ l.length := List.length_filter_le _ _
    have hls : ∀ s ∈ lessL l (sumV l[c]), s.size ≤ 1000000000 := fun s h => by have := hs s (lessL_sub h).1; omega
    have hw : wholeV a b (l.map sumV) (lessL l (sumV l[c])) = (⟨#[]⟩, 80) := by
      unfold wholeV
      rw [if_pos hm, if_neg]
      intro h
      have := List.all_eq_true.1 h (sumV l[c]) (List.mem_map.2 ⟨l[c], List.getElem_mem hc, rfl⟩)
      rw [hno] at this
      cases this
    have hwf := whole_f a b (m := l.map sumV) (l := lessL l (sumV l[c])) (by omega) hls (by rw [List.length_map]; omega)
    have hhf := have_f a b (m := l.map sumV) (l := lessL l (sumV l[c])) (by omega) hls (by rw [List.length_map]; omega) (inI_sums l)
    have hlt := haveK_less (l := lessL l (sumV l[c])) (m := l.map sumV) (i := c) (by rw [List.length_map]; exact hc) (by rw [List.getElem_map]; exact hno)
    rw [List.length_map] at hlt
    rw [hw] at hwf
    refine Ev.step (f := fun _ => some true) (fun r => ?_) (Ev.now _)
    have ht : l.take i = l := List.take_of_length_le (by omega)
    simp only [sextonlaw13_ChainLess.l0, sextonlaw13_cut.f, ht]
    rw [if_neg (by omega), hwf, Option.bind_some, Option.bind_some, if_pos rfl, if_pos rfl, if_pos (by rw [ByteArray.toList_eq]), hhf, Option.bind_some]
    rw [List.length_map, if_pos (by omega)]
    simp
  | succ d ih =>
    intro i hi
    have hlt : i < l.length := by omega
    have hrd : rdOf ByteArray.empty l (i : Int) = l[i] := by simp [rdOf, List.getD_eq_getElem?_getD, hlt]
    have hsm := crcSum_f (s := l[i]) (by have := hs _ (List.getElem_mem hlt); omega)
    have hw : wrap64 ((i : Int) + 1) = ((i + 1 : Nat) : Int) := wrap_id (by omega) (by omega)
    have hnx := lessL_next l (sumV l[c]) i hlt
    have hll : (lessL (l.take i) (sumV l[c])).length ≤ (l.take i).length := List.length_filter_le _ _
    rw [List.length_take] at hll
    refine Ev.step (f := fun r => sextonlaw13_ChainLess.l0 r l (lessL (l.take (i + 1)) (sumV l[c])) (sumV l[c]) ((i + 1 : Nat) : Int) a b (l.map sumV)) (fun r => ?_) (ih (i + 1) (by omega))
    rw [hnx]
    simp only [sextonlaw13_ChainLess.l0]
    rw [if_pos (by omega), if_pos (by omega), hrd, hsm, Option.bind_some, hw]
    by_cases e : sumV l[i] = sumV l[c]
    · rw [if_pos e, if_pos e]
    · rw [if_neg e, if_neg e, if_pos (by omega)]
theorem ChainLess (a0 : ByteArray) (a1 : Int) (a2 : Int) (a3 : Int) {okp : Prop} (h0 : okp) {okq : Prop} (h1 : okq) {okr : Prop} (h2 : okr) {oks : Prop} (h3 : oks) : ∃ k, sextonlaw13_ChainLess.f k a0 a1 a2 a3 = some true := by
  have out : ∀ k l x y m, sextonlaw13_ChainLess.j0 (k + 1) a3 l true x y m = some true := fun k l x y m => by
    simp only [sextonlaw13_ChainLess.j0, sextonlaw13_cut.f]
    rw [if_pos trivial]
    rfl
  by_cases hs : (a0.size : Int) > 200
  · refine ⟨0, ?_⟩
    unfold sextonlaw13_ChainLess.f
    rw [if_pos hs]
  rcases describe_cases a0 a1 a2 with ⟨e, he, hd⟩ | ⟨m, rfl, g1, g2, g3, hm, hd⟩
  · refine ⟨17, ?_⟩
    unfold sextonlaw13_ChainLess.f
    rw [if_neg hs, hd 17 (Nat.le_refl _), Option.bind_some, if_neg he]
    exact out _ _ _ _ _
  · by_cases c0 : a3 < 0
    · refine ⟨17, ?_⟩
      unfold sextonlaw13_ChainLess.f
      rw [if_neg hs, hd 17 (Nat.le_refl _), Option.bind_some, if_pos rfl, if_pos c0]
      exact out _ _ _ _ _
    by_cases c1 : a3 ≥ ((cutV a0 m).length : Int)
    · refine ⟨17, ?_⟩
      unfold sextonlaw13_ChainLess.f
      rw [if_neg hs, hd 17 (Nat.le_refl _), Option.bind_some, if_pos rfl, if_neg c0, decide_eq_true c1]
      exact out _ _ _ _ _
    obtain ⟨c, rfl⟩ : ∃ c : Nat, a3 = c := ⟨a3.toNat, by omega⟩
    have hc : c < (cutV a0 m).length := by omega
    have hsz : ∀ s ∈ cutV a0 m, s.size ≤ 4000 := fun s h => by have := mem_cut h; omega
    obtain ⟨K, hK⟩ := less_l0 (cutV a0 m) (a0.size : Int) a2 c (by rw [cutV_length]; exact chunks_le g3) hsz hc hm (cutV a0 m).length 0 (by omega)
    have hrd : rdOf ByteArray.empty (cutV a0 m) (c : Int) = (cutV a0 m)[c] := by simp [rdOf, List.getD_eq_getElem?_getD, hc]
    have hsm := crcSum_f (s := (cutV a0 m)[c]) (by have := hsz _ (List.getElem_mem hc); omega)
    refine ⟨K + 17 + 1, ?_⟩
    unfold sextonlaw13_ChainLess.f
    rw [if_neg hs, hd _ (by omega), Option.bind_some, if_pos rfl, if_neg c0, decide_eq_false c1]
    simp only [sextonlaw13_ChainLess.j0]
    rw [if_neg (by decide), if_pos (by omega), if_pos (by omega), hrd, hsm, Option.bind_some]
    exact hK _ (by omega)
end Go.Proofs.Ytfdpebipnapelaa.Pure
