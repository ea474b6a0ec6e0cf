/-
  The walk and the plain statement of TwinOthers, joined.
-/
import Derived.Test.YtkgcaheddhfpgaaPx0
import Derived.Test.YtkgcaheddhfpgaaC05f
import Derived.Test.YtkgcaheddhfpgaaC05b
import Derived.Test.YtkgcaheddhfpgaaC05d
import Derived.Test.YtkgcaheddhfpgaaC05e
import Derived.Test.YtkgcaheddhfpgaaC05g
set_option linter.unusedVariables false
set_option linter.unusedSimpArgs false
/-
  The walk of TwinOthers, by the print; the ways that would answer false are closed.
-/
namespace Go.Proofs.Ytkgcaheddhfpgaa.P
open Go.RowKit Go.Proofs.YtkgcaheddhfpgaaW.PrintWords Go.Proofs.YtkgcaheddhfpgaaW.PrintLast Go.Proofs.YtkgcaheddhfpgaaW.PrintMore
attribute [local go_sem] max2_int min2_int max_two min_two max_three min_three max_four min_four   -- for this text's walks alone
set_option linter.unusedVariables false
set_option linter.unusedSimpArgs false

/-! ### sextonlaw05_TwinOthers: function 6 -/
mutual
def sextonlaw05_TwinOthers.j0 : Nat → Int → Int → Bool → List ByteArray → List (S73) → List ByteArray → List (S73) → Option (Bool)
  | 0, _, _, _, _, _, _, _ => none
  | k + 1, x1, x4, x48, x252000, x252001, x262000, x262001 => if x48 = true then ((sextonlaw05_twins.f).bind fun t262 => (some t262)) else ((disk_Read.f x252000 x252001 x4).bind fun bt263 => ((disk_Read.f x262000 x262001 x4).bind fun bt265 => (sextonlaw05_TwinOthers.l0 k x1 x4 bt263.1 bt263.2 bt265.1 bt265.2 0 x1 x252000 x252001 x262000 x262001)))
def sextonlaw05_TwinOthers.l0 : Nat → Int → Int → ByteArray → Int → ByteArray → Int → Int → Int → List ByteArray → List (S73) → List ByteArray → List (S73) → Option (Bool)
  | 0, _, _, _, _, _, _, _, _, _, _, _, _ => none
  | k + 1, x1, x4, x14, x15, x16, x17, x18, x19, x252000, x252001, x262000, x262001 => if x19 < (wrap64 (x1 + 2)) then ((disk_Read.f x252000 x252001 x19).bind fun bt268 => ((disk_Read.f x262000 x262001 x19).bind fun bt270 => (if bt268.1.toList = bt270.1.toList then (sextonlaw05_TwinOthers.l0 k x1 x4 x14 x15 x16 x17 x18 (wrap64 (x19 + 1)) x252000 x252001 x262000 x262001) else (sextonlaw05_TwinOthers.l0 k x1 x4 x14 x15 x16 x17 (wrap64 (x18 + 1)) (wrap64 (x19 + 1)) x252000 x252001 x262000 x262001)))) else ((sextonlaw05_twins.f).bind fun t267 => (if t267 = true then (if x15 = 0 then (if x17 = x15 then (if x4 = x1 then (if x18 ≤ 1 then (some ((x262000.length : Int) == (x252000.length : Int))) else (some false)) else (if (wrap64 (x4 - 1)) = x1 then (if x18 ≤ 1 then (some ((x262000.length : Int) == (x252000.length : Int))) else (some false)) else (if x14.toList = x16.toList then (if x18 ≤ 1 then (some ((x262000.length : Int) == (x252000.length : Int))) else (some false)) else (some false)))) else (some false)) else (some false)) else (some false)))
end
def sextonlaw05_TwinOthers.f (k : Nat) (l0_0 : List ByteArray) (l0_1 : List (S73)) (a1 : Int) (a2 : ByteArray) (a3 : Int) (a4 : Int) : Option (Bool) := (sextonlaw05_far.f k l0_0 l0_1 a2).bind fun t252 => (if t252 = true then (some true) else ((twin_Stop.f l0_0 l0_1 a1 a2 a3).bind fun bt253 => (if bt253.2.2.2 = 0 then (if a4 < 0 then (sextonlaw05_TwinOthers.j0 k a1 a4 true l0_0 l0_1 bt253.1 bt253.2.1) else (sextonlaw05_TwinOthers.j0 k a1 a4 (decide (a4 ≥ (l0_0.length : Int))) l0_0 l0_1 bt253.1 bt253.2.1)) else (sextonlaw05_TwinOthers.j0 k a1 a4 true l0_0 l0_1 bt253.1 bt253.2.1))))
theorem sextonlaw05_TwinOthers.mono_l : ∀ k, (∀ y0 y1 y2 y3 y4 y5 y6, LeO (sextonlaw05_TwinOthers.j0 k y0 y1 y2 y3 y4 y5 y6) (sextonlaw05_TwinOthers.j0 (k + 1) y0 y1 y2 y3 y4 y5 y6)) ∧ (∀ y0 y1 y2 y3 y4 y5 y6 y7 y8 y9 y10 y11, LeO (sextonlaw05_TwinOthers.l0 k y0 y1 y2 y3 y4 y5 y6 y7 y8 y9 y10 y11) (sextonlaw05_TwinOthers.l0 (k + 1) y0 y1 y2 y3 y4 y5 y6 y7 y8 y9 y10 y11))
  | 0 => ⟨fun _ _ _ _ _ _ _ r h => by simp [sextonlaw05_TwinOthers.j0] at h, fun _ _ _ _ _ _ _ _ _ _ _ _ r h => by simp [sextonlaw05_TwinOthers.l0] at h⟩
  | k + 1 => by
    obtain ⟨ih0, ih1⟩ := sextonlaw05_TwinOthers.mono_l k
    refine ⟨?_, ?_⟩
    · intro y0 y1 y2 y3 y4 y5 y6
      unfold sextonlaw05_TwinOthers.j0
      repeat' first
      | (with_reducible exact ih0 _ _ _ _ _ _ _)
      | (with_reducible exact ih1 _ _ _ _ _ _ _ _ _ _ _ _)
      | (with_reducible exact sextonlaw05_far.mono _ _ _ _)
      | (with_reducible exact LeO.refl _)
      | (with_reducible exact LeO.none _)
      | (with_reducible refine LeO.ite ?_ ?_)
      | (with_reducible refine LeO.bind ?_ (fun _ => ?_))
      | exact ih0 _ _ _ _ _ _ _
      | exact ih1 _ _ _ _ _ _ _ _ _ _ _ _
      | exact sextonlaw05_far.mono _ _ _ _
      | exact LeO.none _
      | refine LeO.ite ?_ ?_
      | refine LeO.bind ?_ (fun _ => ?_)
    · intro y0 y1 y2 y3 y4 y5 y6 y7 y8 y9 y10 y11
      unfold sextonlaw05_TwinOthers.l0
      repeat' first
      | (with_reducible exact ih0 _ _ _ _ _ _ _)
      | (with_reducible exact ih1 _ _ _ _ _ _ _ _ _ _ _ _)
      | (with_reducible exact sextonlaw05_far.mono _ _ _ _)
      | (with_reducible exact LeO.refl _)
      | (with_reducible exact LeO.none _)
      | (with_reducible refine LeO.ite ?_ ?_)
      | (with_reducible refine LeO.bind ?_ (fun _ => ?_))
      | exact ih0 _ _ _ _ _ _ _
      | exact ih1 _ _ _ _ _ _ _ _ _ _ _ _
      | exact sextonlaw05_far.mono _ _ _ _
      | exact LeO.none _
      | refine LeO.ite ?_ ?_
      | refine LeO.bind ?_ (fun _ => ?_)
theorem sextonlaw05_TwinOthers.mono : ∀ a0 a1 a2 a3 a4 a5 k, LeO (sextonlaw05_TwinOthers.f k a0 a1 a2 a3 a4 a5) (sextonlaw05_TwinOthers.f (k + 1) a0 a1 a2 a3 a4 a5) := by
  intro a0 a1 a2 a3 a4 a5 k
  obtain ⟨ih0, ih1⟩ := sextonlaw05_TwinOthers.mono_l k
  unfold sextonlaw05_TwinOthers.f
  repeat' first
      | (with_reducible exact ih0 _ _ _ _ _ _ _)
      | (with_reducible exact ih1 _ _ _ _ _ _ _ _ _ _ _ _)
      | (with_reducible exact sextonlaw05_far.mono _ _ _ _)
      | (with_reducible exact LeO.refl _)
      | (with_reducible exact LeO.none _)
      | (with_reducible refine LeO.ite ?_ ?_)
      | (with_reducible refine LeO.bind ?_ (fun _ => ?_))
      | exact ih0 _ _ _ _ _ _ _
      | exact ih1 _ _ _ _ _ _ _ _ _ _ _ _
      | exact sextonlaw05_far.mono _ _ _ _
      | exact LeO.none _
      | refine LeO.ite ?_ ?_
      | refine LeO.bind ?_ (fun _ => ?_)
set_option maxHeartbeats 8000000 in
set_option maxRecDepth 100000 in
theorem sextonlaw05_TwinOthers.calls (k : Nat) (A0_0 : Option Addr) (c0_0 : Nat) (l0_0 : List ByteArray) (A0_1 : Option Addr) (c0_1 : Nat) (l0_1 : List (S73)) (a1 : Int) (a2 : ByteArray) (a3 : Int) (a4 : Int) (r : Bool) (hrt : r = true := by rfl) (w : World) (hr0_0 : Kd.C Kd.string w A0_0 l0_0.length l0_0) (hc0_0 : l0_0.length ≤ c0_0) (hr0_1 : Kd.C k73 w A0_1 l0_1.length l0_1) (hc0_1 : l0_1.length ≤ c0_1) (h : sextonlaw05_TwinOthers.f k l0_0 l0_1 a1 a2 a3 a4 = some r) :
    Calls Try.prog 6 #[.agg #[.slice A0_0 l0_0.length c0_0, .slice A0_1 l0_1.length c0_1], .int .i64 a1, .string a2, .int .i64 a3, .int .i64 a4] w fun e w' => e = .returned (.bool r) ∧ Below w.heap.size w w' := by
  have HRT := Aside0.mk hrt
  have hu25 := Try.underlying25
  have HR0_0 := Aside0.mk hr0_0
  have HC0_0 := Aside0.mk hc0_0
  clear hr0_0 hc0_0
  have HR0_1 := Aside0.mk hr0_1
  have HC0_1 := Aside0.mk hc0_1
  clear hr0_1 hc0_1
  have HB := Aside0.mk (Below.refl w.heap.size w)
  have H : ((sextonlaw05_far.f k l0_0 l0_1 a2).bind fun t252 => (if t252 = true then (some true) else ((twin_Stop.f l0_0 l0_1 a1 a2 a3).bind fun bt253 => (if bt253.2.2.2 = 0 then (if a4 < 0 then (sextonlaw05_TwinOthers.j0 k a1 a4 true l0_0 l0_1 bt253.1 bt253.2.1) else (sextonlaw05_TwinOthers.j0 k a1 a4 (decide (a4 ≥ (l0_0.length : Int))) l0_0 l0_1 bt253.1 bt253.2.1)) else (sextonlaw05_TwinOthers.j0 k a1 a4 true l0_0 l0_1 bt253.1 bt253.2.1))))) = some r := h
  clear h
  replace H := Option.bind_eq_some_iff.mp H
  obtain ⟨t252, A60, H⟩ := H
  replace H : (if t252 = true then (some true) else ((twin_Stop.f l0_0 l0_1 a1 a2 a3).bind fun bt253 => (if bt253.2.2.2 = 0 then (if a4 < 0 then (sextonlaw05_TwinOthers.j0 k a1 a4 true l0_0 l0_1 bt253.1 bt253.2.1) else (sextonlaw05_TwinOthers.j0 k a1 a4 (decide (a4 ≥ (l0_0.length : Int))) l0_0 l0_1 bt253.1 bt253.2.1)) else (sextonlaw05_TwinOthers.j0 k a1 a4 true l0_0 l0_1 bt253.1 bt253.2.1)))) = some r := H
  have A6 := Aside0.mk A60
  clear A60
  by_cases c7 : t252 = true
  · subst c7
    have H1 : (some true) = some r := by rw [if_pos rfl] at H; exact H
    clear H
    have H := H1
    clear H1
    obtain rfl := Option.some.inj H
    go_enter Try.func6, Try.ntmps6
    go_wp2_with (first | ((with_reducible refine gate_dst (N := 5) rfl ?_); (try (refine gate_guard (by rfl) ?_; dsimp only)); refine box_event ?hg (N := 5) ?hd (cs := #[.slice A0_0 l0_0.length c0_0, .slice A0_1 l0_1.length c0_1]) (t := 25) ?hr ?_; (case hd => rfl); (case hg => rfl); (case hr => first | (go_simp; done) | (go_simp; rfl)); intro gb251 hg w8 hbox hb; have n0_ := Aside0.mk (below_step (by repeat (first | (with_reducible first | exact HB.out | apply below_alloc | apply pw_below_drewN | apply below_drew1) | exact HB.out)) hb); have n1_ := Aside0.mk (hbox); have n2_ := Aside0.mk ((by rw [hg]; exact (below_size (by repeat (first | (with_reducible first | exact HB.out | apply below_alloc | apply pw_below_drewN | apply below_drew1) | exact HB.out))) : w.heap.size ≤ gb251)); have n3_ := Aside0.mk ((by rw [hg]; exact (below_size (by repeat (first | (with_reducible first | exact HB.out | apply below_alloc | apply pw_below_drewN | apply below_drew1) | exact HB.out))) : w.heap.size ≤ gb251)); clear HB; have HB := n0_; have BK251 := n1_; have GW251 := n2_; have GE251 := n3_; clear n0_ n1_ n2_ n3_; clear hb hbox hg; have hcz9_0 : w8.cell? ⟨gb251, 0, none⟩ = some (.slice A0_0 l0_0.length c0_0) := (blk_cell BK251.out 0).trans rfl; have hcz9_1 : w8.cell? ⟨gb251, 1, none⟩ = some (.slice A0_1 l0_1.length c0_1) := (blk_cell BK251.out 1).trans rfl; have hfz9_0 := blk_frozen BK251.out 0; have hfz9_1 := blk_frozen BK251.out 1) | ((with_reducible refine gate_callee (f := 11) rfl ?_); refine goesL_ (some 26) rfl rfl Try.func11 (by kernel_rfl) rfl #[.agg #[.slice A0_0 l0_0.length c0_0, .slice A0_1 l0_1.length c0_1], .string a2] rfl (by (try simp only [List.map_toArray, List.map_cons, List.map_nil]); first | done | rfl | (simp only [List.length_drop, List.length_take]; rfl)) ?_; (with_reducible refine (sextonlaw05_far.calls k _ _ l0_0 _ _ l0_1 a2 true _ ?side1 ?side2 ?side3 ?side4 A6.out).mono ?_); (case side1 => repeat (first | exact (Kd.C_below HR0_0.out HB.out) | (with_reducible refine Kd.C_alloc ?_ _) | (with_reducible refine Kd.C_drewN ?_ _) | (with_reducible refine Kd.C_drew ?_))); (case side2 => exact HC0_0.out); (case side3 => repeat (first | exact (Kd.C_below HR0_1.out HB.out) | (with_reducible refine Kd.C_alloc ?_ _) | (with_reducible refine Kd.C_drewN ?_ _) | (with_reducible refine Kd.C_drew ?_))); (case side4 => exact HC0_1.out); rintro e w10 ⟨rfl, hb⟩; refine ⟨_, rfl, ?_⟩; have n0_ := Aside0.mk (blk_below (g := gb251) (o := .cells #[.slice A0_0 l0_0.length c0_0, .slice A0_1 l0_1.length c0_1] 25 (0, 0)) (by (with_reducible repeat (first | refine blk_drewN ?_ _ | refine blk_drew ?_ | refine blk_alloc ?_ _)); exact BK251.out) hb); have n1_ := Aside0.mk (below_step (by repeat (first | (with_reducible first | exact HB.out | apply below_alloc | apply pw_below_drewN | apply below_drew1 | refine below_set ?_ GE251.out) | exact HB.out)) hb); clear BK251; clear HB; have BK251 := n0_; have HB := n1_; clear n0_ n1_; (try clear hb); (try clear hb2); (try clear hk); (try clear hi)))
    go_ret
    exact ⟨by first | rfl | (simp [errW_none, errW_some] <;> rfl) | (simp [*, errW_none, errW_some] <;> rfl), by repeat (first | (with_reducible first | exact HB.out | apply below_alloc | apply pw_below_drewN | apply below_drew1 | refine below_set ?_ GE251.out) | exact HB.out)⟩
  · replace c7 := Bool.eq_false_iff.mpr c7
    subst c7
    have H1 : ((twin_Stop.f l0_0 l0_1 a1 a2 a3).bind fun bt253 => (if bt253.2.2.2 = 0 then (if a4 < 0 then (sextonlaw05_TwinOthers.j0 k a1 a4 true l0_0 l0_1 bt253.1 bt253.2.1) else (sextonlaw05_TwinOthers.j0 k a1 a4 (decide (a4 ≥ (l0_0.length : Int))) l0_0 l0_1 bt253.1 bt253.2.1)) else (sextonlaw05_TwinOthers.j0 k a1 a4 true l0_0 l0_1 bt253.1 bt253.2.1))) = some r := by rw [if_neg (show ¬ (false = true) by decide)] at H; exact H
    clear H
    have H := H1
    clear H1
    replace H := Option.bind_eq_some_iff.mp H
    obtain ⟨⟨t253, t256, t259, t260⟩, A110, H⟩ := H
    replace H : (if t260 = 0 then (if a4 < 0 then (sextonlaw05_TwinOthers.j0 k a1 a4 true l0_0 l0_1 t253 t256) else (sextonlaw05_TwinOthers.j0 k a1 a4 (decide (a4 ≥ (l0_0.length : Int))) l0_0 l0_1 t253 t256)) else (sextonlaw05_TwinOthers.j0 k a1 a4 true l0_0 l0_1 t253 t256)) = some r := H
    have A11 := Aside0.mk A110
    clear A110
    have HC12 := Aside0.mk H
    clear H
    go_enter Try.func6, Try.ntmps6
    go_upto_region 4 with (first | ((with_reducible refine gate_dst (N := 5) rfl ?_); (try (refine gate_guard (by rfl) ?_; dsimp only)); refine box_event ?hg (N := 5) ?hd (cs := #[.slice A0_0 l0_0.length c0_0, .slice A0_1 l0_1.length c0_1]) (t := 25) ?hr ?_; (case hd => rfl); (case hg => rfl); (case hr => first | (go_simp; done) | (go_simp; rfl)); intro gb251 hg w13 hbox hb; have n0_ := Aside0.mk (below_step (by repeat (first | (with_reducible first | exact HB.out | apply below_alloc | apply pw_below_drewN | apply below_drew1) | exact HB.out)) hb); have n1_ := Aside0.mk (hbox); have n2_ := Aside0.mk ((by rw [hg]; exact (below_size (by repeat (first | (with_reducible first | exact HB.out | apply below_alloc | apply pw_below_drewN | apply below_drew1) | exact HB.out))) : w.heap.size ≤ gb251)); have n3_ := Aside0.mk ((by rw [hg]; exact (below_size (by repeat (first | (with_reducible first | exact HB.out | apply below_alloc | apply pw_below_drewN | apply below_drew1) | exact HB.out))) : w.heap.size ≤ gb251)); clear HB; have HB := n0_; have BK251 := n1_; have GW251 := n2_; have GE251 := n3_; clear n0_ n1_ n2_ n3_; clear hb hbox hg; have hcz14_0 : w13.cell? ⟨gb251, 0, none⟩ = some (.slice A0_0 l0_0.length c0_0) := (blk_cell BK251.out 0).trans rfl; have hcz14_1 : w13.cell? ⟨gb251, 1, none⟩ = some (.slice A0_1 l0_1.length c0_1) := (blk_cell BK251.out 1).trans rfl; have hfz14_0 := blk_frozen BK251.out 0; have hfz14_1 := blk_frozen BK251.out 1) | ((with_reducible refine gate_callee (f := 11) rfl ?_); refine goesL_ (some 26) rfl rfl Try.func11 (by kernel_rfl) rfl #[.agg #[.slice A0_0 l0_0.length c0_0, .slice A0_1 l0_1.length c0_1], .string a2] rfl (by (try simp only [List.map_toArray, List.map_cons, List.map_nil]); first | done | rfl | (simp only [List.length_drop, List.length_take]; rfl)) ?_; (with_reducible refine (sextonlaw05_far.calls k _ _ l0_0 _ _ l0_1 a2 false _ ?side1 ?side2 ?side3 ?side4 A6.out).mono ?_); (case side1 => repeat (first | exact (Kd.C_below HR0_0.out HB.out) | (with_reducible refine Kd.C_alloc ?_ _) | (with_reducible refine Kd.C_drewN ?_ _) | (with_reducible refine Kd.C_drew ?_))); (case side2 => exact HC0_0.out); (case side3 => repeat (first | exact (Kd.C_below HR0_1.out HB.out) | (with_reducible refine Kd.C_alloc ?_ _) | (with_reducible refine Kd.C_drewN ?_ _) | (with_reducible refine Kd.C_drew ?_))); (case side4 => exact HC0_1.out); rintro e w15 ⟨rfl, hb⟩; refine ⟨_, rfl, ?_⟩; have n0_ := Aside0.mk (blk_below (g := gb251) (o := .cells #[.slice A0_0 l0_0.length c0_0, .slice A0_1 l0_1.length c0_1] 25 (0, 0)) (by (with_reducible repeat (first | refine blk_drewN ?_ _ | refine blk_drew ?_ | refine blk_alloc ?_ _)); exact BK251.out) hb); have n1_ := Aside0.mk (below_step (by repeat (first | (with_reducible first | exact HB.out | apply below_alloc | apply pw_below_drewN | apply below_drew1 | refine below_set ?_ GE251.out) | exact HB.out)) hb); clear BK251; clear HB; have BK251 := n0_; have HB := n1_; clear n0_ n1_; (try clear hb); (try clear hb2); (try clear hk); (try clear hi); have hcz16_0 : w15.cell? ⟨gb251, 0, none⟩ = some (.slice A0_0 l0_0.length c0_0) := (blk_cell BK251.out 0).trans rfl; have hcz16_1 : w15.cell? ⟨gb251, 1, none⟩ = some (.slice A0_1 l0_1.length c0_1) := (blk_cell BK251.out 1).trans rfl; have hfz16_0 := blk_frozen BK251.out 0; have hfz16_1 := blk_frozen BK251.out 1) | ((with_reducible refine gate_callee (f := 15) rfl ?_); refine goesL_ (some 32) rfl rfl Try.func15 (by kernel_rfl) rfl #[.agg #[.slice A0_0 l0_0.length c0_0, .slice A0_1 l0_1.length c0_1], .int .i64 a1, .string a2, .int .i64 a3] rfl (by (try simp only [List.map_toArray, List.map_cons, List.map_nil]); first | done | rfl | (simp only [List.length_drop, List.length_take]; rfl)) ?_; (with_reducible refine (twin_Stop.calls _ _ l0_0 _ _ l0_1 a1 a2 a3 t253 t256 t259 t260 _ ?side1 ?side2 ?side3 ?side4 A11.out).mono ?_); (case side1 => repeat (first | exact (Kd.C_below HR0_0.out HB.out) | (with_reducible refine Kd.C_alloc ?_ _) | (with_reducible refine Kd.C_drewN ?_ _) | (with_reducible refine Kd.C_drew ?_))); (case side2 => exact HC0_0.out); (case side3 => repeat (first | exact (Kd.C_below HR0_1.out HB.out) | (with_reducible refine Kd.C_alloc ?_ _) | (with_reducible refine Kd.C_drewN ?_ _) | (with_reducible refine Kd.C_drew ?_))); (case side4 => exact HC0_1.out); rintro e w17 ⟨v254, v257, rfl, ho0, ho1, hb⟩; refine ⟨_, rfl, ?_⟩; have n0_ := Aside0.mk (Kd.R_lower ho0 (below_size (by repeat (first | (with_reducible first | exact HB.out | apply below_alloc | apply pw_below_drewN | apply below_drew1 | refine below_set ?_ GE251.out) | exact HB.out)))); have n1_ := Aside0.mk (Kd.R_lower ho1 (below_size (by repeat (first | (with_reducible first | exact HB.out | apply below_alloc | apply pw_below_drewN | apply below_drew1 | refine below_set ?_ GE251.out) | exact HB.out)))); have n2_ := Aside0.mk (blk_below (g := gb251) (o := .cells #[.slice A0_0 l0_0.length c0_0, .slice A0_1 l0_1.length c0_1] 25 (0, 0)) (by (with_reducible repeat (first | refine blk_drewN ?_ _ | refine blk_drew ?_ | refine blk_alloc ?_ _)); exact BK251.out) hb); have n3_ := Aside0.mk (below_step (by repeat (first | (with_reducible first | exact HB.out | apply below_alloc | apply pw_below_drewN | apply below_drew1 | refine below_set ?_ GE251.out) | exact HB.out)) hb); clear BK251; clear HB; have HO255 := n0_; have HO258 := n1_; have BK251 := n2_; have HB := n3_; clear n0_ n1_ n2_ n3_; (try clear hb); (try clear hb2); (try clear hk); (try clear hi); (try clear ho0); (try clear ho1)) | ((with_reducible refine gate_dst (N := 11) rfl ?_); (try (refine gate_guard (by rfl) ?_; dsimp only)); refine box_event ?hg (N := 11) ?hd (cs := #[.slice none 0 0, .slice none 0 0]) (t := 25) ?hr ?_; (case hd => rfl); (case hg => rfl); (case hr => first | (go_simp; done) | (go_simp; rfl)); intro gb261 hg w18 hbox hb; have n0_ := Aside0.mk (Kd.R_below (by (with_reducible repeat (first | apply Kd.R_alloc | apply Kd.R_drewN | apply Kd.R_drew)); exact HO255.out) hb); have n1_ := Aside0.mk (Kd.R_below (by (with_reducible repeat (first | apply Kd.R_alloc | apply Kd.R_drewN | apply Kd.R_drew)); exact HO258.out) hb); have n2_ := Aside0.mk (blk_below (g := gb251) (o := .cells #[.slice A0_0 l0_0.length c0_0, .slice A0_1 l0_1.length c0_1] 25 (0, 0)) (by (with_reducible repeat (first | refine blk_drewN ?_ _ | refine blk_drew ?_ | refine blk_alloc ?_ _)); exact BK251.out) hb); have n3_ := Aside0.mk (below_step (by repeat (first | (with_reducible first | exact HB.out | apply below_alloc | apply pw_below_drewN | apply below_drew1 | refine below_set ?_ GE251.out) | exact HB.out)) hb); have n4_ := Aside0.mk (hbox); have n5_ := Aside0.mk ((by rw [hg]; exact (below_size (by repeat (first | (with_reducible first | exact HB.out | apply below_alloc | apply pw_below_drewN | apply below_drew1 | refine below_set ?_ GE251.out) | exact HB.out))) : w.heap.size ≤ gb261)); have n6_ := Aside0.mk ((by rw [hg]; exact (below_size (by repeat (first | (with_reducible first | exact HB.out | apply below_alloc | apply pw_below_drewN | apply below_drew1 | refine below_set ?_ GE251.out) | exact HB.out))) : w.heap.size ≤ gb261)); have n7_ := Aside0.mk ((by rw [hg]; exact Nat.ne_of_lt (blk_lt (g := gb251) (o := .cells #[.slice A0_0 l0_0.length c0_0, .slice A0_1 l0_1.length c0_1] 25 (0, 0)) (by (with_reducible repeat (first | refine blk_drewN ?_ _ | refine blk_drew ?_ | refine blk_alloc ?_ _)); exact BK251.out)) : gb251 ≠ gb261)); have n8_ := Aside0.mk ((by rw [hg]; exact Nat.ne_of_gt (blk_lt (g := gb251) (o := .cells #[.slice A0_0 l0_0.length c0_0, .slice A0_1 l0_1.length c0_1] 25 (0, 0)) (by (with_reducible repeat (first | refine blk_drewN ?_ _ | refine blk_drew ?_ | refine blk_alloc ?_ _)); exact BK251.out)) : gb261 ≠ gb251)); clear HO255; clear HO258; clear BK251; clear HB; have HO255 := n0_; have HO258 := n1_; have BK251 := n2_; have HB := n3_; have BK261 := n4_; have GW261 := n5_; have GE261 := n6_; have NB251_261 := n7_; have NB261_251 := n8_; clear n0_ n1_ n2_ n3_ n4_ n5_ n6_ n7_ n8_; clear hb hbox hg; obtain ⟨Ao19, co19, eo19⟩ := Kd.R_slice HO255.out; subst eo19; have hnb20 := NB261_251.out; have hnc20 := NB251_261.out; have hcz21_0 : w18.cell? ⟨gb261, 0, none⟩ = some (.slice none 0 0) := (blk_cell BK261.out 0).trans rfl; have hcz21_1 : w18.cell? ⟨gb261, 1, none⟩ = some (.slice none 0 0) := (blk_cell BK261.out 1).trans rfl; have hfz21_0 := blk_frozen BK261.out 0; have hfz21_1 := blk_frozen BK261.out 1; obtain ⟨Ao22, co22, eo22⟩ := Kd.R_slice HO258.out; subst eo22))
    (try simp only [Act.put, List.setIfInBounds_toArray, List.set_cons_zero, List.set_cons_succ])
    go_cut [48] (fun v48 wc => ∃ (kq : Nat) (x48_11 : Bool), v48 = .bool x48_11 ∧ Aside0 (sextonlaw05_TwinOthers.j0 kq a1 a4 x48_11 l0_0 l0_1 t253 t256 = some r) ∧ Aside0 (kq ≤ k) ∧ Aside0 (Kd.R Kd.string 9 wc w.heap.size (fun _ => True) (.slice Ao19 t253.length co19) t253) ∧ Aside0 (Kd.R k73 73 wc w.heap.size (fun _ => True) (.slice Ao22 t256.length co22) t256) ∧ Aside0 (wc.heap[gb251]? = some (.cells #[(.slice A0_0 l0_0.length c0_0), (.slice A0_1 l0_1.length c0_1)] 25 (0, 0))) ∧ Aside0 (wc.heap[gb261]? = some (.cells #[(.slice Ao19 t253.length co19), (.slice Ao22 t256.length co22)] 25 (0, 0))) ∧ Aside0 (Below w.heap.size w wc))
    case first =>
      have H := HC12.out
      clear HC12
      by_cases c23 : t260 = 0
      · rw [if_pos c23] at H
        have c23b0 : (t260 == 0) = true := beq_iff_eq.mpr c23
        have c23b1 : (t260 != 0) = false := bne_eq_false_iff_eq.mpr c23
        clear c23
        (first | rw [c23b0] | (simp only [i64_w, i32_w]; rw [c23b0]) | skip)
        by_cases c24 : a4 < 0
        · rw [if_pos c24] at H
          have c24b0 : decide (a4 < 0) = true := decide_eq_true c24
          clear c24
          have H' := Aside0.mk H
          clear H
          go_wp2
          go_meet
          case rel => exact ⟨_, (true), (by first | rfl | (simp; done) | (simp [*]; done)), H', ⟨by first | omega | exact Nat.le_refl _⟩, ⟨by (with_reducible repeat (first | apply Kd.R_alloc | apply Kd.R_drewN | apply Kd.R_drew)); exact Kd.R_mono (Kd.R_far (p := ⟨gb261, 1, none⟩) (Kd.R_far (p := ⟨gb261, 0, none⟩) (Kd.R_types HO255.out BK261.out (by decide)) (fun _ hk => hk.2) (.slice Ao19 t253.length co19)) (fun _ hk => hk.2) (.slice Ao22 t256.length co22)) (fun _ hk => trivial)⟩, ⟨by (with_reducible repeat (first | apply Kd.R_alloc | apply Kd.R_drewN | apply Kd.R_drew)); exact Kd.R_mono (Kd.R_far (p := ⟨gb261, 1, none⟩) (Kd.R_far (p := ⟨gb261, 0, none⟩) (Kd.R_types HO258.out BK261.out (by decide)) (fun _ hk => hk.2) (.slice Ao19 t253.length co19)) (fun _ hk => hk.2) (.slice Ao22 t256.length co22)) (fun _ hk => trivial)⟩, ⟨by (with_reducible repeat (first | refine blk_drewN ?_ _ | refine blk_drew ?_ | refine blk_alloc ?_ _)); refine blk_far ?_ NB251_261.out _; (with_reducible repeat (first | refine blk_drewN ?_ _ | refine blk_drew ?_ | refine blk_alloc ?_ _)); refine blk_far ?_ NB251_261.out _; (with_reducible repeat (first | refine blk_drewN ?_ _ | refine blk_drew ?_ | refine blk_alloc ?_ _)); exact BK251.out⟩, ⟨by (with_reducible repeat (first | refine blk_drewN ?_ _ | refine blk_drew ?_ | refine blk_alloc ?_ _)); refine blk_put (cs := #[.slice Ao19 t253.length co19, .slice none 0 0]) ?_ 1 _ rfl; (with_reducible repeat (first | refine blk_drewN ?_ _ | refine blk_drew ?_ | refine blk_alloc ?_ _)); refine blk_put (cs := #[.slice none 0 0, .slice none 0 0]) ?_ 0 _ rfl; (with_reducible repeat (first | refine blk_drewN ?_ _ | refine blk_drew ?_ | refine blk_alloc ?_ _)); exact BK261.out⟩, ⟨by repeat (first | (with_reducible first | exact HB.out | apply below_alloc | apply pw_below_drewN | apply below_drew1 | refine below_set ?_ GE251.out | refine below_set ?_ GE261.out) | exact HB.out)⟩⟩
        · rw [if_neg c24] at H
          have c24b0 : decide (a4 < 0) = false := decide_eq_false c24
          clear c24
          have H' := Aside0.mk H
          clear H
          have hnb25 := NB251_261.out
          have hnc25 := NB261_251.out
          have hcz26_0 : w18.cell? ⟨gb251, 0, none⟩ = some (.slice A0_0 l0_0.length c0_0) := (blk_cell BK251.out 0).trans rfl
          have hcz26_1 : w18.cell? ⟨gb251, 1, none⟩ = some (.slice A0_1 l0_1.length c0_1) := (blk_cell BK251.out 1).trans rfl
          have hfz26_0 := blk_frozen BK251.out 0
          have hfz26_1 := blk_frozen BK251.out 1
          go_wp2
          go_meet
          case rel => exact ⟨_, (decide (a4 ≥ (l0_0.length : Int))), (by first | rfl | (simp; done) | (simp [*]; done)), H', ⟨by first | omega | exact Nat.le_refl _⟩, ⟨by (with_reducible repeat (first | apply Kd.R_alloc | apply Kd.R_drewN | apply Kd.R_drew)); exact Kd.R_mono (Kd.R_far (p := ⟨gb261, 1, none⟩) (Kd.R_far (p := ⟨gb261, 0, none⟩) (Kd.R_types HO255.out BK261.out (by decide)) (fun _ hk => hk.2) (.slice Ao19 t253.length co19)) (fun _ hk => hk.2) (.slice Ao22 t256.length co22)) (fun _ hk => trivial)⟩, ⟨by (with_reducible repeat (first | apply Kd.R_alloc | apply Kd.R_drewN | apply Kd.R_drew)); exact Kd.R_mono (Kd.R_far (p := ⟨gb261, 1, none⟩) (Kd.R_far (p := ⟨gb261, 0, none⟩) (Kd.R_types HO258.out BK261.out (by decide)) (fun _ hk => hk.2) (.slice Ao19 t253.length co19)) (fun _ hk => hk.2) (.slice Ao22 t256.length co22)) (fun _ hk => trivial)⟩, ⟨by (with_reducible repeat (first | refine blk_drewN ?_ _ | refine blk_drew ?_ | refine blk_alloc ?_ _)); refine blk_far ?_ NB251_261.out _; (with_reducible repeat (first | refine blk_drewN ?_ _ | refine blk_drew ?_ | refine blk_alloc ?_ _)); refine blk_far ?_ NB251_261.out _; (with_reducible repeat (first | refine blk_drewN ?_ _ | refine blk_drew ?_ | refine blk_alloc ?_ _)); exact BK251.out⟩, ⟨by (with_reducible repeat (first | refine blk_drewN ?_ _ | refine blk_drew ?_ | refine blk_alloc ?_ _)); refine blk_put (cs := #[.slice Ao19 t253.length co19, .slice none 0 0]) ?_ 1 _ rfl; (with_reducible repeat (first | refine blk_drewN ?_ _ | refine blk_drew ?_ | refine blk_alloc ?_ _)); refine blk_put (cs := #[.slice none 0 0, .slice none 0 0]) ?_ 0 _ rfl; (with_reducible repeat (first | refine blk_drewN ?_ _ | refine blk_drew ?_ | refine blk_alloc ?_ _)); exact BK261.out⟩, ⟨by repeat (first | (with_reducible first | exact HB.out | apply below_alloc | apply pw_below_drewN | apply below_drew1 | refine below_set ?_ GE251.out | refine below_set ?_ GE261.out) | exact HB.out)⟩⟩
      · rw [if_neg c23] at H
        have c23b0 : (t260 == 0) = false := beq_eq_false_iff_ne.mpr c23
        have c23b1 : (t260 != 0) = true := bne_iff_ne.mpr c23
        (first | rw [c23b0] | (simp only [i64_w, i32_w]; rw [c23b0]) | skip)
        have H' := Aside0.mk H
        clear H
        go_wp2
        go_meet
        case rel => exact ⟨_, (true), (by first | rfl | (simp; done) | (simp [*]; done)), H', ⟨by first | omega | exact Nat.le_refl _⟩, ⟨by (with_reducible repeat (first | apply Kd.R_alloc | apply Kd.R_drewN | apply Kd.R_drew)); exact Kd.R_mono (Kd.R_far (p := ⟨gb261, 1, none⟩) (Kd.R_far (p := ⟨gb261, 0, none⟩) (Kd.R_types HO255.out BK261.out (by decide)) (fun _ hk => hk.2) (.slice Ao19 t253.length co19)) (fun _ hk => hk.2) (.slice Ao22 t256.length co22)) (fun _ hk => trivial)⟩, ⟨by (with_reducible repeat (first | apply Kd.R_alloc | apply Kd.R_drewN | apply Kd.R_drew)); exact Kd.R_mono (Kd.R_far (p := ⟨gb261, 1, none⟩) (Kd.R_far (p := ⟨gb261, 0, none⟩) (Kd.R_types HO258.out BK261.out (by decide)) (fun _ hk => hk.2) (.slice Ao19 t253.length co19)) (fun _ hk => hk.2) (.slice Ao22 t256.length co22)) (fun _ hk => trivial)⟩, ⟨by (with_reducible repeat (first | refine blk_drewN ?_ _ | refine blk_drew ?_ | refine blk_alloc ?_ _)); refine blk_far ?_ NB251_261.out _; (with_reducible repeat (first | refine blk_drewN ?_ _ | refine blk_drew ?_ | refine blk_alloc ?_ _)); refine blk_far ?_ NB251_261.out _; (with_reducible repeat (first | refine blk_drewN ?_ _ | refine blk_drew ?_ | refine blk_alloc ?_ _)); exact BK251.out⟩, ⟨by (with_reducible repeat (first | refine blk_drewN ?_ _ | refine blk_drew ?_ | refine blk_alloc ?_ _)); refine blk_put (cs := #[.slice Ao19 t253.length co19, .slice none 0 0]) ?_ 1 _ rfl; (with_reducible repeat (first | refine blk_drewN ?_ _ | refine blk_drew ?_ | refine blk_alloc ?_ _)); refine blk_put (cs := #[.slice none 0 0, .slice none 0 0]) ?_ 0 _ rfl; (with_reducible repeat (first | refine blk_drewN ?_ _ | refine blk_drew ?_ | refine blk_alloc ?_ _)); exact BK261.out⟩, ⟨by repeat (first | (with_reducible first | exact HB.out | apply below_alloc | apply pw_below_drewN | apply below_drew1 | refine below_set ?_ GE251.out | refine below_set ?_ GE261.out) | exact HB.out)⟩⟩
    case rest =>
      clear HC12
      try clear c1
      try clear c2
      try clear p2
      try clear c6
      try clear c7
      try clear c11
      try clear c15
      try clear c20
      try clear c23
      try clear c23b0
      try clear c23b1
      try clear c24
      try clear c24b0
      try clear c25
      try clear hcz14_0
      try clear hcz14_1
      try clear hcz16_0
      try clear hcz16_1
      try clear hcz21_0
      try clear hcz21_1
      try clear hcz26_0
      try clear hcz26_1
      try clear hcz9_0
      try clear hcz9_1
      try clear hfz14_0
      try clear hfz14_1
      try clear hfz16_0
      try clear hfz16_1
      try clear hfz21_0
      try clear hfz21_1
      try clear hfz26_0
      try clear hfz26_1
      try clear hfz9_0
      try clear hfz9_1
      obtain ⟨kq, x48_11, rfl, HA, HJ11, HO_262000, HO_262001, BK251, BK261, HB⟩ := hcut
      cases kq with
      | zero => exact absurd HA.out (by simp [sextonlaw05_TwinOthers.j0])
      | succ kj11 =>
        have H := HA.out
        clear HA
        simp only [sextonlaw05_TwinOthers.j0] at H
        by_cases c27 : x48_11 = true
        · subst c27
          have H1 : ((sextonlaw05_twins.f).bind fun t262 => (some t262)) = some r := by rw [if_pos rfl] at H; exact H
          clear H
          have H := H1
          clear H1
          replace H := Option.bind_eq_some_iff.mp H
          obtain ⟨t262, A280, H⟩ := H
          replace H : (some t262) = some r := H
          have A28 := Aside0.mk A280
          clear A280
          obtain rfl := Option.some.inj H
          go_wp2_with (first | ((with_reducible refine gate_callee (f := 14) rfl ?_); refine goesL_ (some 49) rfl rfl Try.func14 (by kernel_rfl) rfl #[] rfl (by (try simp only [List.map_toArray, List.map_cons, List.map_nil]); first | done | rfl | (simp only [List.length_drop, List.length_take]; rfl)) ?_; (with_reducible refine (sextonlaw05_twins.calls  t262 _ A28.out).mono ?_); rintro e w29 ⟨rfl, hb⟩; refine ⟨_, rfl, ?_⟩; have n0_ := Aside0.mk (Kd.R_below (by (with_reducible repeat (first | apply Kd.R_alloc | apply Kd.R_drewN | apply Kd.R_drew)); exact HO_262000.out) hb); have n1_ := Aside0.mk (Kd.R_below (by (with_reducible repeat (first | apply Kd.R_alloc | apply Kd.R_drewN | apply Kd.R_drew)); exact HO_262001.out) hb); have n2_ := Aside0.mk (blk_below (g := gb251) (o := .cells #[.slice A0_0 l0_0.length c0_0, .slice A0_1 l0_1.length c0_1] 25 (0, 0)) (by (with_reducible repeat (first | refine blk_drewN ?_ _ | refine blk_drew ?_ | refine blk_alloc ?_ _)); exact BK251.out) hb); have n3_ := Aside0.mk (blk_below (g := gb261) (o := .cells #[.slice Ao19 t253.length co19, .slice Ao22 t256.length co22] 25 (0, 0)) (by (with_reducible repeat (first | refine blk_drewN ?_ _ | refine blk_drew ?_ | refine blk_alloc ?_ _)); exact BK261.out) hb); have n4_ := Aside0.mk (below_step (by repeat (first | (with_reducible first | exact HB.out | apply below_alloc | apply pw_below_drewN | apply below_drew1 | refine below_set ?_ GE251.out | refine below_set ?_ GE261.out) | exact HB.out)) hb); clear HO_262000; clear HO_262001; clear BK251; clear BK261; clear HB; have HO_262000 := n0_; have HO_262001 := n1_; have BK251 := n2_; have BK261 := n3_; have HB := n4_; clear n0_ n1_ n2_ n3_ n4_; (try clear hb); (try clear hb2); (try clear hk); (try clear hi)))
          go_ret
          exact ⟨by first | rfl | (simp [errW_none, errW_some] <;> rfl) | (simp [*, errW_none, errW_some] <;> rfl), by repeat (first | (with_reducible first | exact HB.out | apply below_alloc | apply pw_below_drewN | apply below_drew1 | refine below_set ?_ GE251.out | refine below_set ?_ GE261.out) | exact HB.out)⟩
        · replace c27 := Bool.eq_false_iff.mpr c27
          subst c27
          have H1 : ((disk_Read.f l0_0 l0_1 a4).bind fun bt263 => ((disk_Read.f t253 t256 a4).bind fun bt265 => (sextonlaw05_TwinOthers.l0 kj11 a1 a4 bt263.1 bt263.2 bt265.1 bt265.2 0 a1 l0_0 l0_1 t253 t256))) = some r := by rw [if_neg (show ¬ (false = true) by decide)] at H; exact H
          clear H
          have H := H1
          clear H1
          replace H := Option.bind_eq_some_iff.mp H
          obtain ⟨⟨t263, t264⟩, A300, H⟩ := H
          replace H : ((disk_Read.f t253 t256 a4).bind fun bt265 => (sextonlaw05_TwinOthers.l0 kj11 a1 a4 t263 t264 bt265.1 bt265.2 0 a1 l0_0 l0_1 t253 t256)) = some r := H
          have A30 := Aside0.mk A300
          clear A300
          replace H := Option.bind_eq_some_iff.mp H
          obtain ⟨⟨t265, t266⟩, A310, H⟩ := H
          replace H : (sextonlaw05_TwinOthers.l0 kj11 a1 a4 t263 t264 t265 t266 0 a1 l0_0 l0_1 t253 t256) = some r := H
          have A31 := Aside0.mk A310
          clear A310
          have H' := Aside0.mk H
          clear H
          have hnb32 := NB251_261.out
          have hnc32 := NB261_251.out
          have hcz33_0 : wc.cell? ⟨gb251, 0, none⟩ = some (.slice A0_0 l0_0.length c0_0) := (blk_cell BK251.out 0).trans rfl
          have hcz33_1 : wc.cell? ⟨gb251, 1, none⟩ = some (.slice A0_1 l0_1.length c0_1) := (blk_cell BK251.out 1).trans rfl
          have hfz33_0 := blk_frozen BK251.out 0
          have hfz33_1 := blk_frozen BK251.out 1
          go_wp2_with (first | ((with_reducible refine gate_callee (f := 18) rfl ?_); refine goesL_ (some 53) rfl rfl Try.func18 (by kernel_rfl) rfl #[.agg #[.slice A0_0 l0_0.length c0_0, .slice A0_1 l0_1.length c0_1], .int .i64 a4] rfl (by (try simp only [List.map_toArray, List.map_cons, List.map_nil]); first | done | rfl | (simp only [List.length_drop, List.length_take]; rfl)) ?_; (with_reducible refine (disk_Read.calls _ _ l0_0 _ _ l0_1 a4 t263 t264 _ ?side1 ?side2 ?side3 ?side4 A30.out).mono ?_); (case side1 => repeat (first | exact (Kd.C_below HR0_0.out HB.out) | (with_reducible refine Kd.C_alloc ?_ _) | (with_reducible refine Kd.C_drewN ?_ _) | (with_reducible refine Kd.C_drew ?_))); (case side2 => exact HC0_0.out); (case side3 => repeat (first | exact (Kd.C_below HR0_1.out HB.out) | (with_reducible refine Kd.C_alloc ?_ _) | (with_reducible refine Kd.C_drewN ?_ _) | (with_reducible refine Kd.C_drew ?_))); (case side4 => exact HC0_1.out); rintro e w34 ⟨rfl, hb⟩; refine ⟨_, rfl, ?_⟩; have n0_ := Aside0.mk (Kd.R_below (by (with_reducible repeat (first | apply Kd.R_alloc | apply Kd.R_drewN | apply Kd.R_drew)); exact HO_262000.out) hb); have n1_ := Aside0.mk (Kd.R_below (by (with_reducible repeat (first | apply Kd.R_alloc | apply Kd.R_drewN | apply Kd.R_drew)); exact HO_262001.out) hb); have n2_ := Aside0.mk (blk_below (g := gb251) (o := .cells #[.slice A0_0 l0_0.length c0_0, .slice A0_1 l0_1.length c0_1] 25 (0, 0)) (by (with_reducible repeat (first | refine blk_drewN ?_ _ | refine blk_drew ?_ | refine blk_alloc ?_ _)); exact BK251.out) hb); have n3_ := Aside0.mk (blk_below (g := gb261) (o := .cells #[.slice Ao19 t253.length co19, .slice Ao22 t256.length co22] 25 (0, 0)) (by (with_reducible repeat (first | refine blk_drewN ?_ _ | refine blk_drew ?_ | refine blk_alloc ?_ _)); exact BK261.out) hb); have n4_ := Aside0.mk (below_step (by repeat (first | (with_reducible first | exact HB.out | apply below_alloc | apply pw_below_drewN | apply below_drew1 | refine below_set ?_ GE251.out | refine below_set ?_ GE261.out) | exact HB.out)) hb); clear HO_262000; clear HO_262001; clear BK251; clear BK261; clear HB; have HO_262000 := n0_; have HO_262001 := n1_; have BK251 := n2_; have BK261 := n3_; have HB := n4_; clear n0_ n1_ n2_ n3_ n4_; (try clear hb); (try clear hb2); (try clear hk); (try clear hi); have hcz35_0 : w34.cell? ⟨gb261, 0, none⟩ = some (.slice Ao19 t253.length co19) := (blk_cell BK261.out 0).trans rfl; have hcz35_1 : w34.cell? ⟨gb261, 1, none⟩ = some (.slice Ao22 t256.length co22) := (blk_cell BK261.out 1).trans rfl; have hfz35_0 := blk_frozen BK261.out 0; have hfz35_1 := blk_frozen BK261.out 1) | ((with_reducible refine gate_callee (f := 18) rfl ?_); refine goesL_ (some 59) rfl rfl Try.func18 (by kernel_rfl) rfl #[.agg #[.slice Ao19 t253.length co19, .slice Ao22 t256.length co22], .int .i64 a4] rfl (by (try simp only [List.map_toArray, List.map_cons, List.map_nil]); first | done | rfl | (simp only [List.length_drop, List.length_take]; rfl)) ?_; (with_reducible refine (disk_Read.calls _ _ t253 _ _ t256 a4 t265 t266 _ ?side1 ?side2 ?side3 ?side4 A31.out).mono ?_); (case side1 => repeat (first | exact (Kd.R_reads' HO_262000.out).2.2 | (with_reducible refine Kd.C_alloc ?_ _) | (with_reducible refine Kd.C_drewN ?_ _) | (with_reducible refine Kd.C_drew ?_))); (case side2 => exact (Kd.R_reads' HO_262000.out).2.1); (case side3 => repeat (first | exact (Kd.R_reads' HO_262001.out).2.2 | (with_reducible refine Kd.C_alloc ?_ _) | (with_reducible refine Kd.C_drewN ?_ _) | (with_reducible refine Kd.C_drew ?_))); (case side4 => exact (Kd.R_reads' HO_262001.out).2.1); rintro e w36 ⟨rfl, hb⟩; refine ⟨_, rfl, ?_⟩; have n0_ := Aside0.mk (Kd.R_below (by (with_reducible repeat (first | apply Kd.R_alloc | apply Kd.R_drewN | apply Kd.R_drew)); exact HO_262000.out) hb); have n1_ := Aside0.mk (Kd.R_below (by (with_reducible repeat (first | apply Kd.R_alloc | apply Kd.R_drewN | apply Kd.R_drew)); exact HO_262001.out) hb); have n2_ := Aside0.mk (blk_below (g := gb251) (o := .cells #[.slice A0_0 l0_0.length c0_0, .slice A0_1 l0_1.length c0_1] 25 (0, 0)) (by (with_reducible repeat (first | refine blk_drewN ?_ _ | refine blk_drew ?_ | refine blk_alloc ?_ _)); exact BK251.out) hb); have n3_ := Aside0.mk (blk_below (g := gb261) (o := .cells #[.slice Ao19 t253.length co19, .slice Ao22 t256.length co22] 25 (0, 0)) (by (with_reducible repeat (first | refine blk_drewN ?_ _ | refine blk_drew ?_ | refine blk_alloc ?_ _)); exact BK261.out) hb); have n4_ := Aside0.mk (below_step (by repeat (first | (with_reducible first | exact HB.out | apply below_alloc | apply pw_below_drewN | apply below_drew1 | refine below_set ?_ GE251.out | refine below_set ?_ GE261.out) | exact HB.out)) hb); clear HO_262000; clear HO_262001; clear BK251; clear BK261; clear HB; have HO_262000 := n0_; have HO_262001 := n1_; have BK251 := n2_; have BK261 := n3_; have HB := n4_; clear n0_ n1_ n2_ n3_ n4_; (try clear hb); (try clear hb2); (try clear hk); (try clear hi)))
          go_loopg [18, 19] kj11 (fun kq v18 v19 w' => ∃ (x18_2 : Int) (x19_2 : Int), v18 = .int .i64 x18_2 ∧ v19 = .int .i64 x19_2 ∧ Aside0 (sextonlaw05_TwinOthers.l0 kq a1 a4 t263 t264 t265 t266 x18_2 x19_2 l0_0 l0_1 t253 t256 = some r) ∧ Aside0 (kq ≤ kj11) ∧ Aside0 (Kd.R Kd.string 9 w' w.heap.size (fun _ => True) (.slice Ao19 t253.length co19) t253) ∧ Aside0 (Kd.R k73 73 w' w.heap.size (fun _ => True) (.slice Ao22 t256.length co22) t256) ∧ Aside0 (w'.heap[gb251]? = some (.cells #[(.slice A0_0 l0_0.length c0_0), (.slice A0_1 l0_1.length c0_1)] 25 (0, 0))) ∧ Aside0 (w'.heap[gb261]? = some (.cells #[(.slice Ao19 t253.length co19), (.slice Ao22 t256.length co22)] 25 (0, 0))) ∧ Aside0 (Below w.heap.size w w'))
          case atStart => exact ⟨(0), (a1), (by first | rfl | (simp; done) | (simp [*]; done)), (by first | rfl | (simp; done) | (simp [*]; done)), H', ⟨Nat.le_refl _⟩, ⟨by (with_reducible repeat (first | apply Kd.R_alloc | apply Kd.R_drewN | apply Kd.R_drew)); exact HO_262000.out⟩, ⟨by (with_reducible repeat (first | apply Kd.R_alloc | apply Kd.R_drewN | apply Kd.R_drew)); exact HO_262001.out⟩, ⟨by (with_reducible repeat (first | refine blk_drewN ?_ _ | refine blk_drew ?_ | refine blk_alloc ?_ _)); exact BK251.out⟩, ⟨by (with_reducible repeat (first | refine blk_drewN ?_ _ | refine blk_drew ?_ | refine blk_alloc ?_ _)); exact BK261.out⟩, ⟨by repeat (first | (with_reducible first | exact HB.out | apply below_alloc | apply pw_below_drewN | apply below_drew1 | refine below_set ?_ GE251.out | refine below_set ?_ GE261.out) | exact HB.out)⟩⟩
          case round =>
            clear H'
            try clear c1
            try clear c2
            try clear p2
            try clear c3
            try clear c6
            try clear c7
            try clear c11
            try clear c14
            try clear c15
            try clear c18
            try clear c20
            try clear c23
            try clear c23b0
            try clear c23b1
            try clear c24
            try clear c24b0
            try clear c25
            try clear c27
            try clear c32
            try clear hcz14_0
            try clear hcz14_1
            try clear hcz16_0
            try clear hcz16_1
            try clear hcz21_0
            try clear hcz21_1
            try clear hcz26_0
            try clear hcz26_1
            try clear hcz33_0
            try clear hcz33_1
            try clear hcz35_0
            try clear hcz35_1
            try clear hcz9_0
            try clear hcz9_1
            try clear hfz14_0
            try clear hfz14_1
            try clear hfz16_0
            try clear hfz16_1
            try clear hfz21_0
            try clear hfz21_1
            try clear hfz26_0
            try clear hfz26_1
            try clear hfz33_0
            try clear hfz33_1
            try clear hfz35_0
            try clear hfz35_1
            try clear hfz9_0
            try clear hfz9_1
            try clear p2
            obtain ⟨x18_2, x19_2, rfl, rfl, HA, HK2, HO_262000, HO_262001, BK251, BK261, HB⟩ := hrel
            cases gk with
            | zero => exact absurd HA.out (by simp [sextonlaw05_TwinOthers.l0])
            | succ k2 =>
              have H := HA.out
              clear HA
              simp only [sextonlaw05_TwinOthers.l0] at H
              by_cases c37 : x19_2 < (wrap64 (a1 + 2))
              · rw [if_pos c37] at H
                have c37b0 : decide (x19_2 < (wrap64 (a1 + 2))) = true := decide_eq_true c37
                clear c37
                replace H := Option.bind_eq_some_iff.mp H
                obtain ⟨⟨t268, t269⟩, A380, H⟩ := H
                replace H : ((disk_Read.f t253 t256 x19_2).bind fun bt270 => (if t268.toList = bt270.1.toList then (sextonlaw05_TwinOthers.l0 k2 a1 a4 t263 t264 t265 t266 x18_2 (wrap64 (x19_2 + 1)) l0_0 l0_1 t253 t256) else (sextonlaw05_TwinOthers.l0 k2 a1 a4 t263 t264 t265 t266 (wrap64 (x18_2 + 1)) (wrap64 (x19_2 + 1)) l0_0 l0_1 t253 t256))) = some r := H
                have A38 := Aside0.mk A380
                clear A380
                replace H := Option.bind_eq_some_iff.mp H
                obtain ⟨⟨t270, t271⟩, A390, H⟩ := H
                replace H : (if t268.toList = t270.toList then (sextonlaw05_TwinOthers.l0 k2 a1 a4 t263 t264 t265 t266 x18_2 (wrap64 (x19_2 + 1)) l0_0 l0_1 t253 t256) else (sextonlaw05_TwinOthers.l0 k2 a1 a4 t263 t264 t265 t266 (wrap64 (x18_2 + 1)) (wrap64 (x19_2 + 1)) l0_0 l0_1 t253 t256)) = some r := H
                have A39 := Aside0.mk A390
                clear A390
                by_cases c40 : t268.toList = t270.toList
                · rw [if_pos c40] at H
                  have c40b0 : (t268.toList == t270.toList) = true := beq_iff_eq.mpr c40
                  have c40b1 : (t268.toList != t270.toList) = false := bne_eq_false_iff_eq.mpr c40
                  clear c40
                  have H' := Aside0.mk H
                  clear H
                  have hnb41 := NB251_261.out
                  have hnc41 := NB261_251.out
                  have hcz42_0 : wr.cell? ⟨gb251, 0, none⟩ = some (.slice A0_0 l0_0.length c0_0) := (blk_cell BK251.out 0).trans rfl
                  have hcz42_1 : wr.cell? ⟨gb251, 1, none⟩ = some (.slice A0_1 l0_1.length c0_1) := (blk_cell BK251.out 1).trans rfl
                  have hfz42_0 := blk_frozen BK251.out 0
                  have hfz42_1 := blk_frozen BK251.out 1
                  go_wp2_with (first | ((with_reducible refine gate_callee (f := 18) rfl ?_); refine goesL_ (some 72) rfl rfl Try.func18 (by kernel_rfl) rfl #[.agg #[.slice A0_0 l0_0.length c0_0, .slice A0_1 l0_1.length c0_1], .int .i64 x19_2] rfl (by (try simp only [List.map_toArray, List.map_cons, List.map_nil]); first | done | rfl | (simp only [List.length_drop, List.length_take]; rfl)) ?_; (with_reducible refine (disk_Read.calls _ _ l0_0 _ _ l0_1 x19_2 t268 t269 _ ?side1 ?side2 ?side3 ?side4 A38.out).mono ?_); (case side1 => repeat (first | exact (Kd.C_below HR0_0.out HB.out) | (with_reducible refine Kd.C_alloc ?_ _) | (with_reducible refine Kd.C_drewN ?_ _) | (with_reducible refine Kd.C_drew ?_))); (case side2 => exact HC0_0.out); (case side3 => repeat (first | exact (Kd.C_below HR0_1.out HB.out) | (with_reducible refine Kd.C_alloc ?_ _) | (with_reducible refine Kd.C_drewN ?_ _) | (with_reducible refine Kd.C_drew ?_))); (case side4 => exact HC0_1.out); rintro e w43 ⟨rfl, hb⟩; refine ⟨_, rfl, ?_⟩; have n0_ := Aside0.mk (Kd.R_below (by (with_reducible repeat (first | apply Kd.R_alloc | apply Kd.R_drewN | apply Kd.R_drew)); exact HO_262000.out) hb); have n1_ := Aside0.mk (Kd.R_below (by (with_reducible repeat (first | apply Kd.R_alloc | apply Kd.R_drewN | apply Kd.R_drew)); exact HO_262001.out) hb); have n2_ := Aside0.mk (blk_below (g := gb251) (o := .cells #[.slice A0_0 l0_0.length c0_0, .slice A0_1 l0_1.length c0_1] 25 (0, 0)) (by (with_reducible repeat (first | refine blk_drewN ?_ _ | refine blk_drew ?_ | refine blk_alloc ?_ _)); exact BK251.out) hb); have n3_ := Aside0.mk (blk_below (g := gb261) (o := .cells #[.slice Ao19 t253.length co19, .slice Ao22 t256.length co22] 25 (0, 0)) (by (with_reducible repeat (first | refine blk_drewN ?_ _ | refine blk_drew ?_ | refine blk_alloc ?_ _)); exact BK261.out) hb); have n4_ := Aside0.mk (below_step (by repeat (first | (with_reducible first | exact HB.out | apply below_alloc | apply pw_below_drewN | apply below_drew1 | refine below_set ?_ GE251.out | refine below_set ?_ GE261.out) | exact HB.out)) hb); clear HO_262000; clear HO_262001; clear BK251; clear BK261; clear HB; have HO_262000 := n0_; have HO_262001 := n1_; have BK251 := n2_; have BK261 := n3_; have HB := n4_; clear n0_ n1_ n2_ n3_ n4_; (try clear hb); (try clear hb2); (try clear hk); (try clear hi); have hcz44_0 : w43.cell? ⟨gb261, 0, none⟩ = some (.slice Ao19 t253.length co19) := (blk_cell BK261.out 0).trans rfl; have hcz44_1 : w43.cell? ⟨gb261, 1, none⟩ = some (.slice Ao22 t256.length co22) := (blk_cell BK261.out 1).trans rfl; have hfz44_0 := blk_frozen BK261.out 0; have hfz44_1 := blk_frozen BK261.out 1) | ((with_reducible refine gate_callee (f := 18) rfl ?_); refine goesL_ (some 78) rfl rfl Try.func18 (by kernel_rfl) rfl #[.agg #[.slice Ao19 t253.length co19, .slice Ao22 t256.length co22], .int .i64 x19_2] rfl (by (try simp only [List.map_toArray, List.map_cons, List.map_nil]); first | done | rfl | (simp only [List.length_drop, List.length_take]; rfl)) ?_; (with_reducible refine (disk_Read.calls _ _ t253 _ _ t256 x19_2 t270 t271 _ ?side1 ?side2 ?side3 ?side4 A39.out).mono ?_); (case side1 => repeat (first | exact (Kd.R_reads' HO_262000.out).2.2 | (with_reducible refine Kd.C_alloc ?_ _) | (with_reducible refine Kd.C_drewN ?_ _) | (with_reducible refine Kd.C_drew ?_))); (case side2 => exact (Kd.R_reads' HO_262000.out).2.1); (case side3 => repeat (first | exact (Kd.R_reads' HO_262001.out).2.2 | (with_reducible refine Kd.C_alloc ?_ _) | (with_reducible refine Kd.C_drewN ?_ _) | (with_reducible refine Kd.C_drew ?_))); (case side4 => exact (Kd.R_reads' HO_262001.out).2.1); rintro e w45 ⟨rfl, hb⟩; refine ⟨_, rfl, ?_⟩; have n0_ := Aside0.mk (Kd.R_below (by (with_reducible repeat (first | apply Kd.R_alloc | apply Kd.R_drewN | apply Kd.R_drew)); exact HO_262000.out) hb); have n1_ := Aside0.mk (Kd.R_below (by (with_reducible repeat (first | apply Kd.R_alloc | apply Kd.R_drewN | apply Kd.R_drew)); exact HO_262001.out) hb); have n2_ := Aside0.mk (blk_below (g := gb251) (o := .cells #[.slice A0_0 l0_0.length c0_0, .slice A0_1 l0_1.length c0_1] 25 (0, 0)) (by (with_reducible repeat (first | refine blk_drewN ?_ _ | refine blk_drew ?_ | refine blk_alloc ?_ _)); exact BK251.out) hb); have n3_ := Aside0.mk (blk_below (g := gb261) (o := .cells #[.slice Ao19 t253.length co19, .slice Ao22 t256.length co22] 25 (0, 0)) (by (with_reducible repeat (first | refine blk_drewN ?_ _ | refine blk_drew ?_ | refine blk_alloc ?_ _)); exact BK261.out) hb); have n4_ := Aside0.mk (below_step (by repeat (first | (with_reducible first | exact HB.out | apply below_alloc | apply pw_below_drewN | apply below_drew1 | refine below_set ?_ GE251.out | refine below_set ?_ GE261.out) | exact HB.out)) hb); clear HO_262000; clear HO_262001; clear BK251; clear BK261; clear HB; have HO_262000 := n0_; have HO_262001 := n1_; have BK251 := n2_; have BK261 := n3_; have HB := n4_; clear n0_ n1_ n2_ n3_ n4_; (try clear hb); (try clear hb2); (try clear hk); (try clear hi)))
                  go_roundg k2
                  case measure => have := HJ11.out; have := HK2.out; omega
                  case rel => exact ⟨(x18_2), (wrap64 (x19_2 + 1)), (by first | rfl | (simp; done) | (simp [*]; done)), (by first | rfl | (simp; done) | (simp [*]; done)), H', ⟨by have := HJ11.out; have := HK2.out; omega⟩, ⟨by (with_reducible repeat (first | apply Kd.R_alloc | apply Kd.R_drewN | apply Kd.R_drew)); exact HO_262000.out⟩, ⟨by (with_reducible repeat (first | apply Kd.R_alloc | apply Kd.R_drewN | apply Kd.R_drew)); exact HO_262001.out⟩, ⟨by (with_reducible repeat (first | refine blk_drewN ?_ _ | refine blk_drew ?_ | refine blk_alloc ?_ _)); exact BK251.out⟩, ⟨by (with_reducible repeat (first | refine blk_drewN ?_ _ | refine blk_drew ?_ | refine blk_alloc ?_ _)); exact BK261.out⟩, ⟨by repeat (first | (with_reducible first | exact HB.out | apply below_alloc | apply pw_below_drewN | apply below_drew1 | refine below_set ?_ GE251.out | refine below_set ?_ GE261.out) | exact HB.out)⟩⟩
                · rw [if_neg c40] at H
                  have c40b0 : (t268.toList == t270.toList) = false := beq_eq_false_iff_ne.mpr c40
                  have c40b1 : (t268.toList != t270.toList) = true := bne_iff_ne.mpr c40
                  have H' := Aside0.mk H
                  clear H
                  have hnb46 := NB251_261.out
                  have hnc46 := NB261_251.out
                  have hcz47_0 : wr.cell? ⟨gb251, 0, none⟩ = some (.slice A0_0 l0_0.length c0_0) := (blk_cell BK251.out 0).trans rfl
                  have hcz47_1 : wr.cell? ⟨gb251, 1, none⟩ = some (.slice A0_1 l0_1.length c0_1) := (blk_cell BK251.out 1).trans rfl
                  have hfz47_0 := blk_frozen BK251.out 0
                  have hfz47_1 := blk_frozen BK251.out 1
                  go_wp2_with (first | ((with_reducible refine gate_callee (f := 18) rfl ?_); refine goesL_ (some 72) rfl rfl Try.func18 (by kernel_rfl) rfl #[.agg #[.slice A0_0 l0_0.length c0_0, .slice A0_1 l0_1.length c0_1], .int .i64 x19_2] rfl (by (try simp only [List.map_toArray, List.map_cons, List.map_nil]); first | done | rfl | (simp only [List.length_drop, List.length_take]; rfl)) ?_; (with_reducible refine (disk_Read.calls _ _ l0_0 _ _ l0_1 x19_2 t268 t269 _ ?side1 ?side2 ?side3 ?side4 A38.out).mono ?_); (case side1 => repeat (first | exact (Kd.C_below HR0_0.out HB.out) | (with_reducible refine Kd.C_alloc ?_ _) | (with_reducible refine Kd.C_drewN ?_ _) | (with_reducible refine Kd.C_drew ?_))); (case side2 => exact HC0_0.out); (case side3 => repeat (first | exact (Kd.C_below HR0_1.out HB.out) | (with_reducible refine Kd.C_alloc ?_ _) | (with_reducible refine Kd.C_drewN ?_ _) | (with_reducible refine Kd.C_drew ?_))); (case side4 => exact HC0_1.out); rintro e w48 ⟨rfl, hb⟩; refine ⟨_, rfl, ?_⟩; have n0_ := Aside0.mk (Kd.R_below (by (with_reducible repeat (first | apply Kd.R_alloc | apply Kd.R_drewN | apply Kd.R_drew)); exact HO_262000.out) hb); have n1_ := Aside0.mk (Kd.R_below (by (with_reducible repeat (first | apply Kd.R_alloc | apply Kd.R_drewN | apply Kd.R_drew)); exact HO_262001.out) hb); have n2_ := Aside0.mk (blk_below (g := gb251) (o := .cells #[.slice A0_0 l0_0.length c0_0, .slice A0_1 l0_1.length c0_1] 25 (0, 0)) (by (with_reducible repeat (first | refine blk_drewN ?_ _ | refine blk_drew ?_ | refine blk_alloc ?_ _)); exact BK251.out) hb); have n3_ := Aside0.mk (blk_below (g := gb261) (o := .cells #[.slice Ao19 t253.length co19, .slice Ao22 t256.length co22] 25 (0, 0)) (by (with_reducible repeat (first | refine blk_drewN ?_ _ | refine blk_drew ?_ | refine blk_alloc ?_ _)); exact BK261.out) hb); have n4_ := Aside0.mk (below_step (by repeat (first | (with_reducible first | exact HB.out | apply below_alloc | apply pw_below_drewN | apply below_drew1 | refine below_set ?_ GE251.out | refine below_set ?_ GE261.out) | exact HB.out)) hb); clear HO_262000; clear HO_262001; clear BK251; clear BK261; clear HB; have HO_262000 := n0_; have HO_262001 := n1_; have BK251 := n2_; have BK261 := n3_; have HB := n4_; clear n0_ n1_ n2_ n3_ n4_; (try clear hb); (try clear hb2); (try clear hk); (try clear hi); have hcz49_0 : w48.cell? ⟨gb261, 0, none⟩ = some (.slice Ao19 t253.length co19) := (blk_cell BK261.out 0).trans rfl; have hcz49_1 : w48.cell? ⟨gb261, 1, none⟩ = some (.slice Ao22 t256.length co22) := (blk_cell BK261.out 1).trans rfl; have hfz49_0 := blk_frozen BK261.out 0; have hfz49_1 := blk_frozen BK261.out 1) | ((with_reducible refine gate_callee (f := 18) rfl ?_); refine goesL_ (some 78) rfl rfl Try.func18 (by kernel_rfl) rfl #[.agg #[.slice Ao19 t253.length co19, .slice Ao22 t256.length co22], .int .i64 x19_2] rfl (by (try simp only [List.map_toArray, List.map_cons, List.map_nil]); first | done | rfl | (simp only [List.length_drop, List.length_take]; rfl)) ?_; (with_reducible refine (disk_Read.calls _ _ t253 _ _ t256 x19_2 t270 t271 _ ?side1 ?side2 ?side3 ?side4 A39.out).mono ?_); (case side1 => repeat (first | exact (Kd.R_reads' HO_262000.out).2.2 | (with_reducible refine Kd.C_alloc ?_ _) | (with_reducible refine Kd.C_drewN ?_ _) | (with_reducible refine Kd.C_drew ?_))); (case side2 => exact (Kd.R_reads' HO_262000.out).2.1); (case side3 => repeat (first | exact (Kd.R_reads' HO_262001.out).2.2 | (with_reducible refine Kd.C_alloc ?_ _) | (with_reducible refine Kd.C_drewN ?_ _) | (with_reducible refine Kd.C_drew ?_))); (case side4 => exact (Kd.R_reads' HO_262001.out).2.1); rintro e w50 ⟨rfl, hb⟩; refine ⟨_, rfl, ?_⟩; have n0_ := Aside0.mk (Kd.R_below (by (with_reducible repeat (first | apply Kd.R_alloc | apply Kd.R_drewN | apply Kd.R_drew)); exact HO_262000.out) hb); have n1_ := Aside0.mk (Kd.R_below (by (with_reducible repeat (first | apply Kd.R_alloc | apply Kd.R_drewN | apply Kd.R_drew)); exact HO_262001.out) hb); have n2_ := Aside0.mk (blk_below (g := gb251) (o := .cells #[.slice A0_0 l0_0.length c0_0, .slice A0_1 l0_1.length c0_1] 25 (0, 0)) (by (with_reducible repeat (first | refine blk_drewN ?_ _ | refine blk_drew ?_ | refine blk_alloc ?_ _)); exact BK251.out) hb); have n3_ := Aside0.mk (blk_below (g := gb261) (o := .cells #[.slice Ao19 t253.length co19, .slice Ao22 t256.length co22] 25 (0, 0)) (by (with_reducible repeat (first | refine blk_drewN ?_ _ | refine blk_drew ?_ | refine blk_alloc ?_ _)); exact BK261.out) hb); have n4_ := Aside0.mk (below_step (by repeat (first | (with_reducible first | exact HB.out | apply below_alloc | apply pw_below_drewN | apply below_drew1 | refine below_set ?_ GE251.out | refine below_set ?_ GE261.out) | exact HB.out)) hb); clear HO_262000; clear HO_262001; clear BK251; clear BK261; clear HB; have HO_262000 := n0_; have HO_262001 := n1_; have BK251 := n2_; have BK261 := n3_; have HB := n4_; clear n0_ n1_ n2_ n3_ n4_; (try clear hb); (try clear hb2); (try clear hk); (try clear hi)))
                  go_roundg k2
                  case measure => have := HJ11.out; have := HK2.out; omega
                  case rel => exact ⟨(wrap64 (x18_2 + 1)), (wrap64 (x19_2 + 1)), (by first | rfl | (simp; done) | (simp [*]; done)), (by first | rfl | (simp; done) | (simp [*]; done)), H', ⟨by have := HJ11.out; have := HK2.out; omega⟩, ⟨by (with_reducible repeat (first | apply Kd.R_alloc | apply Kd.R_drewN | apply Kd.R_drew)); exact HO_262000.out⟩, ⟨by (with_reducible repeat (first | apply Kd.R_alloc | apply Kd.R_drewN | apply Kd.R_drew)); exact HO_262001.out⟩, ⟨by (with_reducible repeat (first | refine blk_drewN ?_ _ | refine blk_drew ?_ | refine blk_alloc ?_ _)); exact BK251.out⟩, ⟨by (with_reducible repeat (first | refine blk_drewN ?_ _ | refine blk_drew ?_ | refine blk_alloc ?_ _)); exact BK261.out⟩, ⟨by repeat (first | (with_reducible first | exact HB.out | apply below_alloc | apply pw_below_drewN | apply below_drew1 | refine below_set ?_ GE251.out | refine below_set ?_ GE261.out) | exact HB.out)⟩⟩
              · rw [if_neg c37] at H
                have c37b0 : decide (x19_2 < (wrap64 (a1 + 2))) = false := decide_eq_false c37
                clear c37
                replace H := Option.bind_eq_some_iff.mp H
                obtain ⟨t267, A510, H⟩ := H
                replace H : (if t267 = true then (if t264 = 0 then (if t266 = t264 then (if a4 = a1 then (if x18_2 ≤ 1 then (some ((t253.length : Int) == (l0_0.length : Int))) else (some false)) else (if (wrap64 (a4 - 1)) = a1 then (if x18_2 ≤ 1 then (some ((t253.length : Int) == (l0_0.length : Int))) else (some false)) else (if t263.toList = t265.toList then (if x18_2 ≤ 1 then (some ((t253.length : Int) == (l0_0.length : Int))) else (some false)) else (some false)))) else (some false)) else (some false)) else (some false)) = some r := H
                have A51 := Aside0.mk A510
                clear A510
                by_cases c52 : t267 = true
                · subst c52
                  have H1 : (if t264 = 0 then (if t266 = t264 then (if a4 = a1 then (if x18_2 ≤ 1 then (some ((t253.length : Int) == (l0_0.length : Int))) else (some false)) else (if (wrap64 (a4 - 1)) = a1 then (if x18_2 ≤ 1 then (some ((t253.length : Int) == (l0_0.length : Int))) else (some false)) else (if t263.toList = t265.toList then (if x18_2 ≤ 1 then (some ((t253.length : Int) == (l0_0.length : Int))) else (some false)) else (some false)))) else (some false)) else (some false)) = some r := by rw [if_pos rfl] at H; exact H
                  clear H
                  have H := H1
                  clear H1
                  by_cases c53 : t264 = 0
                  · rw [if_pos c53] at H
                    have c53b0 : (t264 == 0) = true := beq_iff_eq.mpr c53
                    have c53b1 : (t264 != 0) = false := bne_eq_false_iff_eq.mpr c53
                    clear c53
                    by_cases c54 : t266 = t264
                    · rw [if_pos c54] at H
                      have c54b0 : (t266 == t264) = true := beq_iff_eq.mpr c54
                      have c54b1 : (t266 != t264) = false := bne_eq_false_iff_eq.mpr c54
                      clear c54
                      by_cases c55 : a4 = a1
                      · rw [if_pos c55] at H
                        have c55b0 : (a4 == a1) = true := beq_iff_eq.mpr c55
                        have c55b1 : (a4 != a1) = false := bne_eq_false_iff_eq.mpr c55
                        clear c55
                        by_cases c56 : x18_2 ≤ 1
                        · rw [if_pos c56] at H
                          have c56b0 : decide (x18_2 ≤ 1) = true := decide_eq_true c56
                          clear c56
                          obtain rfl := Option.some.inj H
                          go_wp2_with (first | ((with_reducible refine gate_callee (f := 14) rfl ?_); refine goesL_ (some 86) rfl rfl Try.func14 (by kernel_rfl) rfl #[] rfl (by (try simp only [List.map_toArray, List.map_cons, List.map_nil]); first | done | rfl | (simp only [List.length_drop, List.length_take]; rfl)) ?_; (with_reducible refine (sextonlaw05_twins.calls  true _ A51.out).mono ?_); rintro e w57 ⟨rfl, hb⟩; refine ⟨_, rfl, ?_⟩; have n0_ := Aside0.mk (Kd.R_below (by (with_reducible repeat (first | apply Kd.R_alloc | apply Kd.R_drewN | apply Kd.R_drew)); exact HO_262000.out) hb); have n1_ := Aside0.mk (Kd.R_below (by (with_reducible repeat (first | apply Kd.R_alloc | apply Kd.R_drewN | apply Kd.R_drew)); exact HO_262001.out) hb); have n2_ := Aside0.mk (blk_below (g := gb251) (o := .cells #[.slice A0_0 l0_0.length c0_0, .slice A0_1 l0_1.length c0_1] 25 (0, 0)) (by (with_reducible repeat (first | refine blk_drewN ?_ _ | refine blk_drew ?_ | refine blk_alloc ?_ _)); exact BK251.out) hb); have n3_ := Aside0.mk (blk_below (g := gb261) (o := .cells #[.slice Ao19 t253.length co19, .slice Ao22 t256.length co22] 25 (0, 0)) (by (with_reducible repeat (first | refine blk_drewN ?_ _ | refine blk_drew ?_ | refine blk_alloc ?_ _)); exact BK261.out) hb); have n4_ := Aside0.mk (below_step (by repeat (first | (with_reducible first | exact HB.out | apply below_alloc | apply pw_below_drewN | apply below_drew1 | refine below_set ?_ GE251.out | refine below_set ?_ GE261.out) | exact HB.out)) hb); clear HO_262000; clear HO_262001; clear BK251; clear BK261; clear HB; have HO_262000 := n0_; have HO_262001 := n1_; have BK251 := n2_; have BK261 := n3_; have HB := n4_; clear n0_ n1_ n2_ n3_ n4_; (try clear hb); (try clear hb2); (try clear hk); (try clear hi); have hnb58 := NB261_251.out; have hnc58 := NB251_261.out; have hcz59_0 : w57.cell? ⟨gb261, 0, none⟩ = some (.slice Ao19 t253.length co19) := (blk_cell BK261.out 0).trans rfl; have hcz59_1 : w57.cell? ⟨gb261, 1, none⟩ = some (.slice Ao22 t256.length co22) := (blk_cell BK261.out 1).trans rfl; have hfz59_0 := blk_frozen BK261.out 0; have hfz59_1 := blk_frozen BK261.out 1; have hcz60_0 : w57.cell? ⟨gb251, 0, none⟩ = some (.slice A0_0 l0_0.length c0_0) := (blk_cell BK251.out 0).trans rfl; have hcz60_1 : w57.cell? ⟨gb251, 1, none⟩ = some (.slice A0_1 l0_1.length c0_1) := (blk_cell BK251.out 1).trans rfl; have hfz60_0 := blk_frozen BK251.out 0; have hfz60_1 := blk_frozen BK251.out 1))
                          go_ret
                          exact ⟨by first | rfl | (simp [errW_none, errW_some] <;> rfl) | (simp [*, errW_none, errW_some] <;> rfl), by repeat (first | (with_reducible first | exact HB.out | apply below_alloc | apply pw_below_drewN | apply below_drew1 | refine below_set ?_ GE251.out | refine below_set ?_ GE261.out) | exact HB.out)⟩
                        · rw [if_neg c56] at H
                          exact absurd (H.trans (congrArg some HRT.out)) (by decide)
                      · rw [if_neg c55] at H
                        have c55b0 : (a4 == a1) = false := beq_eq_false_iff_ne.mpr c55
                        have c55b1 : (a4 != a1) = true := bne_iff_ne.mpr c55
                        by_cases c62 : (wrap64 (a4 - 1)) = a1
                        · rw [if_pos c62] at H
                          have c62b0 : ((wrap64 (a4 - 1)) == a1) = true := beq_iff_eq.mpr c62
                          have c62b1 : ((wrap64 (a4 - 1)) != a1) = false := bne_eq_false_iff_eq.mpr c62
                          clear c62
                          by_cases c63 : x18_2 ≤ 1
                          · rw [if_pos c63] at H
                            have c63b0 : decide (x18_2 ≤ 1) = true := decide_eq_true c63
                            clear c63
                            obtain rfl := Option.some.inj H
                            go_wp2_with (first | ((with_reducible refine gate_callee (f := 14) rfl ?_); refine goesL_ (some 86) rfl rfl Try.func14 (by kernel_rfl) rfl #[] rfl (by (try simp only [List.map_toArray, List.map_cons, List.map_nil]); first | done | rfl | (simp only [List.length_drop, List.length_take]; rfl)) ?_; (with_reducible refine (sextonlaw05_twins.calls  true _ A51.out).mono ?_); rintro e w64 ⟨rfl, hb⟩; refine ⟨_, rfl, ?_⟩; have n0_ := Aside0.mk (Kd.R_below (by (with_reducible repeat (first | apply Kd.R_alloc | apply Kd.R_drewN | apply Kd.R_drew)); exact HO_262000.out) hb); have n1_ := Aside0.mk (Kd.R_below (by (with_reducible repeat (first | apply Kd.R_alloc | apply Kd.R_drewN | apply Kd.R_drew)); exact HO_262001.out) hb); have n2_ := Aside0.mk (blk_below (g := gb251) (o := .cells #[.slice A0_0 l0_0.length c0_0, .slice A0_1 l0_1.length c0_1] 25 (0, 0)) (by (with_reducible repeat (first | refine blk_drewN ?_ _ | refine blk_drew ?_ | refine blk_alloc ?_ _)); exact BK251.out) hb); have n3_ := Aside0.mk (blk_below (g := gb261) (o := .cells #[.slice Ao19 t253.length co19, .slice Ao22 t256.length co22] 25 (0, 0)) (by (with_reducible repeat (first | refine blk_drewN ?_ _ | refine blk_drew ?_ | refine blk_alloc ?_ _)); exact BK261.out) hb); have n4_ := Aside0.mk (below_step (by repeat (first | (with_reducible first | exact HB.out | apply below_alloc | apply pw_below_drewN | apply below_drew1 | refine below_set ?_ GE251.out | refine below_set ?_ GE261.out) | exact HB.out)) hb); clear HO_262000; clear HO_262001; clear BK251; clear BK261; clear HB; have HO_262000 := n0_; have HO_262001 := n1_; have BK251 := n2_; have BK261 := n3_; have HB := n4_; clear n0_ n1_ n2_ n3_ n4_; (try clear hb); (try clear hb2); (try clear hk); (try clear hi); have hnb65 := NB261_251.out; have hnc65 := NB251_261.out; have hcz66_0 : w64.cell? ⟨gb261, 0, none⟩ = some (.slice Ao19 t253.length co19) := (blk_cell BK261.out 0).trans rfl; have hcz66_1 : w64.cell? ⟨gb261, 1, none⟩ = some (.slice Ao22 t256.length co22) := (blk_cell BK261.out 1).trans rfl; have hfz66_0 := blk_frozen BK261.out 0; have hfz66_1 := blk_frozen BK261.out 1; have hcz67_0 : w64.cell? ⟨gb251, 0, none⟩ = some (.slice A0_0 l0_0.length c0_0) := (blk_cell BK251.out 0).trans rfl; have hcz67_1 : w64.cell? ⟨gb251, 1, none⟩ = some (.slice A0_1 l0_1.length c0_1) := (blk_cell BK251.out 1).trans rfl; have hfz67_0 := blk_frozen BK251.out 0; have hfz67_1 := blk_frozen BK251.out 1))
                            go_ret
                            exact ⟨by first | rfl | (simp [errW_none, errW_some] <;> rfl) | (simp [*, errW_none, errW_some] <;> rfl), by repeat (first | (with_reducible first | exact HB.out | apply below_alloc | apply pw_below_drewN | apply below_drew1 | refine below_set ?_ GE251.out | refine below_set ?_ GE261.out) | exact HB.out)⟩
                          · rw [if_neg c63] at H
                            exact absurd (H.trans (congrArg some HRT.out)) (by decide)
                        · rw [if_neg c62] at H
                          have c62b0 : ((wrap64 (a4 - 1)) == a1) = false := beq_eq_false_iff_ne.mpr c62
                          have c62b1 : ((wrap64 (a4 - 1)) != a1) = true := bne_iff_ne.mpr c62
                          by_cases c69 : t263.toList = t265.toList
                          · rw [if_pos c69] at H
                            have c69b0 : (t263.toList == t265.toList) = true := beq_iff_eq.mpr c69
                            have c69b1 : (t263.toList != t265.toList) = false := bne_eq_false_iff_eq.mpr c69
                            clear c69
                            by_cases c70 : x18_2 ≤ 1
                            · rw [if_pos c70] at H
                              have c70b0 : decide (x18_2 ≤ 1) = true := decide_eq_true c70
                              clear c70
                              obtain rfl := Option.some.inj H
                              go_wp2_with (first | ((with_reducible refine gate_callee (f := 14) rfl ?_); refine goesL_ (some 86) rfl rfl Try.func14 (by kernel_rfl) rfl #[] rfl (by (try simp only [List.map_toArray, List.map_cons, List.map_nil]); first | done | rfl | (simp only [List.length_drop, List.length_take]; rfl)) ?_; (with_reducible refine (sextonlaw05_twins.calls  true _ A51.out).mono ?_); rintro e w71 ⟨rfl, hb⟩; refine ⟨_, rfl, ?_⟩; have n0_ := Aside0.mk (Kd.R_below (by (with_reducible repeat (first | apply Kd.R_alloc | apply Kd.R_drewN | apply Kd.R_drew)); exact HO_262000.out) hb); have n1_ := Aside0.mk (Kd.R_below (by (with_reducible repeat (first | apply Kd.R_alloc | apply Kd.R_drewN | apply Kd.R_drew)); exact HO_262001.out) hb); have n2_ := Aside0.mk (blk_below (g := gb251) (o := .cells #[.slice A0_0 l0_0.length c0_0, .slice A0_1 l0_1.length c0_1] 25 (0, 0)) (by (with_reducible repeat (first | refine blk_drewN ?_ _ | refine blk_drew ?_ | refine blk_alloc ?_ _)); exact BK251.out) hb); have n3_ := Aside0.mk (blk_below (g := gb261) (o := .cells #[.slice Ao19 t253.length co19, .slice Ao22 t256.length co22] 25 (0, 0)) (by (with_reducible repeat (first | refine blk_drewN ?_ _ | refine blk_drew ?_ | refine blk_alloc ?_ _)); exact BK261.out) hb); have n4_ := Aside0.mk (below_step (by repeat (first | (with_reducible first | exact HB.out | apply below_alloc | apply pw_below_drewN | apply below_drew1 | refine below_set ?_ GE251.out | refine below_set ?_ GE261.out) | exact HB.out)) hb); clear HO_262000; clear HO_262001; clear BK251; clear BK261; clear HB; have HO_262000 := n0_; have HO_262001 := n1_; have BK251 := n2_; have BK261 := n3_; have HB := n4_; clear n0_ n1_ n2_ n3_ n4_; (try clear hb); (try clear hb2); (try clear hk); (try clear hi); have hnb72 := NB261_251.out; have hnc72 := NB251_261.out; have hcz73_0 : w71.cell? ⟨gb261, 0, none⟩ = some (.slice Ao19 t253.length co19) := (blk_cell BK261.out 0).trans rfl; have hcz73_1 : w71.cell? ⟨gb261, 1, none⟩ = some (.slice Ao22 t256.length co22) := (blk_cell BK261.out 1).trans rfl; have hfz73_0 := blk_frozen BK261.out 0; have hfz73_1 := blk_frozen BK261.out 1; have hcz74_0 : w71.cell? ⟨gb251, 0, none⟩ = some (.slice A0_0 l0_0.length c0_0) := (blk_cell BK251.out 0).trans rfl; have hcz74_1 : w71.cell? ⟨gb251, 1, none⟩ = some (.slice A0_1 l0_1.length c0_1) := (blk_cell BK251.out 1).trans rfl; have hfz74_0 := blk_frozen BK251.out 0; have hfz74_1 := blk_frozen BK251.out 1))
                              go_ret
                              exact ⟨by first | rfl | (simp [errW_none, errW_some] <;> rfl) | (simp [*, errW_none, errW_some] <;> rfl), by repeat (first | (with_reducible first | exact HB.out | apply below_alloc | apply pw_below_drewN | apply below_drew1 | refine below_set ?_ GE251.out | refine below_set ?_ GE261.out) | exact HB.out)⟩
                            · rw [if_neg c70] at H
                              exact absurd (H.trans (congrArg some HRT.out)) (by decide)
                          · rw [if_neg c69] at H
                            exact absurd (H.trans (congrArg some HRT.out)) (by decide)
                    · rw [if_neg c54] at H
                      exact absurd (H.trans (congrArg some HRT.out)) (by decide)
                  · rw [if_neg c53] at H
                    exact absurd (H.trans (congrArg some HRT.out)) (by decide)
                · replace c52 := Bool.eq_false_iff.mpr c52
                  subst c52
                  have H1 : (some false) = some r := by rw [if_neg (show ¬ (false = true) by decide)] at H; exact H
                  exact absurd (H1.trans (congrArg some HRT.out)) (by decide)

end Go.Proofs.Ytkgcaheddhfpgaa.P
/-
  The plain statement of TwinOthers: blocks beside a twin say what they said, whatever is put; one of both is turned, at most.
-/
namespace Go.Proofs.Ytkgcaheddhfpgaa.Pure
open Go.RowKit Go.Proofs Go.Proofs.CodecPlain Go.Proofs.YtkgcaheddhfpgaaW.PrintWords Go.Proofs.YtkgcaheddhfpgaaW.PrintLast Go.Proofs.Ytkgcaheddhfpgaa.P Go.Proofs.Ytkgcaheddhfpgaa.Opens

/-- What a Stop leaves: as many blocks; they say what they said, but for one, at most. -/
theorem stop_leaves {l0 : List ByteArray} {l1 : List S73} {a : Int} (ha : -9223372036854775808 ≤ a ∧ a ≤ 9223372036854775807) {s : ByteArray} {deeds : Int} (h : (stopV l0 l1 a s deeds).2.2.2 = 0) :
    ∃ at_, (at_ = a ∨ at_ = a + 1) ∧ 0 ≤ a ∧ a + 1 < (l0.length : Int) ∧ l0.length ≤ 200 ∧ checkB l0 l1 = true ∧ (stopV l0 l1 a s deeds).1.length = l0.length ∧ checkB (stopV l0 l1 a s deeds).1 (stopV l0 l1 a s deeds).2.1 = true ∧
      ∀ i : Int, 0 ≤ i → i ≠ at_ → rdOf ByteArray.empty (contW (stopV l0 l1 a s deeds).1 (stopV l0 l1 a s deeds).2.1) i = rdOf ByteArray.empty (contW l0 l1) i := by
  obtain ⟨n0, t0, k0, n1, t1, k1, ht, hs, hn, hf⟩ := stop_twin ha h
  have hst := ht.stop s deeds
  rw [if_neg (by omega), if_neg hf] at hst
  obtain ⟨c1, c2⟩ := ht.stopped s hs hf
  have hl := ht.low
  have hh := ht.high
  have hlen := (check_len ht.check).2.1
  have hset : ∀ i : Int, 0 ≤ i → i ≠ nextAt a n0 k0 n1 k1 → rdOf ByteArray.empty ((contW l0 l1).set (nextAt a n0 k0 n1 k1).toNat (frameOf (numStr (newN n0 k0 n1 k1 + 1) ++ s))) i = rdOf ByteArray.empty (contW l0 l1) i := by
    intro i hi hne
    rw [rdOf_set _ _ _ _ (by rcases nextAt_is a n0 k0 n1 k1 with q | q <;> omega) (by rw [contW_length]; rcases nextAt_is a n0 k0 n1 k1 with q | q <;> omega) hi, if_neg hne]
  refine ⟨nextAt a n0 k0 n1 k1, by rcases nextAt_is a n0 k0 n1 k1 with q | q <;> omega, hl, hh, hlen, ht.check, ?_⟩
  rw [hst]
  by_cases h0 : deeds = 0
  · rw [if_pos h0]
    exact ⟨rfl, ht.check, fun _ _ _ => rfl⟩
  · rw [if_neg h0]
    by_cases h1 : deeds = 1
    · rw [if_pos h1]
      refine ⟨rfl, c1, fun i hi hne => ?_⟩
      rw [contW_snoc]
      exact hset i hi hne
    · rw [if_neg h1]
      refine ⟨?_, c2, fun i hi hne => hset i hi hne⟩
      simp only [List.length_set, contW_length]
theorem TwinOthers (l0_0 : List ByteArray) (l0_1 : List S73) (a1 : Int) (a2 : ByteArray) (a3 : Int) (a4 : Int) {okp : Prop} (h0 : okp) (h1 : OkInt .i64 a1) {okq : Prop} (h2 : okq) {okr : Prop} (h3 : okr) (h4 : OkInt .i64 a4) : ∃ k, sextonlaw05_TwinOthers.f k l0_0 l0_1 a1 a2 a3 a4 = some true := by
  have ha : -9223372036854775808 ≤ a1 ∧ a1 ≤ 9223372036854775807 := by
    simp only [OkInt, Lit.wf, Bool.and_eq_true, decide_eq_true_eq] at h1
    exact h1
  have ha4 : -9223372036854775808 ≤ a4 ∧ a4 ≤ 9223372036854775807 := by
    simp only [OkInt, Lit.wf, Bool.and_eq_true, decide_eq_true_eq] at h4
    exact h4
  obtain ⟨b, K, e⟩ := far5_ends l0_0 l0_1 a2
  refine ⟨K + 6, ?_⟩
  unfold sextonlaw05_TwinOthers.f
  have out : ∀ k b u c v, sextonlaw05_TwinOthers.j0 (k + 1) a1 a4 true b u c v = some true := fun k b u c v => by
    simp only [sextonlaw05_TwinOthers.j0, sextonlaw05_twins.f]
    rw [if_pos trivial]
    rfl
  have e' := e (K + 6) (by omega)
  simp only at e'
  rw [e', Option.bind_some]
  cases b
  rotate_left
  · rw [if_pos rfl]
  rw [if_neg (by decide)]
  unfold twin_Stop.f
  rw [if_pos ha, Option.bind_some]
  by_cases hst : (stopV l0_0 l0_1 a1 a2 a3).2.2.2 = 0
  rotate_left
  · rw [if_neg hst]; exact out (K + 5) _ _ _ _
  rw [if_pos hst]
  by_cases h40 : a4 < 0
  · rw [if_pos h40]; exact out (K + 5) _ _ _ _
  rw [if_neg h40]
  by_cases h41 : a4 ≥ (l0_0.length : Int)
  · rw [decide_eq_true h41]; exact out (K + 5) _ _ _ _
  rw [decide_eq_false h41]
  obtain ⟨at_, hat, hl, hh, hlen, hck, hlen2, hck2, hsame⟩ := stop_leaves ha hst
  have hr : ∀ i : Int, 0 ≤ i → i < (l0_0.length : Int) → disk_Read.f l0_0 l0_1 i = some (rdOf ByteArray.empty (contW l0_0 l0_1) i, 0) := fun i q0 q1 => by rw [read_f, readV_at hck q0 q1]
  have hr2 : ∀ i : Int, 0 ≤ i → i < (l0_0.length : Int) → disk_Read.f (stopV l0_0 l0_1 a1 a2 a3).1 (stopV l0_0 l0_1 a1 a2 a3).2.1 i = some (rdOf ByteArray.empty (contW (stopV l0_0 l0_1 a1 a2 a3).1 (stopV l0_0 l0_1 a1 a2 a3).2.1) i, 0) := fun i q0 q1 => by rw [read_f, readV_at hck2 q0 (by omega)]
  have hfin : ∀ k (x y : ByteArray) (t : Int), t ≤ 1 → (a4 = a1 ∨ a4 - 1 = a1 ∨ x = y) → sextonlaw05_TwinOthers.l0 (k + 1) a1 a4 x 0 y 0 t (a1 + 2) l0_0 l0_1 (stopV l0_0 l0_1 a1 a2 a3).1 (stopV l0_0 l0_1 a1 a2 a3).2.1 = some true := by
    intro k x y t htt hor
    simp only [sextonlaw05_TwinOthers.l0, sextonlaw05_twins.f]
    rw [wrap_at (x := a1 + 2) (by omega) (by omega), if_neg (by omega), Option.bind_some, if_pos rfl, if_pos trivial, if_pos trivial, hlen2, wrap_at (x := a4 - 1) (by omega) (by omega)]
    by_cases p1 : a4 = a1
    · rw [if_pos p1, if_pos htt]; simp
    · rw [if_neg p1]
      by_cases p2 : a4 - 1 = a1
      · rw [if_pos p2, if_pos htt]; simp
      · rw [if_neg p2, if_pos (by rcases hor with q | q | q <;> first | omega | rw [q]), if_pos htt]; simp
  simp only [sextonlaw05_TwinOthers.j0]
  rw [if_neg (by decide), hr a4 (by omega) (by omega), Option.bind_some, hr2 a4 (by omega) (by omega), Option.bind_some]
  have hor : a4 = a1 ∨ a4 - 1 = a1 ∨ rdOf ByteArray.empty (contW l0_0 l0_1) a4 = rdOf ByteArray.empty (contW (stopV l0_0 l0_1 a1 a2 a3).1 (stopV l0_0 l0_1 a1 a2 a3).2.1) a4 := by
    by_cases q1 : a4 = a1
    · exact .inl q1
    · by_cases q2 : a4 - 1 = a1
      · exact .inr (.inl q2)
      · exact .inr (.inr (hsame a4 (by omega) (by omega)).symm)
  generalize rdOf ByteArray.empty (contW l0_0 l0_1) a4 = X at hor ⊢
  generalize rdOf ByteArray.empty (contW (stopV l0_0 l0_1 a1 a2 a3).1 (stopV l0_0 l0_1 a1 a2 a3).2.1) a4 = Y at hor ⊢
  have hstep : ∀ k (x y : ByteArray) (t i : Int), 0 ≤ i → i < a1 + 2 → sextonlaw05_TwinOthers.l0 (k + 1) a1 a4 x 0 y 0 t i l0_0 l0_1 (stopV l0_0 l0_1 a1 a2 a3).1 (stopV l0_0 l0_1 a1 a2 a3).2.1 = if (rdOf ByteArray.empty (contW l0_0 l0_1) i).toList = (rdOf ByteArray.empty (contW (stopV l0_0 l0_1 a1 a2 a3).1 (stopV l0_0 l0_1 a1 a2 a3).2.1) i).toList then sextonlaw05_TwinOthers.l0 k a1 a4 x 0 y 0 t (i + 1) l0_0 l0_1 (stopV l0_0 l0_1 a1 a2 a3).1 (stopV l0_0 l0_1 a1 a2 a3).2.1 else sextonlaw05_TwinOthers.l0 k a1 a4 x 0 y 0 (wrap64 (t + 1)) (i + 1) l0_0 l0_1 (stopV l0_0 l0_1 a1 a2 a3).1 (stopV l0_0 l0_1 a1 a2 a3).2.1 := by
    intro k x y t i q0 q1
    simp only [sextonlaw05_TwinOthers.l0]
    rw [wrap_at (x := a1 + 2) (by omega) (by omega), if_pos q1, hr i q0 (by omega), Option.bind_some, hr2 i q0 (by omega), Option.bind_some, wrap_at (x := i + 1) (by omega) (by omega)]
  have w1 : wrap64 (0 + 1) = 1 := by unfold wrap64; omega
  rw [hstep _ _ _ _ _ (by omega) (by omega)]
  have h1 : ∀ b, (∀ i : Int, 0 ≤ i → i ≠ b → rdOf ByteArray.empty (contW (stopV l0_0 l0_1 a1 a2 a3).1 (stopV l0_0 l0_1 a1 a2 a3).2.1) i = rdOf ByteArray.empty (contW l0_0 l0_1) i) → b = a1 ∨ b = a1 + 1 → rdOf ByteArray.empty (contW l0_0 l0_1) a1 = rdOf ByteArray.empty (contW (stopV l0_0 l0_1 a1 a2 a3).1 (stopV l0_0 l0_1 a1 a2 a3).2.1) a1 ∨ rdOf ByteArray.empty (contW l0_0 l0_1) (a1 + 1) = rdOf ByteArray.empty (contW (stopV l0_0 l0_1 a1 a2 a3).1 (stopV l0_0 l0_1 a1 a2 a3).2.1) (a1 + 1) := by
    intro b hb hor
    rcases hor with q | q
    · exact .inr (hb (a1 + 1) (by omega) (by omega)).symm
    · exact .inl (hb a1 (by omega) (by omega)).symm
  rcases h1 _ hsame hat with q | q
  · rw [if_pos (congrArg ByteArray.toList q), hstep _ _ _ _ _ (by omega) (by omega), w1, show a1 + 1 + 1 = a1 + 2 by omega]
    split
    · exact hfin _ _ _ _ (by omega) hor
    · exact hfin _ _ _ _ (by omega) hor
  · rw [hstep _ _ _ 0 (a1 + 1) (by omega) (by omega), hstep _ _ _ (wrap64 (0 + 1)) (a1 + 1) (by omega) (by omega), if_pos (congrArg ByteArray.toList q), if_pos (congrArg ByteArray.toList q), w1, show a1 + 1 + 1 = a1 + 2 by omega]
    split
    · exact hfin _ _ _ _ (by omega) hor
    · exact hfin _ _ _ _ (by omega) hor
end Go.Proofs.Ytkgcaheddhfpgaa.Pure
