/-
  The walk and the plain statement of TwinRow, joined.
-/
import Derived.Test.YtkgcaheddhfpgaaPx0
import Derived.Test.YtkgcaheddhfpgaaC05d
import Derived.Test.YtkgcaheddhfpgaaC05b
import Derived.Test.YtkgcaheddhfpgaaC05e
import Derived.Test.YtkgcaheddhfpgaaC05g
import Derived.Test.YtkgcaheddhfpgaaC05h
set_option linter.unusedVariables false
set_option linter.unusedSimpArgs false
/-
  The walk of TwinRow, by the print; the ways that would answer false are closed.
-/
namespace Go.Proofs.Ytkgcaheddhfpgaa.P
open Go.RowKit Go.Proofs.YtkgcaheddhfpgaaW.PrintWords Go.Proofs.YtkgcaheddhfpgaaW.PrintLast Go.Proofs.YtkgcaheddhfpgaaW.PrintMore
attribute [local go_sem] max2_int min2_int max_two min_two max_three min_three max_four min_four   -- for this text's walks alone
set_option linter.unusedVariables false
set_option linter.unusedSimpArgs false

/-! ### sextonlaw05_TwinRow: function 5 -/
mutual
def sextonlaw05_TwinRow.j0 : Nat → List ByteArray → List Int → List (List Bool) → Bool → List ByteArray → List (S73) → Option (Bool)
  | 0, _, _, _, _, _, _ => none
  | k + 1, x0, x1, x2, x35, x220000, x220001 => if x35 = true then ((sextonlaw05_twins.f).bind fun t220 => (some t220)) else (sextonlaw05_TwinRow.l0 k x0 x1 x2 (⟨#[]⟩ : ByteArray) 0 x220000 x220001)
def sextonlaw05_TwinRow.l0 : Nat → List ByteArray → List Int → List (List Bool) → ByteArray → Int → List ByteArray → List (S73) → Option (Bool)
  | 0, _, _, _, _, _, _, _ => none
  | k + 1, x0, x1, x2, x9, x10, x220000, x220001 => if x10 < (x0.length : Int) then (if 0 ≤ x10 then (if ((rdOf ByteArray.empty x0 x10).size : Int) > 200 then (sextonlaw05_TwinRow.j2 k x0 x1 x2 x9 x10 true x220000 x220001) else (sextonlaw05_TwinRow.j2 k x0 x1 x2 x9 x10 (decide (x10 ≥ (x1.length : Int))) x220000 x220001)) else (none)) else ((sextonlaw05_twins.f).bind fun t221 => (some t221))
def sextonlaw05_TwinRow.j2 : Nat → List ByteArray → List Int → List (List Bool) → ByteArray → Int → Bool → List ByteArray → List (S73) → Option (Bool)
  | 0, _, _, _, _, _, _, _, _ => none
  | k + 1, x0, x1, x2, x9, x10, x54, x220000, x220001 => if x54 = true then ((sextonlaw05_twins.f).bind fun t223 => (some t223)) else (if 0 ≤ x10 then (if x10 < (x0.length : Int) then (if x10 < (x1.length : Int) then ((twin_Stop.f x220000 x220001 0 (rdOf ByteArray.empty x0 x10) (rd x1 x10)).bind fun bt226 => (if x10 < (x2.length : Int) then (if ([] : List Bool).length + (rd_L8 x2 x10).length < 140737488355328 then (sextonlaw05_TwinRow.j3 k x0 x1 x2 x9 x10 bt226.2.2.1 bt226.2.2.2 (([] : List Bool) ++ (rd_L8 x2 x10)) bt226.1 bt226.2.1) else (none)) else (sextonlaw05_TwinRow.j3 k x0 x1 x2 x9 x10 bt226.2.2.1 bt226.2.2.2 ([] : List Bool) bt226.1 bt226.2.1))) else (none)) else (none)) else (none))
def sextonlaw05_TwinRow.j3 : Nat → List ByteArray → List Int → List (List Bool) → ByteArray → Int → Bool → Int → List Bool → List ByteArray → List (S73) → Option (Bool)
  | 0, _, _, _, _, _, _, _, _, _, _ => none
  | k + 1, x0, x1, x2, x9, x10, x12, x13, x14, x235000, x235001 => (disk_Crash.f x235000 x235001 x14).bind fun bt239 => ((twin_Get.f bt239.1 bt239.2.1 0).bind fun bt247 => (if x13 = 0 then (if bt239.2.2 = 0 then (if bt247.2.2 = 0 then (if 0 ≤ x10 then (if x10 < (x0.length : Int) then (if bt247.1.toList = (rdOf ByteArray.empty x0 x10).toList then (sextonlaw05_TwinRow.l0 k x0 x1 x2 bt247.1 (wrap64 (x10 + 1)) bt239.1 bt239.2.1) else (if x12 = true then (some false) else (if bt247.1.toList = x9.toList then (sextonlaw05_TwinRow.l0 k x0 x1 x2 bt247.1 (wrap64 (x10 + 1)) bt239.1 bt239.2.1) else (some false)))) else (none)) else (none)) else (some false)) else (some false)) else (some false)))
end
def sextonlaw05_TwinRow.f (k : Nat) (l0 : List ByteArray) (l1 : List Int) (l2 : List (List Bool)) : Option (Bool) := (disk_New.f 2).bind fun bt212 => (if bt212.2.2 = 0 then (if (l0.length : Int) > 20 then (sextonlaw05_TwinRow.j0 k l0 l1 l2 true bt212.1 bt212.2.1) else (sextonlaw05_TwinRow.j0 k l0 l1 l2 (decide ((l2.length : Int) > 30)) bt212.1 bt212.2.1)) else (sextonlaw05_TwinRow.j0 k l0 l1 l2 true bt212.1 bt212.2.1))
theorem sextonlaw05_TwinRow.mono_l : ∀ k, (∀ y0 y1 y2 y3 y4 y5, LeO (sextonlaw05_TwinRow.j0 k y0 y1 y2 y3 y4 y5) (sextonlaw05_TwinRow.j0 (k + 1) y0 y1 y2 y3 y4 y5)) ∧ (∀ y0 y1 y2 y3 y4 y5 y6, LeO (sextonlaw05_TwinRow.l0 k y0 y1 y2 y3 y4 y5 y6) (sextonlaw05_TwinRow.l0 (k + 1) y0 y1 y2 y3 y4 y5 y6)) ∧ (∀ y0 y1 y2 y3 y4 y5 y6 y7, LeO (sextonlaw05_TwinRow.j2 k y0 y1 y2 y3 y4 y5 y6 y7) (sextonlaw05_TwinRow.j2 (k + 1) y0 y1 y2 y3 y4 y5 y6 y7)) ∧ (∀ y0 y1 y2 y3 y4 y5 y6 y7 y8 y9, LeO (sextonlaw05_TwinRow.j3 k y0 y1 y2 y3 y4 y5 y6 y7 y8 y9) (sextonlaw05_TwinRow.j3 (k + 1) y0 y1 y2 y3 y4 y5 y6 y7 y8 y9))
  | 0 => ⟨fun _ _ _ _ _ _ r h => by simp [sextonlaw05_TwinRow.j0] at h, fun _ _ _ _ _ _ _ r h => by simp [sextonlaw05_TwinRow.l0] at h, fun _ _ _ _ _ _ _ _ r h => by simp [sextonlaw05_TwinRow.j2] at h, fun _ _ _ _ _ _ _ _ _ _ r h => by simp [sextonlaw05_TwinRow.j3] at h⟩
  | k + 1 => by
    obtain ⟨ih0, ih1, ih2, ih3⟩ := sextonlaw05_TwinRow.mono_l k
    refine ⟨?_, ?_, ?_, ?_⟩
    · intro y0 y1 y2 y3 y4 y5
      unfold sextonlaw05_TwinRow.j0
      repeat' first
      | (with_reducible exact ih0 _ _ _ _ _ _)
      | (with_reducible exact ih1 _ _ _ _ _ _ _)
      | (with_reducible exact ih2 _ _ _ _ _ _ _ _)
      | (with_reducible exact ih3 _ _ _ _ _ _ _ _ _ _)
      | (with_reducible exact LeO.refl _)
      | (with_reducible exact LeO.none _)
      | (with_reducible refine LeO.ite ?_ ?_)
      | (with_reducible refine LeO.bind ?_ (fun _ => ?_))
      | exact ih0 _ _ _ _ _ _
      | exact ih1 _ _ _ _ _ _ _
      | exact ih2 _ _ _ _ _ _ _ _
      | exact ih3 _ _ _ _ _ _ _ _ _ _
      | exact LeO.none _
      | refine LeO.ite ?_ ?_
      | refine LeO.bind ?_ (fun _ => ?_)
    · intro y0 y1 y2 y3 y4 y5 y6
      unfold sextonlaw05_TwinRow.l0
      repeat' first
      | (with_reducible exact ih0 _ _ _ _ _ _)
      | (with_reducible exact ih1 _ _ _ _ _ _ _)
      | (with_reducible exact ih2 _ _ _ _ _ _ _ _)
      | (with_reducible exact ih3 _ _ _ _ _ _ _ _ _ _)
      | (with_reducible exact LeO.refl _)
      | (with_reducible exact LeO.none _)
      | (with_reducible refine LeO.ite ?_ ?_)
      | (with_reducible refine LeO.bind ?_ (fun _ => ?_))
      | exact ih0 _ _ _ _ _ _
      | exact ih1 _ _ _ _ _ _ _
      | exact ih2 _ _ _ _ _ _ _ _
      | exact ih3 _ _ _ _ _ _ _ _ _ _
      | exact LeO.none _
      | refine LeO.ite ?_ ?_
      | refine LeO.bind ?_ (fun _ => ?_)
    · intro y0 y1 y2 y3 y4 y5 y6 y7
      unfold sextonlaw05_TwinRow.j2
      repeat' first
      | (with_reducible exact ih0 _ _ _ _ _ _)
      | (with_reducible exact ih1 _ _ _ _ _ _ _)
      | (with_reducible exact ih2 _ _ _ _ _ _ _ _)
      | (with_reducible exact ih3 _ _ _ _ _ _ _ _ _ _)
      | (with_reducible exact LeO.refl _)
      | (with_reducible exact LeO.none _)
      | (with_reducible refine LeO.ite ?_ ?_)
      | (with_reducible refine LeO.bind ?_ (fun _ => ?_))
      | exact ih0 _ _ _ _ _ _
      | exact ih1 _ _ _ _ _ _ _
      | exact ih2 _ _ _ _ _ _ _ _
      | exact ih3 _ _ _ _ _ _ _ _ _ _
      | exact LeO.none _
      | refine LeO.ite ?_ ?_
      | refine LeO.bind ?_ (fun _ => ?_)
    · intro y0 y1 y2 y3 y4 y5 y6 y7 y8 y9
      unfold sextonlaw05_TwinRow.j3
      repeat' first
      | (with_reducible exact ih0 _ _ _ _ _ _)
      | (with_reducible exact ih1 _ _ _ _ _ _ _)
      | (with_reducible exact ih2 _ _ _ _ _ _ _ _)
      | (with_reducible exact ih3 _ _ _ _ _ _ _ _ _ _)
      | (with_reducible exact LeO.refl _)
      | (with_reducible exact LeO.none _)
      | (with_reducible refine LeO.ite ?_ ?_)
      | (with_reducible refine LeO.bind ?_ (fun _ => ?_))
      | exact ih0 _ _ _ _ _ _
      | exact ih1 _ _ _ _ _ _ _
      | exact ih2 _ _ _ _ _ _ _ _
      | exact ih3 _ _ _ _ _ _ _ _ _ _
      | exact LeO.none _
      | refine LeO.ite ?_ ?_
      | refine LeO.bind ?_ (fun _ => ?_)
theorem sextonlaw05_TwinRow.mono : ∀ a0 a1 a2 k, LeO (sextonlaw05_TwinRow.f k a0 a1 a2) (sextonlaw05_TwinRow.f (k + 1) a0 a1 a2) := by
  intro a0 a1 a2 k
  obtain ⟨ih0, ih1, ih2, ih3⟩ := sextonlaw05_TwinRow.mono_l k
  unfold sextonlaw05_TwinRow.f
  repeat' first
      | (with_reducible exact ih0 _ _ _ _ _ _)
      | (with_reducible exact ih1 _ _ _ _ _ _ _)
      | (with_reducible exact ih2 _ _ _ _ _ _ _ _)
      | (with_reducible exact ih3 _ _ _ _ _ _ _ _ _ _)
      | (with_reducible exact LeO.refl _)
      | (with_reducible exact LeO.none _)
      | (with_reducible refine LeO.ite ?_ ?_)
      | (with_reducible refine LeO.bind ?_ (fun _ => ?_))
      | exact ih0 _ _ _ _ _ _
      | exact ih1 _ _ _ _ _ _ _
      | exact ih2 _ _ _ _ _ _ _ _
      | exact ih3 _ _ _ _ _ _ _ _ _ _
      | exact LeO.none _
      | refine LeO.ite ?_ ?_
      | refine LeO.bind ?_ (fun _ => ?_)
def sextonlaw05_TwinRow.T10 : Bool × List (List Nat × List Nat) := (true, [([], []), ([], []), ([], []), ([1, 2], [1, 2]), ([3], [3]), ([], []), ([], []), ([5, 6], [5, 6]), ([7], [7]), ([0, 4, 8], [0, 4, 8]), ([9], [9]), ([10], [10]), ([10], [10]), ([10], [10]), ([], []), ([14, 11, 9, 0, 1, 2, 3, 4, 5, 6, 7, 8, 9, 10, 11, 14], [11, 14]), ([12, 15, 0, 1, 2, 3, 4, 5, 6, 7, 8, 9, 10, 11, 12, 14, 15], [12]), ([13, 16, 0, 1, 2, 3, 4, 5, 6, 7, 8, 9, 10, 11, 12, 13, 14, 15, 16], [13])])
def sextonlaw05_TwinRow.B10 : List Nat := [0, 0, 0, 6, 14, 0, 0, 96, 224, 511, 1023, 2047, 2047, 2047, 0, 20479, 57343, 131071]
theorem sextonlaw05_TwinRow.tab10 : rtab .any (opsOf Try.f5 10) = sextonlaw05_TwinRow.T10 := by kernel_rfl
theorem sextonlaw05_TwinRow.bits10 : waitsOk sextonlaw05_TwinRow.T10.2 sextonlaw05_TwinRow.B10 = true := by kernel_rfl
set_option maxHeartbeats 8000000 in
set_option maxRecDepth 100000 in
theorem sextonlaw05_TwinRow.calls (k : Nat) (A0 : Option Addr) (c0 : Nat) (l0 : List ByteArray) (A1 : Option Addr) (c1 : Nat) (l1 : List Int) (A2 : Option Addr) (c2 : Nat) (l2 : List (List Bool)) (r : Bool) (hrt : r = true := by rfl) (w : World) (hr0 : Kd.C Kd.string w A0 l0.length l0) (hc0 : l0.length ≤ c0) (hr1 : Kd.C (Kd.int .i64) w A1 l1.length l1) (hc1 : l1.length ≤ c1) (hr2 : Kd.C (Kd.slice 4 Kd.bool) w A2 l2.length l2) (hc2 : l2.length ≤ c2) (h : sextonlaw05_TwinRow.f k l0 l1 l2 = some r) :
    Calls Try.prog 5 #[.slice A0 l0.length c0, .slice A1 l1.length c1, .slice A2 l2.length c2] w fun e w' => e = .returned (.bool r) ∧ Below w.heap.size w w' := by
  have HRT := Aside0.mk hrt
  have hu25 := Try.underlying25
  have HR0 := Aside0.mk hr0
  have HC0 := Aside0.mk hc0
  clear hr0 hc0
  have HR1 := Aside0.mk hr1
  have HC1 := Aside0.mk hc1
  clear hr1 hc1
  have HR2 := Aside0.mk hr2
  have HC2 := Aside0.mk hc2
  clear hr2 hc2
  have HB := Aside0.mk (Below.refl w.heap.size w)
  have H : ((disk_New.f 2).bind fun bt212 => (if bt212.2.2 = 0 then (if (l0.length : Int) > 20 then (sextonlaw05_TwinRow.j0 k l0 l1 l2 true bt212.1 bt212.2.1) else (sextonlaw05_TwinRow.j0 k l0 l1 l2 (decide ((l2.length : Int) > 30)) bt212.1 bt212.2.1)) else (sextonlaw05_TwinRow.j0 k l0 l1 l2 true bt212.1 bt212.2.1))) = some r := h
  clear h
  replace H := Option.bind_eq_some_iff.mp H
  obtain ⟨⟨t212, t215, t218⟩, A40, H⟩ := H
  replace H : (if t218 = 0 then (if (l0.length : Int) > 20 then (sextonlaw05_TwinRow.j0 k l0 l1 l2 true t212 t215) else (sextonlaw05_TwinRow.j0 k l0 l1 l2 (decide ((l2.length : Int) > 30)) t212 t215)) else (sextonlaw05_TwinRow.j0 k l0 l1 l2 true t212 t215)) = some r := H
  have A4 := Aside0.mk A40
  clear A40
  have HC5 := Aside0.mk H
  clear H
  go_enter Try.func5, Try.ntmps5
  go_upto_region 2 with (first | ((with_reducible refine gate_callee (f := 17) rfl ?_); refine goesL_ (some 21) rfl rfl Try.func17 (by kernel_rfl) rfl #[.int .i64 2] rfl (by (try simp only [List.map_toArray, List.map_cons, List.map_nil]); first | done | rfl | (simp only [List.length_drop, List.length_take]; rfl)) ?_; (with_reducible refine (disk_New.calls 2 t212 t215 t218 _ A4.out).mono ?_); rintro e w6 ⟨v213, v216, rfl, ho0, ho1, hb⟩; refine ⟨_, rfl, ?_⟩; have n0_ := Aside0.mk (Kd.R_lower ho0 (below_size (by repeat (first | (with_reducible first | exact HB.out | apply below_alloc | apply pw_below_drewN | apply below_drew1) | exact HB.out)))); have n1_ := Aside0.mk (Kd.R_lower ho1 (below_size (by repeat (first | (with_reducible first | exact HB.out | apply below_alloc | apply pw_below_drewN | apply below_drew1) | exact HB.out)))); have n2_ := Aside0.mk (below_step (by repeat (first | (with_reducible first | exact HB.out | apply below_alloc | apply pw_below_drewN | apply below_drew1) | exact HB.out)) hb); clear HB; have HO214 := n0_; have HO217 := n1_; have HB := n2_; clear n0_ n1_ n2_; (try clear hb); (try clear hb2); (try clear hk); (try clear hi); (try clear ho0); (try clear ho1)) | ((with_reducible refine gate_dst (N := 7) rfl ?_); (try (refine gate_guard (by rfl) ?_; dsimp only)); refine box_event ?hg (N := 7) ?hd (cs := #[.slice none 0 0, .slice none 0 0]) (t := 25) ?hr ?_; (case hd => rfl); (case hg => rfl); (case hr => first | (go_simp; done) | (go_simp; rfl)); intro gb219 hg w7 hbox hb; have n0_ := Aside0.mk (Kd.R_below (by (with_reducible repeat (first | apply Kd.R_alloc | apply Kd.R_drewN | apply Kd.R_drew)); exact HO214.out) hb); have n1_ := Aside0.mk (Kd.R_below (by (with_reducible repeat (first | apply Kd.R_alloc | apply Kd.R_drewN | apply Kd.R_drew)); exact HO217.out) hb); have n2_ := Aside0.mk (below_step (by repeat (first | (with_reducible first | exact HB.out | apply below_alloc | apply pw_below_drewN | apply below_drew1) | exact HB.out)) hb); have n3_ := Aside0.mk (hbox); have n4_ := Aside0.mk ((by rw [hg]; exact (below_size (by repeat (first | (with_reducible first | exact HB.out | apply below_alloc | apply pw_below_drewN | apply below_drew1) | exact HB.out))) : w.heap.size ≤ gb219)); have n5_ := Aside0.mk ((by rw [hg]; exact (below_size (by repeat (first | (with_reducible first | exact HB.out | apply below_alloc | apply pw_below_drewN | apply below_drew1) | exact HB.out))) : w.heap.size ≤ gb219)); clear HO214; clear HO217; clear HB; have HO214 := n0_; have HO217 := n1_; have HB := n2_; have BK219 := n3_; have GW219 := n4_; have GE219 := n5_; clear n0_ n1_ n2_ n3_ n4_ n5_; clear hb hbox hg; obtain ⟨Ao8, co8, eo8⟩ := Kd.R_slice HO214.out; subst eo8; have hcz9_0 : w7.cell? ⟨gb219, 0, none⟩ = some (.slice none 0 0) := (blk_cell BK219.out 0).trans rfl; have hcz9_1 : w7.cell? ⟨gb219, 1, none⟩ = some (.slice none 0 0) := (blk_cell BK219.out 1).trans rfl; have hfz9_0 := blk_frozen BK219.out 0; have hfz9_1 := blk_frozen BK219.out 1; obtain ⟨Ao10, co10, eo10⟩ := Kd.R_slice HO217.out; subst eo10))
  (try simp only [Act.put, List.setIfInBounds_toArray, List.set_cons_zero, List.set_cons_succ])
  go_cut [35] (fun v35 wc => ∃ (kq : Nat) (x35_4 : Bool), v35 = .bool x35_4 ∧ Aside0 (sextonlaw05_TwinRow.j0 kq l0 l1 l2 x35_4 t212 t215 = some r) ∧ Aside0 (kq ≤ k) ∧ Aside0 (Kd.R Kd.string 9 wc w.heap.size (fun _ => True) (.slice Ao8 t212.length co8) t212) ∧ Aside0 (Kd.R k73 73 wc w.heap.size (fun _ => True) (.slice Ao10 t215.length co10) t215) ∧ Aside0 (wc.heap[gb219]? = some (.cells #[(.slice Ao8 t212.length co8), (.slice Ao10 t215.length co10)] 25 (0, 0))) ∧ Aside0 (Below w.heap.size w wc))
  case first =>
    have H := HC5.out
    clear HC5
    by_cases c11 : t218 = 0
    · rw [if_pos c11] at H
      have c11b0 : (t218 == 0) = true := beq_iff_eq.mpr c11
      have c11b1 : (t218 != 0) = false := bne_eq_false_iff_eq.mpr c11
      clear c11
      (first | rw [c11b0] | (simp only [i64_w, i32_w]; rw [c11b0]) | skip)
      by_cases c12 : (l0.length : Int) > 20
      · rw [if_pos c12] at H
        have c12b0 : decide (20 < (l0.length : Int)) = true := decide_eq_true c12
        have c12b1 : decide (20 < l0.length) = true := decide_eq_true (by omega)
        clear c12
        have H' := Aside0.mk H
        clear H
        go_wp2
        go_meet
        case rel => exact ⟨_, (true), (by first | rfl | (simp; done) | (simp [*]; done)), H', ⟨by first | omega | exact Nat.le_refl _⟩, ⟨by (with_reducible repeat (first | apply Kd.R_alloc | apply Kd.R_drewN | apply Kd.R_drew)); exact Kd.R_mono (Kd.R_far (p := ⟨gb219, 1, none⟩) (Kd.R_far (p := ⟨gb219, 0, none⟩) (Kd.R_types HO214.out BK219.out (by decide)) (fun _ hk => hk.2) (.slice Ao8 t212.length co8)) (fun _ hk => hk.2) (.slice Ao10 t215.length co10)) (fun _ hk => trivial)⟩, ⟨by (with_reducible repeat (first | apply Kd.R_alloc | apply Kd.R_drewN | apply Kd.R_drew)); exact Kd.R_mono (Kd.R_far (p := ⟨gb219, 1, none⟩) (Kd.R_far (p := ⟨gb219, 0, none⟩) (Kd.R_types HO217.out BK219.out (by decide)) (fun _ hk => hk.2) (.slice Ao8 t212.length co8)) (fun _ hk => hk.2) (.slice Ao10 t215.length co10)) (fun _ hk => trivial)⟩, ⟨by (with_reducible repeat (first | refine blk_drewN ?_ _ | refine blk_drew ?_ | refine blk_alloc ?_ _)); refine blk_put (cs := #[.slice Ao8 t212.length co8, .slice none 0 0]) ?_ 1 _ rfl; (with_reducible repeat (first | refine blk_drewN ?_ _ | refine blk_drew ?_ | refine blk_alloc ?_ _)); refine blk_put (cs := #[.slice none 0 0, .slice none 0 0]) ?_ 0 _ rfl; (with_reducible repeat (first | refine blk_drewN ?_ _ | refine blk_drew ?_ | refine blk_alloc ?_ _)); exact BK219.out⟩, ⟨by repeat (first | (with_reducible first | exact HB.out | apply below_alloc | apply pw_below_drewN | apply below_drew1 | refine below_set ?_ GE219.out) | exact HB.out)⟩⟩
      · rw [if_neg c12] at H
        have c12b0 : decide (20 < (l0.length : Int)) = false := decide_eq_false c12
        have c12b1 : decide (20 < l0.length) = false := decide_eq_false (by omega)
        clear c12
        have H' := Aside0.mk H
        clear H
        go_wp2
        go_meet
        case rel => exact ⟨_, (decide ((l2.length : Int) > 30)), (by first | rfl | (simp; done) | (simp [*]; done)), H', ⟨by first | omega | exact Nat.le_refl _⟩, ⟨by (with_reducible repeat (first | apply Kd.R_alloc | apply Kd.R_drewN | apply Kd.R_drew)); exact Kd.R_mono (Kd.R_far (p := ⟨gb219, 1, none⟩) (Kd.R_far (p := ⟨gb219, 0, none⟩) (Kd.R_types HO214.out BK219.out (by decide)) (fun _ hk => hk.2) (.slice Ao8 t212.length co8)) (fun _ hk => hk.2) (.slice Ao10 t215.length co10)) (fun _ hk => trivial)⟩, ⟨by (with_reducible repeat (first | apply Kd.R_alloc | apply Kd.R_drewN | apply Kd.R_drew)); exact Kd.R_mono (Kd.R_far (p := ⟨gb219, 1, none⟩) (Kd.R_far (p := ⟨gb219, 0, none⟩) (Kd.R_types HO217.out BK219.out (by decide)) (fun _ hk => hk.2) (.slice Ao8 t212.length co8)) (fun _ hk => hk.2) (.slice Ao10 t215.length co10)) (fun _ hk => trivial)⟩, ⟨by (with_reducible repeat (first | refine blk_drewN ?_ _ | refine blk_drew ?_ | refine blk_alloc ?_ _)); refine blk_put (cs := #[.slice Ao8 t212.length co8, .slice none 0 0]) ?_ 1 _ rfl; (with_reducible repeat (first | refine blk_drewN ?_ _ | refine blk_drew ?_ | refine blk_alloc ?_ _)); refine blk_put (cs := #[.slice none 0 0, .slice none 0 0]) ?_ 0 _ rfl; (with_reducible repeat (first | refine blk_drewN ?_ _ | refine blk_drew ?_ | refine blk_alloc ?_ _)); exact BK219.out⟩, ⟨by repeat (first | (with_reducible first | exact HB.out | apply below_alloc | apply pw_below_drewN | apply below_drew1 | refine below_set ?_ GE219.out) | exact HB.out)⟩⟩
    · rw [if_neg c11] at H
      have c11b0 : (t218 == 0) = false := beq_eq_false_iff_ne.mpr c11
      have c11b1 : (t218 != 0) = true := bne_iff_ne.mpr c11
      (first | rw [c11b0] | (simp only [i64_w, i32_w]; rw [c11b0]) | skip)
      have H' := Aside0.mk H
      clear H
      go_wp2
      go_meet
      case rel => exact ⟨_, (true), (by first | rfl | (simp; done) | (simp [*]; done)), H', ⟨by first | omega | exact Nat.le_refl _⟩, ⟨by (with_reducible repeat (first | apply Kd.R_alloc | apply Kd.R_drewN | apply Kd.R_drew)); exact Kd.R_mono (Kd.R_far (p := ⟨gb219, 1, none⟩) (Kd.R_far (p := ⟨gb219, 0, none⟩) (Kd.R_types HO214.out BK219.out (by decide)) (fun _ hk => hk.2) (.slice Ao8 t212.length co8)) (fun _ hk => hk.2) (.slice Ao10 t215.length co10)) (fun _ hk => trivial)⟩, ⟨by (with_reducible repeat (first | apply Kd.R_alloc | apply Kd.R_drewN | apply Kd.R_drew)); exact Kd.R_mono (Kd.R_far (p := ⟨gb219, 1, none⟩) (Kd.R_far (p := ⟨gb219, 0, none⟩) (Kd.R_types HO217.out BK219.out (by decide)) (fun _ hk => hk.2) (.slice Ao8 t212.length co8)) (fun _ hk => hk.2) (.slice Ao10 t215.length co10)) (fun _ hk => trivial)⟩, ⟨by (with_reducible repeat (first | refine blk_drewN ?_ _ | refine blk_drew ?_ | refine blk_alloc ?_ _)); refine blk_put (cs := #[.slice Ao8 t212.length co8, .slice none 0 0]) ?_ 1 _ rfl; (with_reducible repeat (first | refine blk_drewN ?_ _ | refine blk_drew ?_ | refine blk_alloc ?_ _)); refine blk_put (cs := #[.slice none 0 0, .slice none 0 0]) ?_ 0 _ rfl; (with_reducible repeat (first | refine blk_drewN ?_ _ | refine blk_drew ?_ | refine blk_alloc ?_ _)); exact BK219.out⟩, ⟨by repeat (first | (with_reducible first | exact HB.out | apply below_alloc | apply pw_below_drewN | apply below_drew1 | refine below_set ?_ GE219.out) | exact HB.out)⟩⟩
  case rest =>
    clear HC5
    try clear c1
    try clear c2
    try clear p2
    try clear c5
    try clear c11
    try clear c11b0
    try clear c11b1
    try clear c12
    try clear c12b0
    try clear c12b1
    try clear hcz9_0
    try clear hcz9_1
    try clear hfz9_0
    try clear hfz9_1
    obtain ⟨kq, x35_4, rfl, HA, HJ4, HO_220000, HO_220001, BK219, HB⟩ := hcut
    cases kq with
    | zero => exact absurd HA.out (by simp [sextonlaw05_TwinRow.j0])
    | succ kj4 =>
      have H := HA.out
      clear HA
      simp only [sextonlaw05_TwinRow.j0] at H
      by_cases c13 : x35_4 = true
      · subst c13
        have H1 : ((sextonlaw05_twins.f).bind fun t220 => (some t220)) = some r := by rw [if_pos rfl] at H; exact H
        clear H
        have H := H1
        clear H1
        replace H := Option.bind_eq_some_iff.mp H
        obtain ⟨t220, A140, H⟩ := H
        replace H : (some t220) = some r := H
        have A14 := Aside0.mk A140
        clear A140
        obtain rfl := Option.some.inj H
        go_wp2_with (first | ((with_reducible refine gate_callee (f := 14) rfl ?_); refine goesL_ (some 36) rfl rfl Try.func14 (by kernel_rfl) rfl #[] rfl (by (try simp only [List.map_toArray, List.map_cons, List.map_nil]); first | done | rfl | (simp only [List.length_drop, List.length_take]; rfl)) ?_; (with_reducible refine (sextonlaw05_twins.calls  t220 _ A14.out).mono ?_); rintro e w15 ⟨rfl, hb⟩; refine ⟨_, rfl, ?_⟩; have n0_ := Aside0.mk (Kd.R_below (by (with_reducible repeat (first | apply Kd.R_alloc | apply Kd.R_drewN | apply Kd.R_drew)); exact HO_220000.out) hb); have n1_ := Aside0.mk (Kd.R_below (by (with_reducible repeat (first | apply Kd.R_alloc | apply Kd.R_drewN | apply Kd.R_drew)); exact HO_220001.out) hb); have n2_ := Aside0.mk (blk_below (g := gb219) (o := .cells #[.slice Ao8 t212.length co8, .slice Ao10 t215.length co10] 25 (0, 0)) (by (with_reducible repeat (first | refine blk_drewN ?_ _ | refine blk_drew ?_ | refine blk_alloc ?_ _)); exact BK219.out) hb); have n3_ := Aside0.mk (below_step (by repeat (first | (with_reducible first | exact HB.out | apply below_alloc | apply pw_below_drewN | apply below_drew1 | refine below_set ?_ GE219.out) | exact HB.out)) hb); clear HO_220000; clear HO_220001; clear BK219; clear HB; have HO_220000 := n0_; have HO_220001 := n1_; have BK219 := n2_; have HB := n3_; clear n0_ n1_ n2_ n3_; (try clear hb); (try clear hb2); (try clear hk); (try clear hi)))
        go_ret
        exact ⟨by first | rfl | (simp [errW_none, errW_some] <;> rfl) | (simp [*, errW_none, errW_some] <;> rfl), by repeat (first | (with_reducible first | exact HB.out | apply below_alloc | apply pw_below_drewN | apply below_drew1 | refine below_set ?_ GE219.out) | exact HB.out)⟩
      · replace c13 := Bool.eq_false_iff.mpr c13
        subst c13
        have H1 : (sextonlaw05_TwinRow.l0 kj4 l0 l1 l2 (⟨#[]⟩ : ByteArray) 0 t212 t215) = some r := by rw [if_neg (show ¬ (false = true) by decide)] at H; exact H
        clear H
        have H := H1
        clear H1
        have H' := Aside0.mk H
        clear H
        go_wp2
        go_loopg [9, 10] kj4 (fun kq v9 v10 w' => ∃ (x9_2 : ByteArray) (x10_2 : Int) (x220000_2 : List ByteArray) (x220001_2 : List (S73)) (u220000 : Value) (u220001 : Value), v9 = .string x9_2 ∧ v10 = .int .i64 x10_2 ∧ Aside0 (sextonlaw05_TwinRow.l0 kq l0 l1 l2 x9_2 x10_2 x220000_2 x220001_2 = some r) ∧ Aside0 (kq ≤ kj4) ∧ Aside0 (Kd.R Kd.string 9 w' w.heap.size (fun _ => True) u220000 x220000_2) ∧ Aside0 (Kd.R k73 73 w' w.heap.size (fun _ => True) u220001 x220001_2) ∧ Aside0 (w'.heap[gb219]? = some (.cells #[u220000, u220001] 25 (0, 0))) ∧ Aside0 (Below w.heap.size w w'))
        case atStart => exact ⟨((⟨#[]⟩ : ByteArray)), (0), (t212), (t215), (.slice Ao8 t212.length co8), (.slice Ao10 t215.length co10), (by first | rfl | (simp; done) | (simp [*]; done)), (by first | rfl | (simp; done) | (simp [*]; done)), H', ⟨Nat.le_refl _⟩, ⟨by (with_reducible repeat (first | apply Kd.R_alloc | apply Kd.R_drewN | apply Kd.R_drew)); exact HO_220000.out⟩, ⟨by (with_reducible repeat (first | apply Kd.R_alloc | apply Kd.R_drewN | apply Kd.R_drew)); exact HO_220001.out⟩, ⟨by (with_reducible repeat (first | refine blk_drewN ?_ _ | refine blk_drew ?_ | refine blk_alloc ?_ _)); exact BK219.out⟩, ⟨by repeat (first | (with_reducible first | exact HB.out | apply below_alloc | apply pw_below_drewN | apply below_drew1 | refine below_set ?_ GE219.out) | exact HB.out)⟩⟩
        case round =>
          clear H'
          try clear c1
          try clear c2
          try clear p2
          try clear c5
          try clear c11
          try clear c11b0
          try clear c11b1
          try clear c12
          try clear c12b0
          try clear c12b1
          try clear c13
          try clear c14
          try clear hcz9_0
          try clear hcz9_1
          try clear hfz9_0
          try clear hfz9_1
          try clear p2
          obtain ⟨x9_2, x10_2, x220000_2, x220001_2, u220000, u220001, rfl, rfl, HA, HK2, HO_220000, HO_220001, BK219, HB⟩ := hrel
          cases gk with
          | zero => exact absurd HA.out (by simp [sextonlaw05_TwinRow.l0])
          | succ k2 =>
            have H := HA.out
            clear HA
            simp only [sextonlaw05_TwinRow.l0] at H
            by_cases c16 : x10_2 < (l0.length : Int)
            · rw [if_pos c16] at H
              have c16b0 : decide (x10_2 < (l0.length : Int)) = true := decide_eq_true c16
              clear c16
              have HC17 := Aside0.mk H
              clear H
              go_upto_region 8 with (fail)
              go_cut [54] (fun v54 wc => ∃ (kq : Nat) (x54_16 : Bool), v54 = .bool x54_16 ∧ Aside0 (sextonlaw05_TwinRow.j2 kq l0 l1 l2 x9_2 x10_2 x54_16 x220000_2 x220001_2 = some r) ∧ Aside0 (kq ≤ k2) ∧ Aside0 (Kd.R Kd.string 9 wc w.heap.size (fun _ => True) u220000 x220000_2) ∧ Aside0 (Kd.R k73 73 wc w.heap.size (fun _ => True) u220001 x220001_2) ∧ Aside0 (wc.heap[gb219]? = some (.cells #[u220000, u220001] 25 (0, 0))) ∧ Aside0 (Below w.heap.size w wc))
              case first =>
                have H := HC17.out
                clear HC17
                by_cases c18 : 0 ≤ x10_2
                · rw [if_pos c18] at H
                  have c18b0 : decide (0 ≤ x10_2) = true := decide_eq_true c18
                  clear c18
                  (first | rw [c18b0] | (simp only [i64_w, i32_w]; rw [c18b0]) | skip)
                  by_cases c19 : ((rdOf ByteArray.empty l0 x10_2).size : Int) > 200
                  · rw [if_pos c19] at H
                    have c19b0 : decide (200 < ((rdOf ByteArray.empty l0 x10_2).size : Int)) = true := decide_eq_true c19
                    have c19b1 : decide (200 < (rdOf ByteArray.empty l0 x10_2).size) = true := decide_eq_true (by omega)
                    clear c19
                    have H' := Aside0.mk H
                    clear H
                    have p222 : 0 ≤ (x10_2 : Int) := of_decide_eq_true (by first | (with_reducible assumption) | assumption)
                    have q222 : x10_2 < (l0.length : Int) := of_decide_eq_true (by first | (with_reducible assumption) | assumption)
                    obtain ⟨ad222, e222, hx222_0⟩ := Kd.at_string HR0.out x10_2 p222 q222
                    cases e222
                    replace hx222_0 := (HB.out.cell (World.block_lt_of_cell? w _ hx222_0)).trans hx222_0
                    replace p222 := eq_true p222
                    replace q222 := eq_true q222
                    go_wp2
                    go_meet
                    case rel => exact ⟨_, (true), (by first | rfl | (simp; done) | (simp [*]; done)), H', ⟨by have := HJ4.out; have := HK2.out; first | omega | exact Nat.le_refl _⟩, ⟨by (with_reducible repeat (first | apply Kd.R_alloc | apply Kd.R_drewN | apply Kd.R_drew)); exact HO_220000.out⟩, ⟨by (with_reducible repeat (first | apply Kd.R_alloc | apply Kd.R_drewN | apply Kd.R_drew)); exact HO_220001.out⟩, ⟨by (with_reducible repeat (first | refine blk_drewN ?_ _ | refine blk_drew ?_ | refine blk_alloc ?_ _)); exact BK219.out⟩, ⟨by repeat (first | (with_reducible first | exact HB.out | apply below_alloc | apply pw_below_drewN | apply below_drew1 | refine below_set ?_ GE219.out) | exact HB.out)⟩⟩
                  · rw [if_neg c19] at H
                    have c19b0 : decide (200 < ((rdOf ByteArray.empty l0 x10_2).size : Int)) = false := decide_eq_false c19
                    have c19b1 : decide (200 < (rdOf ByteArray.empty l0 x10_2).size) = false := decide_eq_false (by omega)
                    clear c19
                    have H' := Aside0.mk H
                    clear H
                    have p222 : 0 ≤ (x10_2 : Int) := of_decide_eq_true (by first | (with_reducible assumption) | assumption)
                    have q222 : x10_2 < (l0.length : Int) := of_decide_eq_true (by first | (with_reducible assumption) | assumption)
                    obtain ⟨ad222, e222, hx222_0⟩ := Kd.at_string HR0.out x10_2 p222 q222
                    cases e222
                    replace hx222_0 := (HB.out.cell (World.block_lt_of_cell? w _ hx222_0)).trans hx222_0
                    replace p222 := eq_true p222
                    replace q222 := eq_true q222
                    go_wp2
                    go_meet
                    case rel => exact ⟨_, (decide (x10_2 ≥ (l1.length : Int))), (by first | rfl | (simp; done) | (simp [*]; done)), H', ⟨by have := HJ4.out; have := HK2.out; first | omega | exact Nat.le_refl _⟩, ⟨by (with_reducible repeat (first | apply Kd.R_alloc | apply Kd.R_drewN | apply Kd.R_drew)); exact HO_220000.out⟩, ⟨by (with_reducible repeat (first | apply Kd.R_alloc | apply Kd.R_drewN | apply Kd.R_drew)); exact HO_220001.out⟩, ⟨by (with_reducible repeat (first | refine blk_drewN ?_ _ | refine blk_drew ?_ | refine blk_alloc ?_ _)); exact BK219.out⟩, ⟨by repeat (first | (with_reducible first | exact HB.out | apply below_alloc | apply pw_below_drewN | apply below_drew1 | refine below_set ?_ GE219.out) | exact HB.out)⟩⟩
                · rw [if_neg c18] at H
                  exact absurd H (by simp)
              case rest =>
                clear HC17
                try clear c1
                try clear c2
                try clear p2
                try clear q2
                try clear hx2
                try clear c5
                try clear c11
                try clear c11b0
                try clear c11b1
                try clear c12
                try clear c12b0
                try clear c12b1
                try clear c13
                try clear c14
                try clear c16
                try clear c16b0
                try clear c17
                try clear c18
                try clear c18b0
                try clear c19
                try clear c19b0
                try clear c19b1
                try clear hcz9_0
                try clear hcz9_1
                try clear hfz9_0
                try clear hfz9_1
                try clear hx222_0
                try clear p2
                try clear p222
                try clear q222
                obtain ⟨kq, x54_16, rfl, HA, HJ16, HO_220000, HO_220001, BK219, HB⟩ := hcut
                cases kq with
                | zero => exact absurd HA.out (by simp [sextonlaw05_TwinRow.j2])
                | succ kj16 =>
                  have H := HA.out
                  clear HA
                  simp only [sextonlaw05_TwinRow.j2] at H
                  by_cases c20 : x54_16 = true
                  · subst c20
                    have H1 : ((sextonlaw05_twins.f).bind fun t223 => (some t223)) = some r := by rw [if_pos rfl] at H; exact H
                    clear H
                    have H := H1
                    clear H1
                    replace H := Option.bind_eq_some_iff.mp H
                    obtain ⟨t223, A210, H⟩ := H
                    replace H : (some t223) = some r := H
                    have A21 := Aside0.mk A210
                    clear A210
                    obtain rfl := Option.some.inj H
                    go_wp2_with (first | ((with_reducible refine gate_callee (f := 14) rfl ?_); refine goesL_ (some 55) rfl rfl Try.func14 (by kernel_rfl) rfl #[] rfl (by (try simp only [List.map_toArray, List.map_cons, List.map_nil]); first | done | rfl | (simp only [List.length_drop, List.length_take]; rfl)) ?_; (with_reducible refine (sextonlaw05_twins.calls  t223 _ A21.out).mono ?_); rintro e w22 ⟨rfl, hb⟩; refine ⟨_, rfl, ?_⟩; have n0_ := Aside0.mk (Kd.R_below (by (with_reducible repeat (first | apply Kd.R_alloc | apply Kd.R_drewN | apply Kd.R_drew)); exact HO_220000.out) hb); have n1_ := Aside0.mk (Kd.R_below (by (with_reducible repeat (first | apply Kd.R_alloc | apply Kd.R_drewN | apply Kd.R_drew)); exact HO_220001.out) hb); have n2_ := Aside0.mk (blk_below (g := gb219) (o := .cells #[u220000, u220001] 25 (0, 0)) (by (with_reducible repeat (first | refine blk_drewN ?_ _ | refine blk_drew ?_ | refine blk_alloc ?_ _)); exact BK219.out) hb); have n3_ := Aside0.mk (below_step (by repeat (first | (with_reducible first | exact HB.out | apply below_alloc | apply pw_below_drewN | apply below_drew1 | refine below_set ?_ GE219.out) | exact HB.out)) hb); clear HO_220000; clear HO_220001; clear BK219; clear HB; have HO_220000 := n0_; have HO_220001 := n1_; have BK219 := n2_; have HB := n3_; clear n0_ n1_ n2_ n3_; (try clear hb); (try clear hb2); (try clear hk); (try clear hi)))
                    go_ret
                    exact ⟨by first | rfl | (simp [errW_none, errW_some] <;> rfl) | (simp [*, errW_none, errW_some] <;> rfl), by repeat (first | (with_reducible first | exact HB.out | apply below_alloc | apply pw_below_drewN | apply below_drew1 | refine below_set ?_ GE219.out) | exact HB.out)⟩
                  · replace c20 := Bool.eq_false_iff.mpr c20
                    subst c20
                    have H1 : (if 0 ≤ x10_2 then (if x10_2 < (l0.length : Int) then (if x10_2 < (l1.length : Int) then ((twin_Stop.f x220000_2 x220001_2 0 (rdOf ByteArray.empty l0 x10_2) (rd l1 x10_2)).bind fun bt226 => (if x10_2 < (l2.length : Int) then (if ([] : List Bool).length + (rd_L8 l2 x10_2).length < 140737488355328 then (sextonlaw05_TwinRow.j3 kj16 l0 l1 l2 x9_2 x10_2 bt226.2.2.1 bt226.2.2.2 (([] : List Bool) ++ (rd_L8 l2 x10_2)) bt226.1 bt226.2.1) else (none)) else (sextonlaw05_TwinRow.j3 kj16 l0 l1 l2 x9_2 x10_2 bt226.2.2.1 bt226.2.2.2 ([] : List Bool) bt226.1 bt226.2.1))) else (none)) else (none)) else (none)) = some r := by rw [if_neg (show ¬ (false = true) by decide)] at H; exact H
                    clear H
                    have H := H1
                    clear H1
                    by_cases c23 : 0 ≤ x10_2
                    · rw [if_pos c23] at H
                      have c23b0 : decide (0 ≤ x10_2) = true := decide_eq_true c23
                      clear c23
                      by_cases c24 : x10_2 < (l0.length : Int)
                      · rw [if_pos c24] at H
                        have c24b0 : decide (x10_2 < (l0.length : Int)) = true := decide_eq_true c24
                        clear c24
                        by_cases c25 : x10_2 < (l1.length : Int)
                        · rw [if_pos c25] at H
                          have c25b0 : decide (x10_2 < (l1.length : Int)) = true := decide_eq_true c25
                          clear c25
                          replace H := Option.bind_eq_some_iff.mp H
                          obtain ⟨⟨t226, t229, t232, t233⟩, A260, H⟩ := H
                          replace H : (if x10_2 < (l2.length : Int) then (if ([] : List Bool).length + (rd_L8 l2 x10_2).length < 140737488355328 then (sextonlaw05_TwinRow.j3 kj16 l0 l1 l2 x9_2 x10_2 t232 t233 (([] : List Bool) ++ (rd_L8 l2 x10_2)) t226 t229) else (none)) else (sextonlaw05_TwinRow.j3 kj16 l0 l1 l2 x9_2 x10_2 t232 t233 ([] : List Bool) t226 t229)) = some r := H
                          have A26 := Aside0.mk A260
                          clear A260
                          have HC27 := Aside0.mk H
                          clear H
                          obtain ⟨Ao28, co28, eo28⟩ := Kd.R_slice HO_220000.out
                          subst eo28
                          obtain ⟨Ao29, co29, eo29⟩ := Kd.R_slice HO_220001.out
                          subst eo29
                          try go_wp2
                          have n0_ := Aside0.mk (Kd.R_drew HO_220000.out)
                          have n1_ := Aside0.mk (Kd.R_drew HO_220001.out)
                          have n2_ := Aside0.mk (blk_drew BK219.out)
                          have n3_ := Aside0.mk (below_drew1 HB.out)
                          clear HO_220000
                          clear HO_220001
                          clear BK219
                          clear HB
                          have HO_220000 := n0_
                          have HO_220001 := n1_
                          have BK219 := n2_
                          have HB := n3_
                          clear n0_ n1_ n2_ n3_
                          have p224 : 0 ≤ (x10_2 : Int) := of_decide_eq_true (by first | (with_reducible assumption) | assumption)
                          have q224 : x10_2 < (l0.length : Int) := of_decide_eq_true (by first | (with_reducible assumption) | assumption)
                          obtain ⟨ad224, e224, hx224_0⟩ := Kd.at_string HR0.out x10_2 p224 q224
                          have hw224_0 := hx224_0
                          cases e224
                          replace hx224_0 := (HB.out.cell (World.block_lt_of_cell? w _ hx224_0)).trans hx224_0
                          replace p224 := eq_true p224
                          replace q224 := eq_true q224
                          have p225 : 0 ≤ (x10_2 : Int) := of_decide_eq_true (by first | (with_reducible assumption) | assumption)
                          have q225 : x10_2 < (l1.length : Int) := of_decide_eq_true (by first | (with_reducible assumption) | assumption)
                          obtain ⟨ad225, e225, hx225_0⟩ := Kd.at_int HR1.out x10_2 p225 q225
                          have hw225_0 := hx225_0
                          cases e225
                          replace hx225_0 := (HB.out.cell (World.block_lt_of_cell? w _ hx225_0)).trans hx225_0
                          replace p225 := eq_true p225
                          replace q225 := eq_true q225
                          refine start_ (n := 18) (S := fun w' => w'.cell? ⟨gb219, 0, none⟩ = some (.slice Ao28 x220000_2.length co28) ∧ w'.cell? ⟨gb219, 1, none⟩ = some (.slice Ao29 x220001_2.length co29) ∧ w'.cell? (ad224.add (x10_2).toNat) = some (.string (rdOf ByteArray.empty l0 x10_2)) ∧ w'.cell? (ad225.add (x10_2).toNat) = some (.int .i64 (rd l1 x10_2))) (ds := []) #[false, false, false, false, false, false, false, false, false, false, false, false, false, false, false, false, false, false] (by kernel_rfl) rfl rfl ⟨(blk_cell BK219.out 0).trans rfl, (blk_cell BK219.out 1).trans rfl, ((HB.out.cell (World.block_lt_of_cell? w _ hw224_0)).trans hw224_0), ((HB.out.cell (World.block_lt_of_cell? w _ hw225_0)).trans hw225_0)⟩ (fun hHeld => ?_); refine with_tabW sextonlaw05_TwinRow.tab10 sextonlaw05_TwinRow.bits10 (fun HT_ HW_ => ?_)
                          generalize wc.drew = w30 at HO_220000 HO_220001 BK219 HB hx224_0 hx225_0 hHeld ⊢
                          refine pure_ (i := 1) (N := some 58) (v := ?_) (a' := ?_) #[false, true, false, false, false, false, false, false, false, false, false, false, false, false, false, false, false, false] rfl rfl (any_of HT_.out (by kernel_rfl)) (fun _ _ _ h => h) (Or.inl ⟨by rfl, ?_⟩) ?_ ?_
                          rotate_left
                          · intro w'
                            go_simp
                            with_reducible rfl
                          rotate_left
                          · simp only [Act.put, List.setIfInBounds_toArray, List.set_cons_zero, List.set_cons_succ, i64_w, i32_w]
                            rfl
                          refine pure_ (i := 2) (N := some 59) (v := ?_) (a' := ?_) #[false, true, true, false, false, false, false, false, false, false, false, false, false, false, false, false, false, false] rfl rfl (any_of HT_.out (by kernel_rfl)) (fun _ _ _ h => h) (Or.inl ⟨by rfl, ?_⟩) ?_ ?_
                          rotate_left
                          · intro w'
                            go_simp
                            with_reducible rfl
                          rotate_left
                          · simp only [Act.put, List.setIfInBounds_toArray, List.set_cons_zero, List.set_cons_succ, i64_w, i32_w]
                            rfl
                          refine pure_ (i := 3) (N := some 60) (v := ?_) (a' := ?_) #[false, true, true, true, false, false, false, false, false, false, false, false, false, false, false, false, false, false] rfl rfl (any_of HT_.out (by kernel_rfl)) (fun _ _ _ h => h) (Or.inl ⟨by rfl, ?_⟩) ?_ ?_
                          rotate_left
                          · intro w'
                            go_simp
                            with_reducible rfl
                          rotate_left
                          · simp only [Act.put, List.setIfInBounds_toArray, List.set_cons_zero, List.set_cons_succ, i64_w, i32_w]
                            rfl
                          refine pure_ (i := 5) (N := some 62) (v := ?_) (a' := ?_) #[false, true, true, true, false, true, false, false, false, false, false, false, false, false, false, false, false, false] rfl rfl (any_of HT_.out (by kernel_rfl)) (fun _ _ _ h => h) (Or.inl ⟨by rfl, ?_⟩) ?_ ?_
                          rotate_left
                          · intro w'
                            go_simp
                            with_reducible rfl
                          rotate_left
                          · simp only [Act.put, List.setIfInBounds_toArray, List.set_cons_zero, List.set_cons_succ, i64_w, i32_w]
                            rfl
                          refine pure_ (i := 6) (N := some 63) (v := ?_) (a' := ?_) #[false, true, true, true, false, true, true, false, false, false, false, false, false, false, false, false, false, false] rfl rfl (any_of HT_.out (by kernel_rfl)) (fun _ _ _ h => h) (Or.inl ⟨by rfl, ?_⟩) ?_ ?_
                          rotate_left
                          · intro w'
                            go_simp
                            with_reducible rfl
                          rotate_left
                          · simp only [Act.put, List.setIfInBounds_toArray, List.set_cons_zero, List.set_cons_succ, i64_w, i32_w]
                            rfl
                          refine pure_ (i := 7) (N := some 64) (v := ?_) (a' := ?_) #[false, true, true, true, false, true, true, true, false, false, false, false, false, false, false, false, false, false] rfl rfl (any_of HT_.out (by kernel_rfl)) (fun _ _ _ h => h) (Or.inl ⟨by rfl, ?_⟩) ?_ ?_
                          rotate_left
                          · intro w'
                            go_simp
                            with_reducible rfl
                          rotate_left
                          · simp only [Act.put, List.setIfInBounds_toArray, List.set_cons_zero, List.set_cons_succ, i64_w, i32_w]
                            rfl
                          refine take_ (i := 0) (N := some 57) (v := ?_) (a' := ?_) #[true, true, true, true, false, true, true, true, false, false, false, false, false, false, false, false, false, false] rfl rfl (take_ofW HT_.out HW_.out (by kernel_rfl)) (fun _ _ _ h => h) (Or.inl ⟨by rfl, ?_⟩) hHeld ?_ ?_
                          rotate_left
                          · rintro w' ⟨s0, s1, s2, s3⟩
                            go_simp
                            with_reducible rfl
                          rotate_left
                          · simp only [Act.put, List.setIfInBounds_toArray, List.set_cons_zero, List.set_cons_succ, i64_w, i32_w]
                            rfl
                          refine take_ (i := 4) (N := some 61) (v := ?_) (a' := ?_) #[true, true, true, true, true, true, true, true, false, false, false, false, false, false, false, false, false, false] rfl rfl (take_ofW HT_.out HW_.out (by kernel_rfl)) (fun _ _ _ h => h) (Or.inl ⟨by rfl, ?_⟩) hHeld ?_ ?_
                          rotate_left
                          · rintro w' ⟨s0, s1, s2, s3⟩
                            go_simp
                            with_reducible rfl
                          rotate_left
                          · simp only [Act.put, List.setIfInBounds_toArray, List.set_cons_zero, List.set_cons_succ, i64_w, i32_w]
                            rfl
                          refine take_ (i := 8) (N := some 65) (v := ?_) (a' := ?_) #[true, true, true, true, true, true, true, true, true, false, false, false, false, false, false, false, false, false] rfl rfl (take_ofW HT_.out HW_.out (by kernel_rfl)) (fun _ _ _ h => h) (Or.inl ⟨by rfl, ?_⟩) hHeld ?_ ?_
                          rotate_left
                          · rintro w' ⟨s0, s1, s2, s3⟩
                            go_simp
                            with_reducible rfl
                          rotate_left
                          · simp only [Act.put, List.setIfInBounds_toArray, List.set_cons_zero, List.set_cons_succ, i64_w, i32_w]
                            rfl
                          refine join_ (σ := Value × Value × Nat) 3 #[true, true, true, true, true, true, true, true, true, true, true, true, true, true, true, false, false, false] (fun s_ => [(66, .tuple #[.agg #[s_.1, s_.2.1], .bool t232, .int .i64 t233]), (11, .pointer (some ⟨s_.2.2, 0, none⟩)), (56, .tuple #[.agg #[s_.1, s_.2.1], .bool t232, .int .i64 t233]), (67, .agg #[s_.1, s_.2.1]), (68, .bool t232), (69, .int .i64 t233)]) (fun s_ w' => (w'.cell? ⟨gb219, 0, none⟩ = some (.slice Ao28 x220000_2.length co28) ∧ w'.cell? ⟨gb219, 1, none⟩ = some (.slice Ao29 x220001_2.length co29) ∧ w'.cell? (ad224.add (x10_2).toNat) = some (.string (rdOf ByteArray.empty l0 x10_2)) ∧ w'.cell? (ad225.add (x10_2).toNat) = some (.int .i64 (rd l1 x10_2))) ∧ (Kd.R Kd.string 9 w' w.heap.size (fun k_ => some k_ ≠ (.slice Ao28 x220000_2.length co28 : Value).ownBlock) s_.1 t226) ∧ (Kd.R k73 73 w' w.heap.size (fun k_ => some k_ ≠ (.slice Ao29 x220001_2.length co29 : Value).ownBlock) s_.2.1 t229) ∧ (Kd.R Kd.string 9 w' w.heap.size (fun k_ => some k_ ≠ (s_.1 : Value).ownBlock) (.slice Ao28 x220000_2.length co28) x220000_2) ∧ (Kd.R k73 73 w' w.heap.size (fun k_ => some k_ ≠ (s_.2.1 : Value).ownBlock) (.slice Ao29 x220001_2.length co29) x220001_2) ∧ (w'.heap[gb219]? = some (.cells #[.slice Ao28 x220000_2.length co28, .slice Ao29 x220001_2.length co29] 25 (0, 0))) ∧ (w'.heap[s_.2.2]? = some (.cells #[.slice none 0 0, .slice none 0 0] 25 (0, 0))) ∧ (w.heap.size ≤ s_.2.2) ∧ (w.heap.size ≤ s_.2.2) ∧ (gb219 ≠ s_.2.2) ∧ (s_.2.2 ≠ gb219) ∧ (Below w.heap.size w w')) ?_ ?_
                          rotate_left
                          · intro hCont
                            refine two_ (i := 9) (j := 14) (Ni := some 66) (Nj := some 11) #[true, true, true, true, true, true, true, true, true, true, false, false, false, false, false, false, false, false] #[true, true, true, true, true, true, true, true, true, false, false, false, false, false, true, false, false, false] rfl rfl rfl rfl (two_of HT_.out (by kernel_rfl)) (by decide) (by decide) (fun K hK => ?_) (fun K hK => ?_)
                            · skip
                              refine goes_ Try.func15 (by kernel_rfl) rfl #[.agg #[.slice Ao28 x220000_2.length co28, .slice Ao29 x220001_2.length co29], .int .i64 0, .string (rdOf ByteArray.empty l0 x10_2), .int .i64 (rd l1 x10_2)] (by rfl) rfl rfl (by (try simp only [List.map_toArray, List.map_cons, List.map_nil]); first | done | rfl | (simp only [List.length_drop, List.length_take]; rfl)) ?_
                              with_reducible refine (twin_Stop.calls _ _ x220000_2 _ _ x220001_2 0 (rdOf ByteArray.empty l0 x10_2) (rd l1 x10_2) t226 t229 t232 t233 _ ?side1 ?side2 ?side3 ?side4 A26.out).mono ?_
                              (case side1 => repeat (first | exact (Kd.R_reads' HO_220000.out).2.2 | (with_reducible refine Kd.C_alloc ?_ _) | (with_reducible refine Kd.C_drewN ?_ _) | (with_reducible refine Kd.C_drew ?_)))
                              (case side2 => exact (Kd.R_reads' HO_220000.out).2.1)
                              (case side3 => repeat (first | exact (Kd.R_reads' HO_220001.out).2.2 | (with_reducible refine Kd.C_alloc ?_ _) | (with_reducible refine Kd.C_drewN ?_ _) | (with_reducible refine Kd.C_drew ?_)))
                              (case side4 => exact (Kd.R_reads' HO_220001.out).2.1)
                              rintro e w31 ⟨v227, v230, rfl, ho0, ho1, hb⟩
                              refine ⟨_, rfl, ?_⟩
                              have n0_ := Aside0.mk (Kd.R_elder' (by (with_reducible repeat (first | apply Kd.R_alloc | apply Kd.R_drewN | apply Kd.R_drew)); exact HO_220000.out) (Kd.R_base ho0) hb)
                              have n1_ := Aside0.mk (Kd.R_elder' (by (with_reducible repeat (first | apply Kd.R_alloc | apply Kd.R_drewN | apply Kd.R_drew)); exact HO_220001.out) (Kd.R_base ho1) hb)
                              have n2_ := Aside0.mk (Kd.R_lower (Kd.R_new' ho0 (Kd.R_lt (by (with_reducible repeat (first | apply Kd.R_alloc | apply Kd.R_drewN | apply Kd.R_drew)); exact HO_220000.out))) (below_size (by repeat (first | (with_reducible first | exact HB.out | apply below_alloc | apply pw_below_drewN | apply below_drew1 | refine below_set ?_ GE219.out) | exact HB.out))))
                              have n3_ := Aside0.mk (Kd.R_lower (Kd.R_new' ho1 (Kd.R_lt (by (with_reducible repeat (first | apply Kd.R_alloc | apply Kd.R_drewN | apply Kd.R_drew)); exact HO_220001.out))) (below_size (by repeat (first | (with_reducible first | exact HB.out | apply below_alloc | apply pw_below_drewN | apply below_drew1 | refine below_set ?_ GE219.out) | exact HB.out))))
                              have n4_ := Aside0.mk (blk_below (g := gb219) (o := .cells #[.slice Ao28 x220000_2.length co28, .slice Ao29 x220001_2.length co29] 25 (0, 0)) (by (with_reducible repeat (first | refine blk_drewN ?_ _ | refine blk_drew ?_ | refine blk_alloc ?_ _)); exact BK219.out) hb)
                              have n5_ := Aside0.mk (below_step (by repeat (first | (with_reducible first | exact HB.out | apply below_alloc | apply pw_below_drewN | apply below_drew1 | refine below_set ?_ GE219.out) | exact HB.out)) hb)
                              clear HO_220000
                              clear HO_220001
                              clear BK219
                              clear HB
                              have HO_220000 := n0_
                              have HO_220001 := n1_
                              have HO228 := n2_
                              have HO231 := n3_
                              have BK219 := n4_
                              have HB := n5_
                              clear n0_ n1_ n2_ n3_ n4_ n5_
                              (try clear hb)
                              (try clear hb2)
                              (try clear hk)
                              (try clear hi)
                              (try clear ho0)
                              (try clear ho1)
                              refine hK.out _ _ ⟨(blk_cell BK219.out 0).trans rfl, (blk_cell BK219.out 1).trans rfl, ((HB.out.cell (World.block_lt_of_cell? w _ hw224_0)).trans hw224_0), ((HB.out.cell (World.block_lt_of_cell? w _ hw225_0)).trans hw225_0)⟩ (fun hHeld => ?_)
                              clear hK K
                              refine norm_ (a' := ?_) ?_ ?_
                              rotate_left
                              · show Act.put _ (some 66) _ = _
                                simp only [Act.put, List.setIfInBounds_toArray, List.set_cons_zero, List.set_cons_succ, i64_w, i32_w]
                                rfl
                              refine pure_ (i := 10) (N := some 56) (v := ?_) (a' := ?_) #[true, true, true, true, true, true, true, true, true, true, true, false, false, false, false, false, false, false] rfl rfl (any_of HT_.out (by kernel_rfl)) (fun _ _ _ h => h) (Or.inl ⟨by rfl, ?_⟩) ?_ ?_
                              rotate_left
                              · intro w'
                                go_simp
                                with_reducible rfl
                              rotate_left
                              · simp only [Act.put, List.setIfInBounds_toArray, List.set_cons_zero, List.set_cons_succ, i64_w, i32_w]
                                rfl
                              refine pure_ (i := 11) (N := some 67) (v := ?_) (a' := ?_) #[true, true, true, true, true, true, true, true, true, true, true, true, false, false, false, false, false, false] rfl rfl (any_of HT_.out (by kernel_rfl)) (fun _ _ _ h => h) (Or.inl ⟨by rfl, ?_⟩) ?_ ?_
                              rotate_left
                              · intro w'
                                go_simp
                                with_reducible rfl
                              rotate_left
                              · simp only [Act.put, List.setIfInBounds_toArray, List.set_cons_zero, List.set_cons_succ, i64_w, i32_w]
                                rfl
                              refine pure_ (i := 12) (N := some 68) (v := ?_) (a' := ?_) #[true, true, true, true, true, true, true, true, true, true, true, true, true, false, false, false, false, false] rfl rfl (any_of HT_.out (by kernel_rfl)) (fun _ _ _ h => h) (Or.inl ⟨by rfl, ?_⟩) ?_ ?_
                              rotate_left
                              · intro w'
                                go_simp
                                with_reducible rfl
                              rotate_left
                              · simp only [Act.put, List.setIfInBounds_toArray, List.set_cons_zero, List.set_cons_succ, i64_w, i32_w]
                                rfl
                              refine pure_ (i := 13) (N := some 69) (v := ?_) (a' := ?_) #[true, true, true, true, true, true, true, true, true, true, true, true, true, true, false, false, false, false] rfl rfl (any_of HT_.out (by kernel_rfl)) (fun _ _ _ h => h) (Or.inl ⟨by rfl, ?_⟩) ?_ ?_
                              rotate_left
                              · intro w'
                                go_simp
                                with_reducible rfl
                              rotate_left
                              · simp only [Act.put, List.setIfInBounds_toArray, List.set_cons_zero, List.set_cons_succ, i64_w, i32_w]
                                rfl
                              refine one_ (i := 14) (N := some 11) #[true, true, true, true, true, true, true, true, true, true, true, true, true, true, true, false, false, false] rfl rfl (one_of HT_.out (by kernel_rfl)) (by decide) (fun K hK => ?_)
                              refine box_step ?hg (N := 11) ?hd (cs := #[.slice none 0 0, .slice none 0 0]) (t := 25) ?hr ?_; (case hd => rfl); (case hg => rfl); (case hr => first | (go_simp; done) | (go_simp; rfl))
                              intro gb234 hg w32 hbox hb
                              have n0_ := Aside0.mk (Kd.R_below (by (with_reducible repeat (first | apply Kd.R_alloc | apply Kd.R_drewN | apply Kd.R_drew)); exact HO_220000.out) hb)
                              have n1_ := Aside0.mk (Kd.R_below (by (with_reducible repeat (first | apply Kd.R_alloc | apply Kd.R_drewN | apply Kd.R_drew)); exact HO_220001.out) hb)
                              have n2_ := Aside0.mk (Kd.R_below (by (with_reducible repeat (first | apply Kd.R_alloc | apply Kd.R_drewN | apply Kd.R_drew)); exact HO228.out) hb)
                              have n3_ := Aside0.mk (Kd.R_below (by (with_reducible repeat (first | apply Kd.R_alloc | apply Kd.R_drewN | apply Kd.R_drew)); exact HO231.out) hb)
                              have n4_ := Aside0.mk (blk_below (g := gb219) (o := .cells #[.slice Ao28 x220000_2.length co28, .slice Ao29 x220001_2.length co29] 25 (0, 0)) (by (with_reducible repeat (first | refine blk_drewN ?_ _ | refine blk_drew ?_ | refine blk_alloc ?_ _)); exact BK219.out) hb)
                              have n5_ := Aside0.mk (below_step (by repeat (first | (with_reducible first | exact HB.out | apply below_alloc | apply pw_below_drewN | apply below_drew1 | refine below_set ?_ GE219.out) | exact HB.out)) hb)
                              have n6_ := Aside0.mk (hbox)
                              have n7_ := Aside0.mk ((by rw [hg]; exact (below_size (by repeat (first | (with_reducible first | exact HB.out | apply below_alloc | apply pw_below_drewN | apply below_drew1 | refine below_set ?_ GE219.out) | exact HB.out))) : w.heap.size ≤ gb234))
                              have n8_ := Aside0.mk ((by rw [hg]; exact (below_size (by repeat (first | (with_reducible first | exact HB.out | apply below_alloc | apply pw_below_drewN | apply below_drew1 | refine below_set ?_ GE219.out) | exact HB.out))) : w.heap.size ≤ gb234))
                              have n9_ := Aside0.mk ((by rw [hg]; exact Nat.ne_of_lt (blk_lt (g := gb219) (o := .cells #[.slice Ao28 x220000_2.length co28, .slice Ao29 x220001_2.length co29] 25 (0, 0)) (by (with_reducible repeat (first | refine blk_drewN ?_ _ | refine blk_drew ?_ | refine blk_alloc ?_ _)); exact BK219.out)) : gb219 ≠ gb234))
                              have n10_ := Aside0.mk ((by rw [hg]; exact Nat.ne_of_gt (blk_lt (g := gb219) (o := .cells #[.slice Ao28 x220000_2.length co28, .slice Ao29 x220001_2.length co29] 25 (0, 0)) (by (with_reducible repeat (first | refine blk_drewN ?_ _ | refine blk_drew ?_ | refine blk_alloc ?_ _)); exact BK219.out)) : gb234 ≠ gb219))
                              clear HO_220000
                              clear HO_220001
                              clear HO228
                              clear HO231
                              clear BK219
                              clear HB
                              have HO_220000 := n0_
                              have HO_220001 := n1_
                              have HO228 := n2_
                              have HO231 := n3_
                              have BK219 := n4_
                              have HB := n5_
                              have BK234 := n6_
                              have GW234 := n7_
                              have GE234 := n8_
                              have NB219_234 := n9_
                              have NB234_219 := n10_
                              clear n0_ n1_ n2_ n3_ n4_ n5_ n6_ n7_ n8_ n9_ n10_
                              clear hb hbox hg
                              refine hK.out _ _ ⟨(blk_cell BK219.out 0).trans rfl, (blk_cell BK219.out 1).trans rfl, ((HB.out.cell (World.block_lt_of_cell? w _ hw224_0)).trans hw224_0), ((HB.out.cell (World.block_lt_of_cell? w _ hw225_0)).trans hw225_0)⟩ (fun hHeld => ?_)
                              clear hK K
                              refine norm_ (a' := ?_) ?_ ?_
                              rotate_left
                              · show Act.put _ (some 11) _ = _
                                simp only [Act.put, List.setIfInBounds_toArray, List.set_cons_zero, List.set_cons_succ, i64_w, i32_w]
                                rfl
                              exact norm_ (by simp only [putAll, Act.put, List.setIfInBounds_toArray, List.set_cons_zero, List.set_cons_succ]) (hCont (v227, v230, gb234) _ ⟨hHeld, (by (with_reducible repeat (first | apply Kd.R_alloc | apply Kd.R_drewN | apply Kd.R_drew)); exact Kd.R_mono HO228.out (fun _ hk => hk.2)), (by (with_reducible repeat (first | apply Kd.R_alloc | apply Kd.R_drewN | apply Kd.R_drew)); exact Kd.R_mono HO231.out (fun _ hk => hk.2)), (by (with_reducible repeat (first | apply Kd.R_alloc | apply Kd.R_drewN | apply Kd.R_drew)); exact Kd.R_mono HO_220000.out (fun _ hk => hk.2)), (by (with_reducible repeat (first | apply Kd.R_alloc | apply Kd.R_drewN | apply Kd.R_drew)); exact Kd.R_mono HO_220001.out (fun _ hk => hk.2)), (by (with_reducible repeat (first | refine blk_drewN ?_ _ | refine blk_drew ?_ | refine blk_alloc ?_ _)); exact BK219.out), (by (with_reducible repeat (first | refine blk_drewN ?_ _ | refine blk_drew ?_ | refine blk_alloc ?_ _)); exact BK234.out), GW234.out, GE234.out, NB219_234.out, NB234_219.out, (by repeat (first | (with_reducible first | exact HB.out | apply below_alloc | apply pw_below_drewN | apply below_drew1 | refine below_set ?_ GE219.out | refine below_set ?_ GE234.out) | exact HB.out))⟩)
                            · skip
                              refine box_step ?hg (N := 11) ?hd (cs := #[.slice none 0 0, .slice none 0 0]) (t := 25) ?hr ?_; (case hd => rfl); (case hg => rfl); (case hr => first | (go_simp; done) | (go_simp; rfl))
                              intro gb234 hg w31 hbox hb
                              have n0_ := Aside0.mk (Kd.R_below (by (with_reducible repeat (first | apply Kd.R_alloc | apply Kd.R_drewN | apply Kd.R_drew)); exact HO_220000.out) hb)
                              have n1_ := Aside0.mk (Kd.R_below (by (with_reducible repeat (first | apply Kd.R_alloc | apply Kd.R_drewN | apply Kd.R_drew)); exact HO_220001.out) hb)
                              have n2_ := Aside0.mk (blk_below (g := gb219) (o := .cells #[.slice Ao28 x220000_2.length co28, .slice Ao29 x220001_2.length co29] 25 (0, 0)) (by (with_reducible repeat (first | refine blk_drewN ?_ _ | refine blk_drew ?_ | refine blk_alloc ?_ _)); exact BK219.out) hb)
                              have n3_ := Aside0.mk (below_step (by repeat (first | (with_reducible first | exact HB.out | apply below_alloc | apply pw_below_drewN | apply below_drew1 | refine below_set ?_ GE219.out) | exact HB.out)) hb)
                              have n4_ := Aside0.mk (hbox)
                              have n5_ := Aside0.mk ((by rw [hg]; exact (below_size (by repeat (first | (with_reducible first | exact HB.out | apply below_alloc | apply pw_below_drewN | apply below_drew1 | refine below_set ?_ GE219.out) | exact HB.out))) : w.heap.size ≤ gb234))
                              have n6_ := Aside0.mk ((by rw [hg]; exact (below_size (by repeat (first | (with_reducible first | exact HB.out | apply below_alloc | apply pw_below_drewN | apply below_drew1 | refine below_set ?_ GE219.out) | exact HB.out))) : w.heap.size ≤ gb234))
                              have n7_ := Aside0.mk ((by rw [hg]; exact Nat.ne_of_lt (blk_lt (g := gb219) (o := .cells #[.slice Ao28 x220000_2.length co28, .slice Ao29 x220001_2.length co29] 25 (0, 0)) (by (with_reducible repeat (first | refine blk_drewN ?_ _ | refine blk_drew ?_ | refine blk_alloc ?_ _)); exact BK219.out)) : gb219 ≠ gb234))
                              have n8_ := Aside0.mk ((by rw [hg]; exact Nat.ne_of_gt (blk_lt (g := gb219) (o := .cells #[.slice Ao28 x220000_2.length co28, .slice Ao29 x220001_2.length co29] 25 (0, 0)) (by (with_reducible repeat (first | refine blk_drewN ?_ _ | refine blk_drew ?_ | refine blk_alloc ?_ _)); exact BK219.out)) : gb234 ≠ gb219))
                              clear HO_220000
                              clear HO_220001
                              clear BK219
                              clear HB
                              have HO_220000 := n0_
                              have HO_220001 := n1_
                              have BK219 := n2_
                              have HB := n3_
                              have BK234 := n4_
                              have GW234 := n5_
                              have GE234 := n6_
                              have NB219_234 := n7_
                              have NB234_219 := n8_
                              clear n0_ n1_ n2_ n3_ n4_ n5_ n6_ n7_ n8_
                              clear hb hbox hg
                              refine hK.out _ _ ⟨(blk_cell BK219.out 0).trans rfl, (blk_cell BK219.out 1).trans rfl, ((HB.out.cell (World.block_lt_of_cell? w _ hw224_0)).trans hw224_0), ((HB.out.cell (World.block_lt_of_cell? w _ hw225_0)).trans hw225_0)⟩ (fun hHeld => ?_)
                              clear hK K
                              refine norm_ (a' := ?_) ?_ ?_
                              rotate_left
                              · show Act.put _ (some 11) _ = _
                                simp only [Act.put, List.setIfInBounds_toArray, List.set_cons_zero, List.set_cons_succ, i64_w, i32_w]
                                rfl
                              refine one_ (i := 9) (N := some 66) #[true, true, true, true, true, true, true, true, true, true, false, false, false, false, true, false, false, false] rfl rfl (one_of HT_.out (by kernel_rfl)) (by decide) (fun K hK => ?_)
                              refine goes_ Try.func15 (by kernel_rfl) rfl #[.agg #[.slice Ao28 x220000_2.length co28, .slice Ao29 x220001_2.length co29], .int .i64 0, .string (rdOf ByteArray.empty l0 x10_2), .int .i64 (rd l1 x10_2)] (by rfl) rfl rfl (by (try simp only [List.map_toArray, List.map_cons, List.map_nil]); first | done | rfl | (simp only [List.length_drop, List.length_take]; rfl)) ?_
                              with_reducible refine (twin_Stop.calls _ _ x220000_2 _ _ x220001_2 0 (rdOf ByteArray.empty l0 x10_2) (rd l1 x10_2) t226 t229 t232 t233 _ ?side1 ?side2 ?side3 ?side4 A26.out).mono ?_
                              (case side1 => repeat (first | exact (Kd.R_reads' HO_220000.out).2.2 | (with_reducible refine Kd.C_alloc ?_ _) | (with_reducible refine Kd.C_drewN ?_ _) | (with_reducible refine Kd.C_drew ?_)))
                              (case side2 => exact (Kd.R_reads' HO_220000.out).2.1)
                              (case side3 => repeat (first | exact (Kd.R_reads' HO_220001.out).2.2 | (with_reducible refine Kd.C_alloc ?_ _) | (with_reducible refine Kd.C_drewN ?_ _) | (with_reducible refine Kd.C_drew ?_)))
                              (case side4 => exact (Kd.R_reads' HO_220001.out).2.1)
                              rintro e w32 ⟨v227, v230, rfl, ho0, ho1, hb⟩
                              refine ⟨_, rfl, ?_⟩
                              have n0_ := Aside0.mk (Kd.R_elder' (by (with_reducible repeat (first | apply Kd.R_alloc | apply Kd.R_drewN | apply Kd.R_drew)); exact HO_220000.out) (Kd.R_base ho0) hb)
                              have n1_ := Aside0.mk (Kd.R_elder' (by (with_reducible repeat (first | apply Kd.R_alloc | apply Kd.R_drewN | apply Kd.R_drew)); exact HO_220001.out) (Kd.R_base ho1) hb)
                              have n2_ := Aside0.mk (Kd.R_lower (Kd.R_new' ho0 (Kd.R_lt (by (with_reducible repeat (first | apply Kd.R_alloc | apply Kd.R_drewN | apply Kd.R_drew)); exact HO_220000.out))) (below_size (by repeat (first | (with_reducible first | exact HB.out | apply below_alloc | apply pw_below_drewN | apply below_drew1 | refine below_set ?_ GE219.out | refine below_set ?_ GE234.out) | exact HB.out))))
                              have n3_ := Aside0.mk (Kd.R_lower (Kd.R_new' ho1 (Kd.R_lt (by (with_reducible repeat (first | apply Kd.R_alloc | apply Kd.R_drewN | apply Kd.R_drew)); exact HO_220001.out))) (below_size (by repeat (first | (with_reducible first | exact HB.out | apply below_alloc | apply pw_below_drewN | apply below_drew1 | refine below_set ?_ GE219.out | refine below_set ?_ GE234.out) | exact HB.out))))
                              have n4_ := Aside0.mk (blk_below (g := gb219) (o := .cells #[.slice Ao28 x220000_2.length co28, .slice Ao29 x220001_2.length co29] 25 (0, 0)) (by (with_reducible repeat (first | refine blk_drewN ?_ _ | refine blk_drew ?_ | refine blk_alloc ?_ _)); exact BK219.out) hb)
                              have n5_ := Aside0.mk (blk_below (g := gb234) (o := .cells #[.slice none 0 0, .slice none 0 0] 25 (0, 0)) (by (with_reducible repeat (first | refine blk_drewN ?_ _ | refine blk_drew ?_ | refine blk_alloc ?_ _)); exact BK234.out) hb)
                              have n6_ := Aside0.mk (below_step (by repeat (first | (with_reducible first | exact HB.out | apply below_alloc | apply pw_below_drewN | apply below_drew1 | refine below_set ?_ GE219.out | refine below_set ?_ GE234.out) | exact HB.out)) hb)
                              clear HO_220000
                              clear HO_220001
                              clear BK219
                              clear BK234
                              clear HB
                              have HO_220000 := n0_
                              have HO_220001 := n1_
                              have HO228 := n2_
                              have HO231 := n3_
                              have BK219 := n4_
                              have BK234 := n5_
                              have HB := n6_
                              clear n0_ n1_ n2_ n3_ n4_ n5_ n6_
                              (try clear hb)
                              (try clear hb2)
                              (try clear hk)
                              (try clear hi)
                              (try clear ho0)
                              (try clear ho1)
                              refine hK.out _ _ ⟨(blk_cell BK219.out 0).trans rfl, (blk_cell BK219.out 1).trans rfl, ((HB.out.cell (World.block_lt_of_cell? w _ hw224_0)).trans hw224_0), ((HB.out.cell (World.block_lt_of_cell? w _ hw225_0)).trans hw225_0)⟩ (fun hHeld => ?_)
                              clear hK K
                              refine norm_ (a' := ?_) ?_ ?_
                              rotate_left
                              · show Act.put _ (some 66) _ = _
                                simp only [Act.put, List.setIfInBounds_toArray, List.set_cons_zero, List.set_cons_succ, i64_w, i32_w]
                                rfl
                              refine pure_ (i := 10) (N := some 56) (v := ?_) (a' := ?_) #[true, true, true, true, true, true, true, true, true, true, true, false, false, false, true, false, false, false] rfl rfl (any_of HT_.out (by kernel_rfl)) (fun _ _ _ h => h) (Or.inl ⟨by rfl, ?_⟩) ?_ ?_
                              rotate_left
                              · intro w'
                                go_simp
                                with_reducible rfl
                              rotate_left
                              · simp only [Act.put, List.setIfInBounds_toArray, List.set_cons_zero, List.set_cons_succ, i64_w, i32_w]
                                rfl
                              refine pure_ (i := 11) (N := some 67) (v := ?_) (a' := ?_) #[true, true, true, true, true, true, true, true, true, true, true, true, false, false, true, false, false, false] rfl rfl (any_of HT_.out (by kernel_rfl)) (fun _ _ _ h => h) (Or.inl ⟨by rfl, ?_⟩) ?_ ?_
                              rotate_left
                              · intro w'
                                go_simp
                                with_reducible rfl
                              rotate_left
                              · simp only [Act.put, List.setIfInBounds_toArray, List.set_cons_zero, List.set_cons_succ, i64_w, i32_w]
                                rfl
                              refine pure_ (i := 12) (N := some 68) (v := ?_) (a' := ?_) #[true, true, true, true, true, true, true, true, true, true, true, true, true, false, true, false, false, false] rfl rfl (any_of HT_.out (by kernel_rfl)) (fun _ _ _ h => h) (Or.inl ⟨by rfl, ?_⟩) ?_ ?_
                              rotate_left
                              · intro w'
                                go_simp
                                with_reducible rfl
                              rotate_left
                              · simp only [Act.put, List.setIfInBounds_toArray, List.set_cons_zero, List.set_cons_succ, i64_w, i32_w]
                                rfl
                              refine pure_ (i := 13) (N := some 69) (v := ?_) (a' := ?_) #[true, true, true, true, true, true, true, true, true, true, true, true, true, true, true, false, false, false] rfl rfl (any_of HT_.out (by kernel_rfl)) (fun _ _ _ h => h) (Or.inl ⟨by rfl, ?_⟩) ?_ ?_
                              rotate_left
                              · intro w'
                                go_simp
                                with_reducible rfl
                              rotate_left
                              · simp only [Act.put, List.setIfInBounds_toArray, List.set_cons_zero, List.set_cons_succ, i64_w, i32_w]
                                rfl
                              exact norm_ (by simp only [putAll, Act.put, List.setIfInBounds_toArray, List.set_cons_zero, List.set_cons_succ]) (hCont (v227, v230, gb234) _ ⟨hHeld, (by (with_reducible repeat (first | apply Kd.R_alloc | apply Kd.R_drewN | apply Kd.R_drew)); exact Kd.R_mono HO228.out (fun _ hk => hk.2)), (by (with_reducible repeat (first | apply Kd.R_alloc | apply Kd.R_drewN | apply Kd.R_drew)); exact Kd.R_mono HO231.out (fun _ hk => hk.2)), (by (with_reducible repeat (first | apply Kd.R_alloc | apply Kd.R_drewN | apply Kd.R_drew)); exact Kd.R_mono HO_220000.out (fun _ hk => hk.2)), (by (with_reducible repeat (first | apply Kd.R_alloc | apply Kd.R_drewN | apply Kd.R_drew)); exact Kd.R_mono HO_220001.out (fun _ hk => hk.2)), (by (with_reducible repeat (first | refine blk_drewN ?_ _ | refine blk_drew ?_ | refine blk_alloc ?_ _)); exact BK219.out), (by (with_reducible repeat (first | refine blk_drewN ?_ _ | refine blk_drew ?_ | refine blk_alloc ?_ _)); exact BK234.out), GW234.out, GE234.out, NB219_234.out, NB234_219.out, (by repeat (first | (with_reducible first | exact HB.out | apply below_alloc | apply pw_below_drewN | apply below_drew1 | refine below_set ?_ GE219.out | refine below_set ?_ GE234.out) | exact HB.out))⟩)
                          rintro ⟨v227, v230, gb234⟩ w33 ⟨hS_, h0_, h1_, h2_, h3_, h4_, h5_, h6_, h7_, h8_, h9_, h10_⟩
                          have n0_ : Aside0 (Kd.R Kd.string 9 w33 w.heap.size (fun k_ => some k_ ≠ (.slice Ao28 x220000_2.length co28 : Value).ownBlock) v227 t226) := ⟨h0_⟩
                          have n1_ : Aside0 (Kd.R k73 73 w33 w.heap.size (fun k_ => some k_ ≠ (.slice Ao29 x220001_2.length co29 : Value).ownBlock) v230 t229) := ⟨h1_⟩
                          have n2_ : Aside0 (Kd.R Kd.string 9 w33 w.heap.size (fun k_ => some k_ ≠ (v227 : Value).ownBlock) (.slice Ao28 x220000_2.length co28) x220000_2) := ⟨h2_⟩
                          have n3_ : Aside0 (Kd.R k73 73 w33 w.heap.size (fun k_ => some k_ ≠ (v230 : Value).ownBlock) (.slice Ao29 x220001_2.length co29) x220001_2) := ⟨h3_⟩
                          have n4_ : Aside0 (w33.heap[gb219]? = some (.cells #[.slice Ao28 x220000_2.length co28, .slice Ao29 x220001_2.length co29] 25 (0, 0))) := ⟨h4_⟩
                          have n5_ : Aside0 (w33.heap[gb234]? = some (.cells #[.slice none 0 0, .slice none 0 0] 25 (0, 0))) := ⟨h5_⟩
                          have n6_ : Aside0 (w.heap.size ≤ gb234) := ⟨h6_⟩
                          have n7_ : Aside0 (w.heap.size ≤ gb234) := ⟨h7_⟩
                          have n8_ : Aside0 (gb219 ≠ gb234) := ⟨h8_⟩
                          have n9_ : Aside0 (gb234 ≠ gb219) := ⟨h9_⟩
                          have n10_ : Aside0 (Below w.heap.size w w33) := ⟨h10_⟩
                          clear HO_220000
                          clear HO_220001
                          clear BK219
                          clear HB
                          clear h0_ h1_ h2_ h3_ h4_ h5_ h6_ h7_ h8_ h9_ h10_
                          have HO228 := n0_
                          have HO231 := n1_
                          have HO_220000 := n2_
                          have HO_220001 := n3_
                          have BK219 := n4_
                          have BK234 := n5_
                          have GW234 := n6_
                          have GE234 := n7_
                          have NB219_234 := n8_
                          have NB234_219 := n9_
                          have HB := n10_
                          clear n0_ n1_ n2_ n3_ n4_ n5_ n6_ n7_ n8_ n9_ n10_
                          have hHeld : w33.cell? ⟨gb219, 0, none⟩ = some (.slice Ao28 x220000_2.length co28) ∧ w33.cell? ⟨gb219, 1, none⟩ = some (.slice Ao29 x220001_2.length co29) ∧ w33.cell? (ad224.add (x10_2).toNat) = some (.string (rdOf ByteArray.empty l0 x10_2)) ∧ w33.cell? (ad225.add (x10_2).toNat) = some (.int .i64 (rd l1 x10_2)) := hS_
                          obtain ⟨Ao34, co34, eo34⟩ := Kd.R_slice HO228.out
                          (first | subst eo34 | (injection eo34 with f1_ f2_ f3_; have f4_ := f1_.symm; have f5_ := f3_.symm; clear f1_ f2_ f3_; subst f4_; subst f5_))
                          obtain ⟨Ao36, co36, eo36⟩ := Kd.R_slice HO231.out
                          (first | subst eo36 | (injection eo36 with f1_ f2_ f3_; have f4_ := f1_.symm; have f5_ := f3_.symm; clear f1_ f2_ f3_; subst f4_; subst f5_))
                          refine norm_ (a' := ?_) ?_ ?_
                          rotate_left
                          · simp only [putAll, Act.put, List.setIfInBounds_toArray, List.set_cons_zero, List.set_cons_succ]
                            rfl
                          refine one_ (i := 15) (N := none) #[true, true, true, true, true, true, true, true, true, true, true, true, true, true, true, true, false, false] rfl rfl (one_of HT_.out (by kernel_rfl)) (by decide) (fun K hK => ?_)
                          have hs35 : w33.cell? ⟨gb234, 0, none⟩ = some (.slice none 0 0) := (blk_cell BK234.out 0).trans rfl
                          have hfs35 := blk_frozen BK234.out 0
                          have hns35_0 := NB219_234.out
                          have hms35_0 := NB234_219.out
                          have hs37 : w33.cell? ⟨gb234, 1, none⟩ = some (.slice none 0 0) := (blk_cell BK234.out 1).trans rfl
                          have hfs37 := blk_frozen BK234.out 1
                          have hns37_0 := NB219_234.out
                          have hms37_0 := NB234_219.out
                          refine skip_ (w1 := ?_) (by rfl) rfl ?_ ?_
                          rotate_left
                          · go_simp
                            rfl
                          refine hK.out _ _ ⟨((cell_far (p := ⟨gb234, _, none⟩) NB219_234.out _).trans (((cell_far (p := ⟨gb234, _, none⟩) NB219_234.out _).trans (hHeld.1)))), ((cell_far (p := ⟨gb234, _, none⟩) NB219_234.out _).trans (((cell_far (p := ⟨gb234, _, none⟩) NB219_234.out _).trans (hHeld.2.1)))), ((cell_far (p := ⟨gb234, _, none⟩) (by first | exact Nat.ne_of_lt (Nat.lt_of_lt_of_le (by have := World.block_lt_of_cell? _ _ hw224_0; first | rwa [add_block] at this | exact this) GW234.out) | (rw [add_block]; exact Nat.ne_of_lt (Nat.lt_of_lt_of_le (by have := World.block_lt_of_cell? _ _ hw224_0; first | rwa [add_block] at this | exact this) GW234.out)) | (show (Addr.add _ _).block ≠ _; rw [add_block]; exact Nat.ne_of_lt (Nat.lt_of_lt_of_le (by have := World.block_lt_of_cell? _ _ hw224_0; first | rwa [add_block] at this | exact this) GW234.out)) | (dsimp only; exact Nat.ne_of_lt (Nat.lt_of_lt_of_le (by have := World.block_lt_of_cell? _ _ hw224_0; first | rwa [add_block] at this | exact this) GW234.out))) _).trans (((cell_far (p := ⟨gb234, _, none⟩) (by first | exact Nat.ne_of_lt (Nat.lt_of_lt_of_le (by have := World.block_lt_of_cell? _ _ hw224_0; first | rwa [add_block] at this | exact this) GW234.out) | (rw [add_block]; exact Nat.ne_of_lt (Nat.lt_of_lt_of_le (by have := World.block_lt_of_cell? _ _ hw224_0; first | rwa [add_block] at this | exact this) GW234.out)) | (show (Addr.add _ _).block ≠ _; rw [add_block]; exact Nat.ne_of_lt (Nat.lt_of_lt_of_le (by have := World.block_lt_of_cell? _ _ hw224_0; first | rwa [add_block] at this | exact this) GW234.out)) | (dsimp only; exact Nat.ne_of_lt (Nat.lt_of_lt_of_le (by have := World.block_lt_of_cell? _ _ hw224_0; first | rwa [add_block] at this | exact this) GW234.out))) _).trans (hHeld.2.2.1)))), ((cell_far (p := ⟨gb234, _, none⟩) (by first | exact Nat.ne_of_lt (Nat.lt_of_lt_of_le (by have := World.block_lt_of_cell? _ _ hw225_0; first | rwa [add_block] at this | exact this) GW234.out) | (rw [add_block]; exact Nat.ne_of_lt (Nat.lt_of_lt_of_le (by have := World.block_lt_of_cell? _ _ hw225_0; first | rwa [add_block] at this | exact this) GW234.out)) | (show (Addr.add _ _).block ≠ _; rw [add_block]; exact Nat.ne_of_lt (Nat.lt_of_lt_of_le (by have := World.block_lt_of_cell? _ _ hw225_0; first | rwa [add_block] at this | exact this) GW234.out)) | (dsimp only; exact Nat.ne_of_lt (Nat.lt_of_lt_of_le (by have := World.block_lt_of_cell? _ _ hw225_0; first | rwa [add_block] at this | exact this) GW234.out))) _).trans (((cell_far (p := ⟨gb234, _, none⟩) (by first | exact Nat.ne_of_lt (Nat.lt_of_lt_of_le (by have := World.block_lt_of_cell? _ _ hw225_0; first | rwa [add_block] at this | exact this) GW234.out) | (rw [add_block]; exact Nat.ne_of_lt (Nat.lt_of_lt_of_le (by have := World.block_lt_of_cell? _ _ hw225_0; first | rwa [add_block] at this | exact this) GW234.out)) | (show (Addr.add _ _).block ≠ _; rw [add_block]; exact Nat.ne_of_lt (Nat.lt_of_lt_of_le (by have := World.block_lt_of_cell? _ _ hw225_0; first | rwa [add_block] at this | exact this) GW234.out)) | (dsimp only; exact Nat.ne_of_lt (Nat.lt_of_lt_of_le (by have := World.block_lt_of_cell? _ _ hw225_0; first | rwa [add_block] at this | exact this) GW234.out))) _).trans (hHeld.2.2.2))))⟩ (fun hHeld => ?_)
                          clear hK K
                          refine pure_ (i := 16) (N := some 12) (v := ?_) (a' := ?_) #[true, true, true, true, true, true, true, true, true, true, true, true, true, true, true, true, true, false] rfl rfl (any_of HT_.out (by kernel_rfl)) (fun _ _ _ h => h) (Or.inl ⟨by rfl, ?_⟩) ?_ ?_
                          rotate_left
                          · intro w'
                            go_simp
                            with_reducible rfl
                          rotate_left
                          · simp only [Act.put, List.setIfInBounds_toArray, List.set_cons_zero, List.set_cons_succ, i64_w, i32_w]
                            rfl
                          refine pure_ (i := 17) (N := some 13) (v := ?_) (a' := ?_) #[true, true, true, true, true, true, true, true, true, true, true, true, true, true, true, true, true, true] rfl rfl (any_of HT_.out (by kernel_rfl)) (fun _ _ _ h => h) (Or.inl ⟨by rfl, ?_⟩) ?_ ?_
                          rotate_left
                          · intro w'
                            go_simp
                            with_reducible rfl
                          rotate_left
                          · simp only [Act.put, List.setIfInBounds_toArray, List.set_cons_zero, List.set_cons_succ, i64_w, i32_w]
                            rfl
                          refine done_ (done_of HT_.out (by kernel_rfl)) ?_
                          go_upto_if 73 with (fail)
                          go_cut [14] (fun v14 wc => ∃ (kq : Nat) (x14_26 : List Bool), Aside0 (sextonlaw05_TwinRow.j3 kq l0 l1 l2 x9_2 x10_2 t232 t233 x14_26 t226 t229 = some r) ∧ Aside0 (kq ≤ kj16) ∧ Aside0 (Kd.R Kd.bool 4 wc w.heap.size (fun _ => True) v14 x14_26) ∧ Aside0 (Kd.R Kd.string 9 wc w.heap.size (fun k_ => some k_ ≠ ((.slice Ao34 t226.length co34) : Value).ownBlock) (.slice Ao28 x220000_2.length co28) x220000_2) ∧ Aside0 (Kd.R k73 73 wc w.heap.size (fun k_ => some k_ ≠ ((.slice Ao36 t229.length co36) : Value).ownBlock) (.slice Ao29 x220001_2.length co29) x220001_2) ∧ Aside0 (Kd.R Kd.string 9 wc w.heap.size (fun k_ => some k_ ≠ ((.slice Ao28 x220000_2.length co28) : Value).ownBlock) (.slice Ao34 t226.length co34) t226) ∧ Aside0 (Kd.R k73 73 wc w.heap.size (fun k_ => some k_ ≠ ((.slice Ao29 x220001_2.length co29) : Value).ownBlock) (.slice Ao36 t229.length co36) t229) ∧ Aside0 (wc.heap[gb219]? = some (.cells #[(.slice Ao28 x220000_2.length co28), (.slice Ao29 x220001_2.length co29)] 25 (0, 0))) ∧ Aside0 (wc.heap[gb234]? = some (.cells #[(.slice Ao34 t226.length co34), (.slice Ao36 t229.length co36)] 25 (0, 0))) ∧ Aside0 (Below w.heap.size w wc))
                          case first =>
                            have H := HC27.out
                            clear HC27
                            by_cases c38 : x10_2 < (l2.length : Int)
                            · rw [if_pos c38] at H
                              have c38b0 : decide (x10_2 < (l2.length : Int)) = true := decide_eq_true c38
                              clear c38
                              (first | rw [c38b0] | (simp only [i64_w, i32_w]; rw [c38b0]) | skip)
                              by_cases c39 : ([] : List Bool).length + (rd_L8 l2 x10_2).length < 140737488355328
                              · rw [if_pos c39] at H
                                have LMc39 := Aside0.mk c39
                                clear c39
                                obtain ⟨y236, hy236⟩ : ∃ y_ : List Bool, y_ = (([] : List Bool) ++ (rd_L8 l2 x10_2)) := ⟨_, rfl⟩
                                replace H : (sextonlaw05_TwinRow.j3 kj16 l0 l1 l2 x9_2 x10_2 t232 t233 y236 t226 t229) = some r := by first | (rw [hy236]; with_reducible exact H) | (have H2_ := (Option.bind_some _ _).symm.trans H; rw [hy236]; with_reducible exact H2_) | (have H2_ := (Option.bind_some _ _).symm.trans H; with_reducible exact H2_) | with_reducible exact H | (rw [hy236]; exact H) | exact H
                                have Ny236 := Aside0.mk hy236
                                clear hy236
                                have H' := Aside0.mk H
                                clear H
                                have p235 : 0 ≤ (x10_2 : Int) := of_decide_eq_true (by first | (with_reducible assumption) | assumption)
                                have q235 : x10_2 < (l2.length : Int) := of_decide_eq_true (by first | (with_reducible assumption) | assumption)
                                obtain ⟨ad235, A235_0, c235_0, e235, hx235_0, hl235_0, hi235_0⟩ := at_L8 HR2.out x10_2 p235 q235
                                cases e235
                                have hn235_0 : ad235.block ≠ gb234 := Nat.ne_of_lt (Nat.lt_of_lt_of_le (by have := World.block_lt_of_cell? _ _ hx235_0; first | rwa [add_block] at this | exact this) GW234.out)
                                have hn235_1 : ad235.block ≠ gb234 := Nat.ne_of_lt (Nat.lt_of_lt_of_le (by have := World.block_lt_of_cell? _ _ hx235_0; first | rwa [add_block] at this | exact this) GW234.out)
                                replace hx235_0 := (HB.out.cell (World.block_lt_of_cell? w _ hx235_0)).trans hx235_0
                                have HR235_0 := Aside0.mk hi235_0
                                have HC235_0 := Aside0.mk hl235_0
                                clear hi235_0 hl235_0
                                replace hx235_0 := (cell_far (p := ⟨gb234, 0, none⟩) (by first | (rw [add_block]; exact hn235_0) | (show (Addr.add _ _).block ≠ _; rw [add_block]; exact hn235_0) | exact hn235_0) (.slice Ao34 t226.length co34)).trans hx235_0
                                replace hx235_0 := (cell_far (p := ⟨gb234, 1, none⟩) (by first | (rw [add_block]; exact hn235_1) | (show (Addr.add _ _).block ≠ _; rw [add_block]; exact hn235_1) | exact hn235_1) (.slice Ao36 t229.length co36)).trans hx235_0
                                clear hn235_0
                                clear hn235_1
                                replace p235 := eq_true p235
                                replace q235 := eq_true q235
                                go_wp2_with (first | ((with_reducible refine gate_builtin (b := .append) (xs := #[.tmp 74, .tmp 78]) rfl ?_); (try (refine gate_guard (by rfl) ?_; dsimp only)); at_builtin; refine Kd.R_append_rows Kd.bool (w0 := w) w.heap.size rfl (.tmp 74) (.tmp 78) 34 4 (.bool false) 1 rfl Try.underlying34 info4 rfl (by decide) (by omega) (.slice none 0 0) ([] : List Bool) (rd_L8 l2 x10_2) _ _ _ (fun _ => True) (fun _ => False) rfl rfl ?aO ?aR (fun _ _ h => h) (fun _ h => h.elim) ?aF ?aB ?aS ?aL ?_; (case aR => exact Kd.C_below HR235_0.out (by repeat (first | (with_reducible first | exact HB.out | apply below_alloc | apply pw_below_drewN | apply below_drew1 | refine below_set ?_ GE219.out | refine below_set ?_ GE234.out) | exact HB.out))); (case aB => exact (by repeat (first | (with_reducible first | exact HB.out | apply below_alloc | apply pw_below_drewN | apply below_drew1 | refine below_set ?_ GE219.out | refine below_set ?_ GE234.out) | exact HB.out))); (case aF => exact (fun _ _ => trivial)); (case aO => exact ((Kd.R_nil _ _ _ _ (fun _ => True)))); (case aS => exact (below_size (by repeat (first | (with_reducible first | exact HB.out | apply below_alloc | apply pw_below_drewN | apply below_drew1 | refine below_set ?_ GE219.out | refine below_set ?_ GE234.out) | exact HB.out)))); (case aL => have := LMc39.out; omega); intro v237 w40 ho hb hg hat; rw [← Ny236.out] at ho; have n0_ := Aside0.mk (Kd.R_grown (by (with_reducible repeat (first | apply Kd.R_alloc | apply Kd.R_drewN | apply Kd.R_drew)); exact (Kd.R_mono (Kd.R_far (p := ⟨gb234, 1, none⟩) (Kd.R_far (p := ⟨gb234, 0, none⟩) (Kd.R_types HO_220000.out BK234.out (by decide)) (fun _ hk => hk.2) (.slice Ao34 t226.length co34)) (fun _ hk => hk.2) (.slice Ao36 t229.length co36)) (fun _ h_ => h_.1))) hg (fun _ _ => by simp [Value.ownBlock])); have n1_ := Aside0.mk (Kd.R_grown (by (with_reducible repeat (first | apply Kd.R_alloc | apply Kd.R_drewN | apply Kd.R_drew)); exact (Kd.R_mono (Kd.R_far (p := ⟨gb234, 1, none⟩) (Kd.R_far (p := ⟨gb234, 0, none⟩) (Kd.R_types HO_220001.out BK234.out (by decide)) (fun _ hk => hk.2) (.slice Ao34 t226.length co34)) (fun _ hk => hk.2) (.slice Ao36 t229.length co36)) (fun _ h_ => h_.1))) hg (fun _ _ => by simp [Value.ownBlock])); have n2_ := Aside0.mk (blk_grown (g := gb219) (o := .cells #[.slice Ao28 x220000_2.length co28, .slice Ao29 x220001_2.length co29] 25 (0, 0)) (by (with_reducible repeat (first | refine blk_drewN ?_ _ | refine blk_drew ?_ | refine blk_alloc ?_ _)); refine blk_far ?_ NB219_234.out _; (with_reducible repeat (first | refine blk_drewN ?_ _ | refine blk_drew ?_ | refine blk_alloc ?_ _)); refine blk_far ?_ NB219_234.out _; (with_reducible repeat (first | refine blk_drewN ?_ _ | refine blk_drew ?_ | refine blk_alloc ?_ _)); exact BK219.out) hg (by simp [Value.ownBlock])); have n3_ := Aside0.mk (Kd.R_grown (by (with_reducible repeat (first | apply Kd.R_alloc | apply Kd.R_drewN | apply Kd.R_drew)); exact (Kd.R_mono (Kd.R_far (p := ⟨gb234, 1, none⟩) (Kd.R_far (p := ⟨gb234, 0, none⟩) (Kd.R_types HO228.out BK234.out (by decide)) (fun _ hk => hk.2) (.slice Ao34 t226.length co34)) (fun _ hk => hk.2) (.slice Ao36 t229.length co36)) (fun _ h_ => h_.1))) hg (fun _ _ => by simp [Value.ownBlock])); have n4_ := Aside0.mk (Kd.R_grown (by (with_reducible repeat (first | apply Kd.R_alloc | apply Kd.R_drewN | apply Kd.R_drew)); exact (Kd.R_mono (Kd.R_far (p := ⟨gb234, 1, none⟩) (Kd.R_far (p := ⟨gb234, 0, none⟩) (Kd.R_types HO231.out BK234.out (by decide)) (fun _ hk => hk.2) (.slice Ao34 t226.length co34)) (fun _ hk => hk.2) (.slice Ao36 t229.length co36)) (fun _ h_ => h_.1))) hg (fun _ _ => by simp [Value.ownBlock])); have n5_ := Aside0.mk (blk_grown (g := gb234) (o := .cells #[.slice Ao34 t226.length co34, .slice Ao36 t229.length co36] 25 (0, 0)) (by (with_reducible repeat (first | refine blk_drewN ?_ _ | refine blk_drew ?_ | refine blk_alloc ?_ _)); refine blk_put (cs := #[.slice Ao34 t226.length co34, .slice none 0 0]) ?_ 1 _ rfl; (with_reducible repeat (first | refine blk_drewN ?_ _ | refine blk_drew ?_ | refine blk_alloc ?_ _)); refine blk_put (cs := #[.slice none 0 0, .slice none 0 0]) ?_ 0 _ rfl; (with_reducible repeat (first | refine blk_drewN ?_ _ | refine blk_drew ?_ | refine blk_alloc ?_ _)); exact BK234.out) hg (by simp [Value.ownBlock])); have n6_ := Aside0.mk (hb); have n7_ := Aside0.mk (ho); clear HO_220000; clear HO_220001; clear BK219; clear HO228; clear HO231; clear BK234; clear HB; have HO_220000 := n0_; have HO_220001 := n1_; have BK219 := n2_; have HO228 := n3_; have HO231 := n4_; have BK234 := n5_; have HB := n6_; have HO238 := n7_; clear n0_ n1_ n2_ n3_ n4_ n5_ n6_ n7_; clear ho hb hg hat))
                                go_meet
                                case rel => exact ⟨_, (y236), H', ⟨by have := HJ4.out; have := HK2.out; have := HJ16.out; first | omega | exact Nat.le_refl _⟩, ⟨by (with_reducible repeat (first | apply Kd.R_alloc | apply Kd.R_drewN | apply Kd.R_drew)); exact HO238.out⟩, ⟨by (with_reducible repeat (first | apply Kd.R_alloc | apply Kd.R_drewN | apply Kd.R_drew)); exact HO_220000.out⟩, ⟨by (with_reducible repeat (first | apply Kd.R_alloc | apply Kd.R_drewN | apply Kd.R_drew)); exact HO_220001.out⟩, ⟨by (with_reducible repeat (first | apply Kd.R_alloc | apply Kd.R_drewN | apply Kd.R_drew)); exact HO228.out⟩, ⟨by (with_reducible repeat (first | apply Kd.R_alloc | apply Kd.R_drewN | apply Kd.R_drew)); exact HO231.out⟩, ⟨by (with_reducible repeat (first | refine blk_drewN ?_ _ | refine blk_drew ?_ | refine blk_alloc ?_ _)); exact BK219.out⟩, ⟨by (with_reducible repeat (first | refine blk_drewN ?_ _ | refine blk_drew ?_ | refine blk_alloc ?_ _)); exact BK234.out⟩, ⟨by repeat (first | (with_reducible first | exact HB.out | apply below_alloc | apply pw_below_drewN | apply below_drew1 | refine below_set ?_ GE219.out | refine below_set ?_ GE234.out) | exact HB.out)⟩⟩
                              · rw [if_neg c39] at H
                                exact absurd H (by simp)
                            · rw [if_neg c38] at H
                              have c38b0 : decide (x10_2 < (l2.length : Int)) = false := decide_eq_false c38
                              clear c38
                              (first | rw [c38b0] | (simp only [i64_w, i32_w]; rw [c38b0]) | skip)
                              have H' := Aside0.mk H
                              clear H
                              go_wp2
                              go_meet
                              case rel => exact ⟨_, (([] : List Bool)), H', ⟨by have := HJ4.out; have := HK2.out; have := HJ16.out; first | omega | exact Nat.le_refl _⟩, ⟨by first | exact Kd.R_nil _ _ _ _ _ | exact Kd.N_nil _ _ _ _ _ | exact Kd.V_nil _ _ _ _ _ | exact Kd.Q_nil _ _ _ _ _ | exact Kd.S_nil _ _ _ _ _⟩, ⟨by (with_reducible repeat (first | apply Kd.R_alloc | apply Kd.R_drewN | apply Kd.R_drew)); exact Kd.R_mono (Kd.R_far (p := ⟨gb234, 1, none⟩) (Kd.R_far (p := ⟨gb234, 0, none⟩) (Kd.R_types HO_220000.out BK234.out (by decide)) (fun _ hk => hk.2) (.slice Ao34 t226.length co34)) (fun _ hk => hk.2) (.slice Ao36 t229.length co36)) (fun _ hk => hk.1)⟩, ⟨by (with_reducible repeat (first | apply Kd.R_alloc | apply Kd.R_drewN | apply Kd.R_drew)); exact Kd.R_mono (Kd.R_far (p := ⟨gb234, 1, none⟩) (Kd.R_far (p := ⟨gb234, 0, none⟩) (Kd.R_types HO_220001.out BK234.out (by decide)) (fun _ hk => hk.2) (.slice Ao34 t226.length co34)) (fun _ hk => hk.2) (.slice Ao36 t229.length co36)) (fun _ hk => hk.1)⟩, ⟨by (with_reducible repeat (first | apply Kd.R_alloc | apply Kd.R_drewN | apply Kd.R_drew)); exact Kd.R_mono (Kd.R_far (p := ⟨gb234, 1, none⟩) (Kd.R_far (p := ⟨gb234, 0, none⟩) (Kd.R_types HO228.out BK234.out (by decide)) (fun _ hk => hk.2) (.slice Ao34 t226.length co34)) (fun _ hk => hk.2) (.slice Ao36 t229.length co36)) (fun _ hk => hk.1)⟩, ⟨by (with_reducible repeat (first | apply Kd.R_alloc | apply Kd.R_drewN | apply Kd.R_drew)); exact Kd.R_mono (Kd.R_far (p := ⟨gb234, 1, none⟩) (Kd.R_far (p := ⟨gb234, 0, none⟩) (Kd.R_types HO231.out BK234.out (by decide)) (fun _ hk => hk.2) (.slice Ao34 t226.length co34)) (fun _ hk => hk.2) (.slice Ao36 t229.length co36)) (fun _ hk => hk.1)⟩, ⟨by (with_reducible repeat (first | refine blk_drewN ?_ _ | refine blk_drew ?_ | refine blk_alloc ?_ _)); refine blk_far ?_ NB219_234.out _; (with_reducible repeat (first | refine blk_drewN ?_ _ | refine blk_drew ?_ | refine blk_alloc ?_ _)); refine blk_far ?_ NB219_234.out _; (with_reducible repeat (first | refine blk_drewN ?_ _ | refine blk_drew ?_ | refine blk_alloc ?_ _)); exact BK219.out⟩, ⟨by (with_reducible repeat (first | refine blk_drewN ?_ _ | refine blk_drew ?_ | refine blk_alloc ?_ _)); refine blk_put (cs := #[.slice Ao34 t226.length co34, .slice none 0 0]) ?_ 1 _ rfl; (with_reducible repeat (first | refine blk_drewN ?_ _ | refine blk_drew ?_ | refine blk_alloc ?_ _)); refine blk_put (cs := #[.slice none 0 0, .slice none 0 0]) ?_ 0 _ rfl; (with_reducible repeat (first | refine blk_drewN ?_ _ | refine blk_drew ?_ | refine blk_alloc ?_ _)); exact BK234.out⟩, ⟨by repeat (first | (with_reducible first | exact HB.out | apply below_alloc | apply pw_below_drewN | apply below_drew1 | refine below_set ?_ GE219.out | refine below_set ?_ GE234.out) | exact HB.out)⟩⟩
                          case rest =>
                            clear HC27
                            try clear c1
                            try clear c2
                            try clear p2
                            try clear q2
                            try clear hx2
                            try clear c3
                            try clear c5
                            try clear c11
                            try clear c11b0
                            try clear c11b1
                            try clear c12
                            try clear c12b0
                            try clear c12b1
                            try clear c13
                            try clear c14
                            try clear c15
                            try clear c16
                            try clear c16b0
                            try clear c17
                            try clear c18
                            try clear c18b0
                            try clear c19
                            try clear c19b0
                            try clear c19b1
                            try clear c20
                            try clear p22
                            try clear q22
                            try clear hx22
                            try clear c23
                            try clear c23b0
                            try clear p23
                            try clear q23
                            try clear hx23
                            try clear c24
                            try clear c24b0
                            try clear c25
                            try clear c25b0
                            try clear c38
                            try clear c38b0
                            try clear c39
                            try clear hcz9_0
                            try clear hcz9_1
                            try clear hfz9_0
                            try clear hfz9_1
                            try clear hx222_0
                            try clear hx224_0
                            try clear hx225_0
                            try clear hx235_0
                            try clear p2
                            try clear p222
                            try clear p224
                            try clear p225
                            try clear p235
                            try clear q2
                            try clear q222
                            try clear q224
                            try clear q225
                            try clear q235
                            obtain ⟨kq, x14_26, HA, HJ26, HO_14, HO_220000, HO_220001, HO_235000, HO_235001, BK219, BK234, HB⟩ := hcut
                            cases kq with
                            | zero => exact absurd HA.out (by simp [sextonlaw05_TwinRow.j3])
                            | succ kj26 =>
                              have H := HA.out
                              clear HA
                              simp only [sextonlaw05_TwinRow.j3] at H
                              replace H := Option.bind_eq_some_iff.mp H
                              obtain ⟨⟨t239, t242, t245⟩, A410, H⟩ := H
                              replace H : ((twin_Get.f t239 t242 0).bind fun bt247 => (if t233 = 0 then (if t245 = 0 then (if bt247.2.2 = 0 then (if 0 ≤ x10_2 then (if x10_2 < (l0.length : Int) then (if bt247.1.toList = (rdOf ByteArray.empty l0 x10_2).toList then (sextonlaw05_TwinRow.l0 kj26 l0 l1 l2 bt247.1 (wrap64 (x10_2 + 1)) t239 t242) else (if t232 = true then (some false) else (if bt247.1.toList = x9_2.toList then (sextonlaw05_TwinRow.l0 kj26 l0 l1 l2 bt247.1 (wrap64 (x10_2 + 1)) t239 t242) else (some false)))) else (none)) else (none)) else (some false)) else (some false)) else (some false))) = some r := H
                              have A41 := Aside0.mk A410
                              clear A410
                              replace H := Option.bind_eq_some_iff.mp H
                              obtain ⟨⟨t247, t248, t249⟩, A420, H⟩ := H
                              replace H : (if t233 = 0 then (if t245 = 0 then (if t249 = 0 then (if 0 ≤ x10_2 then (if x10_2 < (l0.length : Int) then (if t247.toList = (rdOf ByteArray.empty l0 x10_2).toList then (sextonlaw05_TwinRow.l0 kj26 l0 l1 l2 t247 (wrap64 (x10_2 + 1)) t239 t242) else (if t232 = true then (some false) else (if t247.toList = x9_2.toList then (sextonlaw05_TwinRow.l0 kj26 l0 l1 l2 t247 (wrap64 (x10_2 + 1)) t239 t242) else (some false)))) else (none)) else (none)) else (some false)) else (some false)) else (some false)) = some r := H
                              have A42 := Aside0.mk A420
                              clear A420
                              by_cases c43 : t233 = 0
                              · rw [if_pos c43] at H
                                have c43b0 : (t233 == 0) = true := beq_iff_eq.mpr c43
                                have c43b1 : (t233 != 0) = false := bne_eq_false_iff_eq.mpr c43
                                clear c43
                                by_cases c44 : t245 = 0
                                · rw [if_pos c44] at H
                                  have c44b0 : (t245 == 0) = true := beq_iff_eq.mpr c44
                                  have c44b1 : (t245 != 0) = false := bne_eq_false_iff_eq.mpr c44
                                  clear c44
                                  by_cases c45 : t249 = 0
                                  · rw [if_pos c45] at H
                                    have c45b0 : (t249 == 0) = true := beq_iff_eq.mpr c45
                                    have c45b1 : (t249 != 0) = false := bne_eq_false_iff_eq.mpr c45
                                    clear c45
                                    by_cases c46 : 0 ≤ x10_2
                                    · rw [if_pos c46] at H
                                      have c46b0 : decide (0 ≤ x10_2) = true := decide_eq_true c46
                                      clear c46
                                      by_cases c47 : x10_2 < (l0.length : Int)
                                      · rw [if_pos c47] at H
                                        have c47b0 : decide (x10_2 < (l0.length : Int)) = true := decide_eq_true c47
                                        clear c47
                                        by_cases c48 : t247.toList = (rdOf ByteArray.empty l0 x10_2).toList
                                        · rw [if_pos c48] at H
                                          have c48b0 : (t247.toList == (rdOf ByteArray.empty l0 x10_2).toList) = true := beq_iff_eq.mpr c48
                                          have c48b1 : (t247.toList != (rdOf ByteArray.empty l0 x10_2).toList) = false := bne_eq_false_iff_eq.mpr c48
                                          clear c48
                                          have H' := Aside0.mk H
                                          clear H
                                          have hnb49 := NB234_219.out
                                          have hnc49 := NB219_234.out
                                          have hcz50_0 : wc.cell? ⟨gb234, 0, none⟩ = some (.slice Ao34 t226.length co34) := (blk_cell BK234.out 0).trans rfl
                                          have hcz50_1 : wc.cell? ⟨gb234, 1, none⟩ = some (.slice Ao36 t229.length co36) := (blk_cell BK234.out 1).trans rfl
                                          have hfz50_0 := blk_frozen BK234.out 0
                                          have hfz50_1 := blk_frozen BK234.out 1
                                          obtain ⟨Ao51, co51, eo51⟩ := Kd.R_slice HO_14.out
                                          subst eo51
                                          go_wp2_with (first | ((with_reducible refine gate_callee (f := 16) rfl ?_); refine goesL_ (some 83) rfl rfl Try.func16 (by kernel_rfl) rfl #[.agg #[.slice Ao34 t226.length co34, .slice Ao36 t229.length co36], .slice Ao51 x14_26.length co51] rfl (by (try simp only [List.map_toArray, List.map_cons, List.map_nil]); first | done | rfl | (simp only [List.length_drop, List.length_take]; rfl)) ?_; (with_reducible refine (disk_Crash.calls _ _ t226 _ _ t229 _ _ x14_26 t239 t242 t245 _ ?side1 ?side2 ?side3 ?side4 ?side5 ?side6 A41.out).mono ?_); (case side1 => repeat (first | exact (Kd.R_reads' HO_235000.out).2.2 | (with_reducible refine Kd.C_alloc ?_ _) | (with_reducible refine Kd.C_drewN ?_ _) | (with_reducible refine Kd.C_drew ?_))); (case side2 => exact (Kd.R_reads' HO_235000.out).2.1); (case side3 => repeat (first | exact (Kd.R_reads' HO_235001.out).2.2 | (with_reducible refine Kd.C_alloc ?_ _) | (with_reducible refine Kd.C_drewN ?_ _) | (with_reducible refine Kd.C_drew ?_))); (case side4 => exact (Kd.R_reads' HO_235001.out).2.1); (case side5 => repeat (first | exact (Kd.R_reads' HO_14.out).2.2 | (with_reducible refine Kd.C_alloc ?_ _) | (with_reducible refine Kd.C_drewN ?_ _) | (with_reducible refine Kd.C_drew ?_))); (case side6 => exact (Kd.R_reads' HO_14.out).2.1); rintro e w52 ⟨v240, v243, rfl, ho0, ho1, hb⟩; refine ⟨_, rfl, ?_⟩; have n0_ := Aside0.mk (Kd.R_below (by (with_reducible repeat (first | apply Kd.R_alloc | apply Kd.R_drewN | apply Kd.R_drew)); exact HO_14.out) hb); have n1_ := Aside0.mk (Kd.R_elder' (by (with_reducible repeat (first | apply Kd.R_alloc | apply Kd.R_drewN | apply Kd.R_drew)); exact HO_220000.out) (Kd.R_base ho0) hb); have n2_ := Aside0.mk (Kd.R_elder' (by (with_reducible repeat (first | apply Kd.R_alloc | apply Kd.R_drewN | apply Kd.R_drew)); exact HO_220001.out) (Kd.R_base ho1) hb); have n3_ := Aside0.mk (Kd.R_elder' (by (with_reducible repeat (first | apply Kd.R_alloc | apply Kd.R_drewN | apply Kd.R_drew)); exact HO_235000.out) (Kd.R_base ho0) hb); have n4_ := Aside0.mk (Kd.R_elder' (by (with_reducible repeat (first | apply Kd.R_alloc | apply Kd.R_drewN | apply Kd.R_drew)); exact HO_235001.out) (Kd.R_base ho1) hb); have n5_ := Aside0.mk (Kd.R_lower (Kd.R_new' (Kd.R_new' ho0 (Kd.R_lt (by (with_reducible repeat (first | apply Kd.R_alloc | apply Kd.R_drewN | apply Kd.R_drew)); exact HO_220000.out))) (Kd.R_lt (by (with_reducible repeat (first | apply Kd.R_alloc | apply Kd.R_drewN | apply Kd.R_drew)); exact HO_235000.out))) (below_size (by repeat (first | (with_reducible first | exact HB.out | apply below_alloc | apply pw_below_drewN | apply below_drew1 | refine below_set ?_ GE219.out | refine below_set ?_ GE234.out) | exact HB.out)))); have n6_ := Aside0.mk (Kd.R_lower (Kd.R_new' (Kd.R_new' ho1 (Kd.R_lt (by (with_reducible repeat (first | apply Kd.R_alloc | apply Kd.R_drewN | apply Kd.R_drew)); exact HO_220001.out))) (Kd.R_lt (by (with_reducible repeat (first | apply Kd.R_alloc | apply Kd.R_drewN | apply Kd.R_drew)); exact HO_235001.out))) (below_size (by repeat (first | (with_reducible first | exact HB.out | apply below_alloc | apply pw_below_drewN | apply below_drew1 | refine below_set ?_ GE219.out | refine below_set ?_ GE234.out) | exact HB.out)))); have n7_ := Aside0.mk (blk_below (g := gb219) (o := .cells #[.slice Ao28 x220000_2.length co28, .slice Ao29 x220001_2.length co29] 25 (0, 0)) (by (with_reducible repeat (first | refine blk_drewN ?_ _ | refine blk_drew ?_ | refine blk_alloc ?_ _)); exact BK219.out) hb); have n8_ := Aside0.mk (blk_below (g := gb234) (o := .cells #[.slice Ao34 t226.length co34, .slice Ao36 t229.length co36] 25 (0, 0)) (by (with_reducible repeat (first | refine blk_drewN ?_ _ | refine blk_drew ?_ | refine blk_alloc ?_ _)); exact BK234.out) hb); have n9_ := Aside0.mk (below_step (by repeat (first | (with_reducible first | exact HB.out | apply below_alloc | apply pw_below_drewN | apply below_drew1 | refine below_set ?_ GE219.out | refine below_set ?_ GE234.out) | exact HB.out)) hb); clear HO_14; clear HO_220000; clear HO_220001; clear HO_235000; clear HO_235001; clear BK219; clear BK234; clear HB; have HO_14 := n0_; have HO_220000 := n1_; have HO_220001 := n2_; have HO_235000 := n3_; have HO_235001 := n4_; have HO241 := n5_; have HO244 := n6_; have BK219 := n7_; have BK234 := n8_; have HB := n9_; clear n0_ n1_ n2_ n3_ n4_ n5_ n6_ n7_ n8_ n9_; (try clear hb); (try clear hb2); (try clear hk); (try clear hi); (try clear ho0); (try clear ho1)) | ((with_reducible refine gate_dst (N := 15) rfl ?_); (try (refine gate_guard (by rfl) ?_; dsimp only)); refine box_event ?hg (N := 15) ?hd (cs := #[.slice none 0 0, .slice none 0 0]) (t := 25) ?hr ?_; (case hd => rfl); (case hg => rfl); (case hr => first | (go_simp; done) | (go_simp; rfl)); intro gb246 hg w53 hbox hb; have n0_ := Aside0.mk (Kd.R_below (by (with_reducible repeat (first | apply Kd.R_alloc | apply Kd.R_drewN | apply Kd.R_drew)); exact HO_14.out) hb); have n1_ := Aside0.mk (Kd.R_below (by (with_reducible repeat (first | apply Kd.R_alloc | apply Kd.R_drewN | apply Kd.R_drew)); exact HO_220000.out) hb); have n2_ := Aside0.mk (Kd.R_below (by (with_reducible repeat (first | apply Kd.R_alloc | apply Kd.R_drewN | apply Kd.R_drew)); exact HO_220001.out) hb); have n3_ := Aside0.mk (Kd.R_below (by (with_reducible repeat (first | apply Kd.R_alloc | apply Kd.R_drewN | apply Kd.R_drew)); exact HO_235000.out) hb); have n4_ := Aside0.mk (Kd.R_below (by (with_reducible repeat (first | apply Kd.R_alloc | apply Kd.R_drewN | apply Kd.R_drew)); exact HO_235001.out) hb); have n5_ := Aside0.mk (Kd.R_below (by (with_reducible repeat (first | apply Kd.R_alloc | apply Kd.R_drewN | apply Kd.R_drew)); exact HO241.out) hb); have n6_ := Aside0.mk (Kd.R_below (by (with_reducible repeat (first | apply Kd.R_alloc | apply Kd.R_drewN | apply Kd.R_drew)); exact HO244.out) hb); have n7_ := Aside0.mk (blk_below (g := gb219) (o := .cells #[.slice Ao28 x220000_2.length co28, .slice Ao29 x220001_2.length co29] 25 (0, 0)) (by (with_reducible repeat (first | refine blk_drewN ?_ _ | refine blk_drew ?_ | refine blk_alloc ?_ _)); exact BK219.out) hb); have n8_ := Aside0.mk (blk_below (g := gb234) (o := .cells #[.slice Ao34 t226.length co34, .slice Ao36 t229.length co36] 25 (0, 0)) (by (with_reducible repeat (first | refine blk_drewN ?_ _ | refine blk_drew ?_ | refine blk_alloc ?_ _)); exact BK234.out) hb); have n9_ := Aside0.mk (below_step (by repeat (first | (with_reducible first | exact HB.out | apply below_alloc | apply pw_below_drewN | apply below_drew1 | refine below_set ?_ GE219.out | refine below_set ?_ GE234.out) | exact HB.out)) hb); have n10_ := Aside0.mk (hbox); have n11_ := Aside0.mk ((by rw [hg]; exact (below_size (by repeat (first | (with_reducible first | exact HB.out | apply below_alloc | apply pw_below_drewN | apply below_drew1 | refine below_set ?_ GE219.out | refine below_set ?_ GE234.out) | exact HB.out))) : w.heap.size ≤ gb246)); have n12_ := Aside0.mk ((by rw [hg]; exact (below_size (by repeat (first | (with_reducible first | exact HB.out | apply below_alloc | apply pw_below_drewN | apply below_drew1 | refine below_set ?_ GE219.out | refine below_set ?_ GE234.out) | exact HB.out))) : w.heap.size ≤ gb246)); have n13_ := Aside0.mk ((by rw [hg]; exact Nat.ne_of_lt (blk_lt (g := gb219) (o := .cells #[.slice Ao28 x220000_2.length co28, .slice Ao29 x220001_2.length co29] 25 (0, 0)) (by (with_reducible repeat (first | refine blk_drewN ?_ _ | refine blk_drew ?_ | refine blk_alloc ?_ _)); exact BK219.out)) : gb219 ≠ gb246)); have n14_ := Aside0.mk ((by rw [hg]; exact Nat.ne_of_gt (blk_lt (g := gb219) (o := .cells #[.slice Ao28 x220000_2.length co28, .slice Ao29 x220001_2.length co29] 25 (0, 0)) (by (with_reducible repeat (first | refine blk_drewN ?_ _ | refine blk_drew ?_ | refine blk_alloc ?_ _)); exact BK219.out)) : gb246 ≠ gb219)); have n15_ := Aside0.mk ((by rw [hg]; exact Nat.ne_of_lt (blk_lt (g := gb234) (o := .cells #[.slice Ao34 t226.length co34, .slice Ao36 t229.length co36] 25 (0, 0)) (by (with_reducible repeat (first | refine blk_drewN ?_ _ | refine blk_drew ?_ | refine blk_alloc ?_ _)); exact BK234.out)) : gb234 ≠ gb246)); have n16_ := Aside0.mk ((by rw [hg]; exact Nat.ne_of_gt (blk_lt (g := gb234) (o := .cells #[.slice Ao34 t226.length co34, .slice Ao36 t229.length co36] 25 (0, 0)) (by (with_reducible repeat (first | refine blk_drewN ?_ _ | refine blk_drew ?_ | refine blk_alloc ?_ _)); exact BK234.out)) : gb246 ≠ gb234)); clear HO_14; clear HO_220000; clear HO_220001; clear HO_235000; clear HO_235001; clear HO241; clear HO244; clear BK219; clear BK234; clear HB; have HO_14 := n0_; have HO_220000 := n1_; have HO_220001 := n2_; have HO_235000 := n3_; have HO_235001 := n4_; have HO241 := n5_; have HO244 := n6_; have BK219 := n7_; have BK234 := n8_; have HB := n9_; have BK246 := n10_; have GW246 := n11_; have GE246 := n12_; have NB219_246 := n13_; have NB246_219 := n14_; have NB234_246 := n15_; have NB246_234 := n16_; clear n0_ n1_ n2_ n3_ n4_ n5_ n6_ n7_ n8_ n9_ n10_ n11_ n12_ n13_ n14_ n15_ n16_; clear hb hbox hg; obtain ⟨Ao54, co54, eo54⟩ := Kd.R_slice HO241.out; subst eo54; have hnb55 := NB246_219.out; have hnc55 := NB219_246.out; have hnb56 := NB246_234.out; have hnc56 := NB234_246.out; have hcz57_0 : w53.cell? ⟨gb246, 0, none⟩ = some (.slice none 0 0) := (blk_cell BK246.out 0).trans rfl; have hcz57_1 : w53.cell? ⟨gb246, 1, none⟩ = some (.slice none 0 0) := (blk_cell BK246.out 1).trans rfl; have hfz57_0 := blk_frozen BK246.out 0; have hfz57_1 := blk_frozen BK246.out 1; obtain ⟨Ao58, co58, eo58⟩ := Kd.R_slice HO244.out; subst eo58) | ((with_reducible refine gate_callee (f := 12) rfl ?_); refine goesL_ (some 88) rfl rfl Try.func12 (by kernel_rfl) rfl #[.agg #[.slice Ao54 t239.length co54, .slice Ao58 t242.length co58], .int .i64 0] rfl (by (try simp only [List.map_toArray, List.map_cons, List.map_nil]); first | done | rfl | (simp only [List.length_drop, List.length_take]; rfl)) ?_; (with_reducible refine (twin_Get.calls _ _ t239 _ _ t242 0 t247 t248 t249 _ ?side1 ?side2 ?side3 ?side4 A42.out).mono ?_); (case side1 => refine (Kd.R_reads' (e := 9) (base := w.heap.size) (ok := fun k_ => ((True ∧ some k_ ≠ (.slice Ao28 x220000_2.length co28 : Value).ownBlock) ∧ some k_ ≠ (.slice Ao34 t226.length co34 : Value).ownBlock)) (n := t239.length) (c := co54) ?_).2.2; exact (by (with_reducible repeat (first | apply Kd.R_alloc | apply Kd.R_drewN | apply Kd.R_drew)); exact (Kd.R_mono (Kd.R_far (p := ⟨gb246, 1, none⟩) (Kd.R_far (p := ⟨gb246, 0, none⟩) (Kd.R_types HO241.out BK246.out (by decide)) (fun _ hk => hk.2) (.slice Ao54 t239.length co54)) (fun _ hk => hk.2) (.slice Ao58 t242.length co58)) (fun _ h_ => h_.1)))); (case side2 => exact (Kd.R_reads' HO241.out).2.1); (case side3 => refine (Kd.R_reads' (e := 73) (base := w.heap.size) (ok := fun k_ => ((True ∧ some k_ ≠ (.slice Ao29 x220001_2.length co29 : Value).ownBlock) ∧ some k_ ≠ (.slice Ao36 t229.length co36 : Value).ownBlock)) (n := t242.length) (c := co58) ?_).2.2; exact (by (with_reducible repeat (first | apply Kd.R_alloc | apply Kd.R_drewN | apply Kd.R_drew)); exact (Kd.R_mono (Kd.R_far (p := ⟨gb246, 1, none⟩) (Kd.R_far (p := ⟨gb246, 0, none⟩) (Kd.R_types HO244.out BK246.out (by decide)) (fun _ hk => hk.2) (.slice Ao54 t239.length co54)) (fun _ hk => hk.2) (.slice Ao58 t242.length co58)) (fun _ h_ => h_.1)))); (case side4 => exact (Kd.R_reads' HO244.out).2.1); rintro e w59 ⟨rfl, hb⟩; refine ⟨_, rfl, ?_⟩; have n0_ := Aside0.mk (Kd.R_below (by (with_reducible repeat (first | apply Kd.R_alloc | apply Kd.R_drewN | apply Kd.R_drew)); exact (Kd.R_mono (Kd.R_far (p := ⟨gb246, 1, none⟩) (Kd.R_far (p := ⟨gb246, 0, none⟩) (Kd.R_types HO_14.out BK246.out (by decide)) (fun _ hk => hk.2) (.slice Ao54 t239.length co54)) (fun _ hk => hk.2) (.slice Ao58 t242.length co58)) (fun _ h_ => h_.1))) hb); have n1_ := Aside0.mk (Kd.R_below (by (with_reducible repeat (first | apply Kd.R_alloc | apply Kd.R_drewN | apply Kd.R_drew)); exact (Kd.R_mono (Kd.R_far (p := ⟨gb246, 1, none⟩) (Kd.R_far (p := ⟨gb246, 0, none⟩) (Kd.R_types HO_220000.out BK246.out (by decide)) (fun _ hk => hk.2) (.slice Ao54 t239.length co54)) (fun _ hk => hk.2) (.slice Ao58 t242.length co58)) (fun _ h_ => h_.1))) hb); have n2_ := Aside0.mk (Kd.R_below (by (with_reducible repeat (first | apply Kd.R_alloc | apply Kd.R_drewN | apply Kd.R_drew)); exact (Kd.R_mono (Kd.R_far (p := ⟨gb246, 1, none⟩) (Kd.R_far (p := ⟨gb246, 0, none⟩) (Kd.R_types HO_220001.out BK246.out (by decide)) (fun _ hk => hk.2) (.slice Ao54 t239.length co54)) (fun _ hk => hk.2) (.slice Ao58 t242.length co58)) (fun _ h_ => h_.1))) hb); have n3_ := Aside0.mk (Kd.R_below (by (with_reducible repeat (first | apply Kd.R_alloc | apply Kd.R_drewN | apply Kd.R_drew)); exact (Kd.R_mono (Kd.R_far (p := ⟨gb246, 1, none⟩) (Kd.R_far (p := ⟨gb246, 0, none⟩) (Kd.R_types HO_235000.out BK246.out (by decide)) (fun _ hk => hk.2) (.slice Ao54 t239.length co54)) (fun _ hk => hk.2) (.slice Ao58 t242.length co58)) (fun _ h_ => h_.1))) hb); have n4_ := Aside0.mk (Kd.R_below (by (with_reducible repeat (first | apply Kd.R_alloc | apply Kd.R_drewN | apply Kd.R_drew)); exact (Kd.R_mono (Kd.R_far (p := ⟨gb246, 1, none⟩) (Kd.R_far (p := ⟨gb246, 0, none⟩) (Kd.R_types HO_235001.out BK246.out (by decide)) (fun _ hk => hk.2) (.slice Ao54 t239.length co54)) (fun _ hk => hk.2) (.slice Ao58 t242.length co58)) (fun _ h_ => h_.1))) hb); have n5_ := Aside0.mk (Kd.R_below (by (with_reducible repeat (first | apply Kd.R_alloc | apply Kd.R_drewN | apply Kd.R_drew)); exact (Kd.R_mono (Kd.R_far (p := ⟨gb246, 1, none⟩) (Kd.R_far (p := ⟨gb246, 0, none⟩) (Kd.R_types HO241.out BK246.out (by decide)) (fun _ hk => hk.2) (.slice Ao54 t239.length co54)) (fun _ hk => hk.2) (.slice Ao58 t242.length co58)) (fun _ h_ => h_.1))) hb); have n6_ := Aside0.mk (Kd.R_below (by (with_reducible repeat (first | apply Kd.R_alloc | apply Kd.R_drewN | apply Kd.R_drew)); exact (Kd.R_mono (Kd.R_far (p := ⟨gb246, 1, none⟩) (Kd.R_far (p := ⟨gb246, 0, none⟩) (Kd.R_types HO244.out BK246.out (by decide)) (fun _ hk => hk.2) (.slice Ao54 t239.length co54)) (fun _ hk => hk.2) (.slice Ao58 t242.length co58)) (fun _ h_ => h_.1))) hb); have n7_ := Aside0.mk (blk_below (g := gb219) (o := .cells #[.slice Ao28 x220000_2.length co28, .slice Ao29 x220001_2.length co29] 25 (0, 0)) (by (with_reducible repeat (first | refine blk_drewN ?_ _ | refine blk_drew ?_ | refine blk_alloc ?_ _)); refine blk_far ?_ NB219_246.out _; (with_reducible repeat (first | refine blk_drewN ?_ _ | refine blk_drew ?_ | refine blk_alloc ?_ _)); refine blk_far ?_ NB219_246.out _; (with_reducible repeat (first | refine blk_drewN ?_ _ | refine blk_drew ?_ | refine blk_alloc ?_ _)); exact BK219.out) hb); have n8_ := Aside0.mk (blk_below (g := gb234) (o := .cells #[.slice Ao34 t226.length co34, .slice Ao36 t229.length co36] 25 (0, 0)) (by (with_reducible repeat (first | refine blk_drewN ?_ _ | refine blk_drew ?_ | refine blk_alloc ?_ _)); refine blk_far ?_ NB234_246.out _; (with_reducible repeat (first | refine blk_drewN ?_ _ | refine blk_drew ?_ | refine blk_alloc ?_ _)); refine blk_far ?_ NB234_246.out _; (with_reducible repeat (first | refine blk_drewN ?_ _ | refine blk_drew ?_ | refine blk_alloc ?_ _)); exact BK234.out) hb); have n9_ := Aside0.mk (blk_below (g := gb246) (o := .cells #[.slice Ao54 t239.length co54, .slice Ao58 t242.length co58] 25 (0, 0)) (by (with_reducible repeat (first | refine blk_drewN ?_ _ | refine blk_drew ?_ | refine blk_alloc ?_ _)); refine blk_put (cs := #[.slice Ao54 t239.length co54, .slice none 0 0]) ?_ 1 _ rfl; (with_reducible repeat (first | refine blk_drewN ?_ _ | refine blk_drew ?_ | refine blk_alloc ?_ _)); refine blk_put (cs := #[.slice none 0 0, .slice none 0 0]) ?_ 0 _ rfl; (with_reducible repeat (first | refine blk_drewN ?_ _ | refine blk_drew ?_ | refine blk_alloc ?_ _)); exact BK246.out) hb); have n10_ := Aside0.mk (below_step (by repeat (first | (with_reducible first | exact HB.out | apply below_alloc | apply pw_below_drewN | apply below_drew1 | refine below_set ?_ GE219.out | refine below_set ?_ GE234.out | refine below_set ?_ GE246.out) | exact HB.out)) hb); clear HO_14; clear HO_220000; clear HO_220001; clear HO_235000; clear HO_235001; clear HO241; clear HO244; clear BK219; clear BK234; clear BK246; clear HB; have HO_14 := n0_; have HO_220000 := n1_; have HO_220001 := n2_; have HO_235000 := n3_; have HO_235001 := n4_; have HO241 := n5_; have HO244 := n6_; have BK219 := n7_; have BK234 := n8_; have BK246 := n9_; have HB := n10_; clear n0_ n1_ n2_ n3_ n4_ n5_ n6_ n7_ n8_ n9_ n10_; (try clear hb); (try clear hb2); (try clear hk); (try clear hi); have p250 : 0 ≤ (x10_2 : Int) := of_decide_eq_true (by first | (with_reducible assumption) | assumption); have q250 : x10_2 < (l0.length : Int) := of_decide_eq_true (by first | (with_reducible assumption) | assumption); obtain ⟨ad250, e250, hx250_0⟩ := Kd.at_string HR0.out x10_2 p250 q250; obtain rfl : ad224 = ad250 := (by injection e250); replace hx250_0 := (HB.out.cell (World.block_lt_of_cell? w _ hx250_0)).trans hx250_0; replace p250 := eq_true p250; replace q250 := eq_true q250; have hcz60_0 : w59.cell? ⟨gb246, 0, none⟩ = some (.slice Ao54 t239.length co54) := (blk_cell BK246.out 0).trans rfl; have hcz60_1 : w59.cell? ⟨gb246, 1, none⟩ = some (.slice Ao58 t242.length co58) := (blk_cell BK246.out 1).trans rfl; have hfz60_0 := blk_frozen BK246.out 0; have hfz60_1 := blk_frozen BK246.out 1; have hcz61_0 : w59.cell? ⟨gb219, 0, none⟩ = some (.slice Ao28 x220000_2.length co28) := (blk_cell BK219.out 0).trans rfl; have hcz61_1 : w59.cell? ⟨gb219, 1, none⟩ = some (.slice Ao29 x220001_2.length co29) := (blk_cell BK219.out 1).trans rfl; have hfz61_0 := blk_frozen BK219.out 0; have hfz61_1 := blk_frozen BK219.out 1))
                                          go_roundg kj26
                                          case measure => have := HJ4.out; have := HK2.out; have := HJ16.out; have := HJ26.out; omega
                                          case rel => exact ⟨(t247), (wrap64 (x10_2 + 1)), (t239), (t242), (.slice Ao54 t239.length co54), (.slice Ao58 t242.length co58), (by first | rfl | (simp; done) | (simp [*]; done)), (by first | rfl | (simp; done) | (simp [*]; done)), H', ⟨by have := HJ4.out; have := HK2.out; have := HJ16.out; have := HJ26.out; omega⟩, ⟨by (with_reducible repeat (first | apply Kd.R_alloc | apply Kd.R_drewN | apply Kd.R_drew)); exact Kd.R_mono (Kd.R_far (p := ⟨gb219, 1, none⟩) (Kd.R_far (p := ⟨gb219, 0, none⟩) (Kd.R_types HO241.out BK219.out (by decide)) (fun _ hk => hk.2) (.slice Ao54 t239.length co54)) (fun _ hk => hk.2) (.slice Ao58 t242.length co58)) (fun _ hk => trivial)⟩, ⟨by (with_reducible repeat (first | apply Kd.R_alloc | apply Kd.R_drewN | apply Kd.R_drew)); exact Kd.R_mono (Kd.R_far (p := ⟨gb219, 1, none⟩) (Kd.R_far (p := ⟨gb219, 0, none⟩) (Kd.R_types HO244.out BK219.out (by decide)) (fun _ hk => hk.2) (.slice Ao54 t239.length co54)) (fun _ hk => hk.2) (.slice Ao58 t242.length co58)) (fun _ hk => trivial)⟩, ⟨by (with_reducible repeat (first | refine blk_drewN ?_ _ | refine blk_drew ?_ | refine blk_alloc ?_ _)); refine blk_put (cs := #[.slice Ao54 t239.length co54, .slice Ao29 x220001_2.length co29]) ?_ 1 _ rfl; (with_reducible repeat (first | refine blk_drewN ?_ _ | refine blk_drew ?_ | refine blk_alloc ?_ _)); refine blk_put (cs := #[.slice Ao28 x220000_2.length co28, .slice Ao29 x220001_2.length co29]) ?_ 0 _ rfl; (with_reducible repeat (first | refine blk_drewN ?_ _ | refine blk_drew ?_ | refine blk_alloc ?_ _)); exact BK219.out⟩, ⟨by repeat (first | (with_reducible first | exact HB.out | apply below_alloc | apply pw_below_drewN | apply below_drew1 | refine below_set ?_ GE219.out | refine below_set ?_ GE234.out | refine below_set ?_ GE246.out) | exact HB.out)⟩⟩
                                        · rw [if_neg c48] at H
                                          have c48b0 : (t247.toList == (rdOf ByteArray.empty l0 x10_2).toList) = false := beq_eq_false_iff_ne.mpr c48
                                          have c48b1 : (t247.toList != (rdOf ByteArray.empty l0 x10_2).toList) = true := bne_iff_ne.mpr c48
                                          by_cases c62 : t232 = true
                                          · subst c62
                                            have H1 : (some false) = some r := by rw [if_pos rfl] at H; exact H
                                            exact absurd (H1.trans (congrArg some HRT.out)) (by decide)
                                          · replace c62 := Bool.eq_false_iff.mpr c62
                                            subst c62
                                            have H1 : (if t247.toList = x9_2.toList then (sextonlaw05_TwinRow.l0 kj26 l0 l1 l2 t247 (wrap64 (x10_2 + 1)) t239 t242) else (some false)) = some r := by rw [if_neg (show ¬ (false = true) by decide)] at H; exact H
                                            clear H
                                            have H := H1
                                            clear H1
                                            by_cases c74 : t247.toList = x9_2.toList
                                            · rw [if_pos c74] at H
                                              have c74b0 : (t247.toList == x9_2.toList) = true := beq_iff_eq.mpr c74
                                              have c74b1 : (t247.toList != x9_2.toList) = false := bne_eq_false_iff_eq.mpr c74
                                              clear c74
                                              have H' := Aside0.mk H
                                              clear H
                                              have hnb75 := NB234_219.out
                                              have hnc75 := NB219_234.out
                                              have hcz76_0 : wc.cell? ⟨gb234, 0, none⟩ = some (.slice Ao34 t226.length co34) := (blk_cell BK234.out 0).trans rfl
                                              have hcz76_1 : wc.cell? ⟨gb234, 1, none⟩ = some (.slice Ao36 t229.length co36) := (blk_cell BK234.out 1).trans rfl
                                              have hfz76_0 := blk_frozen BK234.out 0
                                              have hfz76_1 := blk_frozen BK234.out 1
                                              obtain ⟨Ao77, co77, eo77⟩ := Kd.R_slice HO_14.out
                                              subst eo77
                                              go_wp2_with (first | ((with_reducible refine gate_callee (f := 16) rfl ?_); refine goesL_ (some 83) rfl rfl Try.func16 (by kernel_rfl) rfl #[.agg #[.slice Ao34 t226.length co34, .slice Ao36 t229.length co36], .slice Ao77 x14_26.length co77] rfl (by (try simp only [List.map_toArray, List.map_cons, List.map_nil]); first | done | rfl | (simp only [List.length_drop, List.length_take]; rfl)) ?_; (with_reducible refine (disk_Crash.calls _ _ t226 _ _ t229 _ _ x14_26 t239 t242 t245 _ ?side1 ?side2 ?side3 ?side4 ?side5 ?side6 A41.out).mono ?_); (case side1 => repeat (first | exact (Kd.R_reads' HO_235000.out).2.2 | (with_reducible refine Kd.C_alloc ?_ _) | (with_reducible refine Kd.C_drewN ?_ _) | (with_reducible refine Kd.C_drew ?_))); (case side2 => exact (Kd.R_reads' HO_235000.out).2.1); (case side3 => repeat (first | exact (Kd.R_reads' HO_235001.out).2.2 | (with_reducible refine Kd.C_alloc ?_ _) | (with_reducible refine Kd.C_drewN ?_ _) | (with_reducible refine Kd.C_drew ?_))); (case side4 => exact (Kd.R_reads' HO_235001.out).2.1); (case side5 => repeat (first | exact (Kd.R_reads' HO_14.out).2.2 | (with_reducible refine Kd.C_alloc ?_ _) | (with_reducible refine Kd.C_drewN ?_ _) | (with_reducible refine Kd.C_drew ?_))); (case side6 => exact (Kd.R_reads' HO_14.out).2.1); rintro e w78 ⟨v240, v243, rfl, ho0, ho1, hb⟩; refine ⟨_, rfl, ?_⟩; have n0_ := Aside0.mk (Kd.R_below (by (with_reducible repeat (first | apply Kd.R_alloc | apply Kd.R_drewN | apply Kd.R_drew)); exact HO_14.out) hb); have n1_ := Aside0.mk (Kd.R_elder' (by (with_reducible repeat (first | apply Kd.R_alloc | apply Kd.R_drewN | apply Kd.R_drew)); exact HO_220000.out) (Kd.R_base ho0) hb); have n2_ := Aside0.mk (Kd.R_elder' (by (with_reducible repeat (first | apply Kd.R_alloc | apply Kd.R_drewN | apply Kd.R_drew)); exact HO_220001.out) (Kd.R_base ho1) hb); have n3_ := Aside0.mk (Kd.R_elder' (by (with_reducible repeat (first | apply Kd.R_alloc | apply Kd.R_drewN | apply Kd.R_drew)); exact HO_235000.out) (Kd.R_base ho0) hb); have n4_ := Aside0.mk (Kd.R_elder' (by (with_reducible repeat (first | apply Kd.R_alloc | apply Kd.R_drewN | apply Kd.R_drew)); exact HO_235001.out) (Kd.R_base ho1) hb); have n5_ := Aside0.mk (Kd.R_lower (Kd.R_new' (Kd.R_new' ho0 (Kd.R_lt (by (with_reducible repeat (first | apply Kd.R_alloc | apply Kd.R_drewN | apply Kd.R_drew)); exact HO_220000.out))) (Kd.R_lt (by (with_reducible repeat (first | apply Kd.R_alloc | apply Kd.R_drewN | apply Kd.R_drew)); exact HO_235000.out))) (below_size (by repeat (first | (with_reducible first | exact HB.out | apply below_alloc | apply pw_below_drewN | apply below_drew1 | refine below_set ?_ GE219.out | refine below_set ?_ GE234.out) | exact HB.out)))); have n6_ := Aside0.mk (Kd.R_lower (Kd.R_new' (Kd.R_new' ho1 (Kd.R_lt (by (with_reducible repeat (first | apply Kd.R_alloc | apply Kd.R_drewN | apply Kd.R_drew)); exact HO_220001.out))) (Kd.R_lt (by (with_reducible repeat (first | apply Kd.R_alloc | apply Kd.R_drewN | apply Kd.R_drew)); exact HO_235001.out))) (below_size (by repeat (first | (with_reducible first | exact HB.out | apply below_alloc | apply pw_below_drewN | apply below_drew1 | refine below_set ?_ GE219.out | refine below_set ?_ GE234.out) | exact HB.out)))); have n7_ := Aside0.mk (blk_below (g := gb219) (o := .cells #[.slice Ao28 x220000_2.length co28, .slice Ao29 x220001_2.length co29] 25 (0, 0)) (by (with_reducible repeat (first | refine blk_drewN ?_ _ | refine blk_drew ?_ | refine blk_alloc ?_ _)); exact BK219.out) hb); have n8_ := Aside0.mk (blk_below (g := gb234) (o := .cells #[.slice Ao34 t226.length co34, .slice Ao36 t229.length co36] 25 (0, 0)) (by (with_reducible repeat (first | refine blk_drewN ?_ _ | refine blk_drew ?_ | refine blk_alloc ?_ _)); exact BK234.out) hb); have n9_ := Aside0.mk (below_step (by repeat (first | (with_reducible first | exact HB.out | apply below_alloc | apply pw_below_drewN | apply below_drew1 | refine below_set ?_ GE219.out | refine below_set ?_ GE234.out) | exact HB.out)) hb); clear HO_14; clear HO_220000; clear HO_220001; clear HO_235000; clear HO_235001; clear BK219; clear BK234; clear HB; have HO_14 := n0_; have HO_220000 := n1_; have HO_220001 := n2_; have HO_235000 := n3_; have HO_235001 := n4_; have HO241 := n5_; have HO244 := n6_; have BK219 := n7_; have BK234 := n8_; have HB := n9_; clear n0_ n1_ n2_ n3_ n4_ n5_ n6_ n7_ n8_ n9_; (try clear hb); (try clear hb2); (try clear hk); (try clear hi); (try clear ho0); (try clear ho1)) | ((with_reducible refine gate_dst (N := 15) rfl ?_); (try (refine gate_guard (by rfl) ?_; dsimp only)); refine box_event ?hg (N := 15) ?hd (cs := #[.slice none 0 0, .slice none 0 0]) (t := 25) ?hr ?_; (case hd => rfl); (case hg => rfl); (case hr => first | (go_simp; done) | (go_simp; rfl)); intro gb246 hg w79 hbox hb; have n0_ := Aside0.mk (Kd.R_below (by (with_reducible repeat (first | apply Kd.R_alloc | apply Kd.R_drewN | apply Kd.R_drew)); exact HO_14.out) hb); have n1_ := Aside0.mk (Kd.R_below (by (with_reducible repeat (first | apply Kd.R_alloc | apply Kd.R_drewN | apply Kd.R_drew)); exact HO_220000.out) hb); have n2_ := Aside0.mk (Kd.R_below (by (with_reducible repeat (first | apply Kd.R_alloc | apply Kd.R_drewN | apply Kd.R_drew)); exact HO_220001.out) hb); have n3_ := Aside0.mk (Kd.R_below (by (with_reducible repeat (first | apply Kd.R_alloc | apply Kd.R_drewN | apply Kd.R_drew)); exact HO_235000.out) hb); have n4_ := Aside0.mk (Kd.R_below (by (with_reducible repeat (first | apply Kd.R_alloc | apply Kd.R_drewN | apply Kd.R_drew)); exact HO_235001.out) hb); have n5_ := Aside0.mk (Kd.R_below (by (with_reducible repeat (first | apply Kd.R_alloc | apply Kd.R_drewN | apply Kd.R_drew)); exact HO241.out) hb); have n6_ := Aside0.mk (Kd.R_below (by (with_reducible repeat (first | apply Kd.R_alloc | apply Kd.R_drewN | apply Kd.R_drew)); exact HO244.out) hb); have n7_ := Aside0.mk (blk_below (g := gb219) (o := .cells #[.slice Ao28 x220000_2.length co28, .slice Ao29 x220001_2.length co29] 25 (0, 0)) (by (with_reducible repeat (first | refine blk_drewN ?_ _ | refine blk_drew ?_ | refine blk_alloc ?_ _)); exact BK219.out) hb); have n8_ := Aside0.mk (blk_below (g := gb234) (o := .cells #[.slice Ao34 t226.length co34, .slice Ao36 t229.length co36] 25 (0, 0)) (by (with_reducible repeat (first | refine blk_drewN ?_ _ | refine blk_drew ?_ | refine blk_alloc ?_ _)); exact BK234.out) hb); have n9_ := Aside0.mk (below_step (by repeat (first | (with_reducible first | exact HB.out | apply below_alloc | apply pw_below_drewN | apply below_drew1 | refine below_set ?_ GE219.out | refine below_set ?_ GE234.out) | exact HB.out)) hb); have n10_ := Aside0.mk (hbox); have n11_ := Aside0.mk ((by rw [hg]; exact (below_size (by repeat (first | (with_reducible first | exact HB.out | apply below_alloc | apply pw_below_drewN | apply below_drew1 | refine below_set ?_ GE219.out | refine below_set ?_ GE234.out) | exact HB.out))) : w.heap.size ≤ gb246)); have n12_ := Aside0.mk ((by rw [hg]; exact (below_size (by repeat (first | (with_reducible first | exact HB.out | apply below_alloc | apply pw_below_drewN | apply below_drew1 | refine below_set ?_ GE219.out | refine below_set ?_ GE234.out) | exact HB.out))) : w.heap.size ≤ gb246)); have n13_ := Aside0.mk ((by rw [hg]; exact Nat.ne_of_lt (blk_lt (g := gb219) (o := .cells #[.slice Ao28 x220000_2.length co28, .slice Ao29 x220001_2.length co29] 25 (0, 0)) (by (with_reducible repeat (first | refine blk_drewN ?_ _ | refine blk_drew ?_ | refine blk_alloc ?_ _)); exact BK219.out)) : gb219 ≠ gb246)); have n14_ := Aside0.mk ((by rw [hg]; exact Nat.ne_of_gt (blk_lt (g := gb219) (o := .cells #[.slice Ao28 x220000_2.length co28, .slice Ao29 x220001_2.length co29] 25 (0, 0)) (by (with_reducible repeat (first | refine blk_drewN ?_ _ | refine blk_drew ?_ | refine blk_alloc ?_ _)); exact BK219.out)) : gb246 ≠ gb219)); have n15_ := Aside0.mk ((by rw [hg]; exact Nat.ne_of_lt (blk_lt (g := gb234) (o := .cells #[.slice Ao34 t226.length co34, .slice Ao36 t229.length co36] 25 (0, 0)) (by (with_reducible repeat (first | refine blk_drewN ?_ _ | refine blk_drew ?_ | refine blk_alloc ?_ _)); exact BK234.out)) : gb234 ≠ gb246)); have n16_ := Aside0.mk ((by rw [hg]; exact Nat.ne_of_gt (blk_lt (g := gb234) (o := .cells #[.slice Ao34 t226.length co34, .slice Ao36 t229.length co36] 25 (0, 0)) (by (with_reducible repeat (first | refine blk_drewN ?_ _ | refine blk_drew ?_ | refine blk_alloc ?_ _)); exact BK234.out)) : gb246 ≠ gb234)); clear HO_14; clear HO_220000; clear HO_220001; clear HO_235000; clear HO_235001; clear HO241; clear HO244; clear BK219; clear BK234; clear HB; have HO_14 := n0_; have HO_220000 := n1_; have HO_220001 := n2_; have HO_235000 := n3_; have HO_235001 := n4_; have HO241 := n5_; have HO244 := n6_; have BK219 := n7_; have BK234 := n8_; have HB := n9_; have BK246 := n10_; have GW246 := n11_; have GE246 := n12_; have NB219_246 := n13_; have NB246_219 := n14_; have NB234_246 := n15_; have NB246_234 := n16_; clear n0_ n1_ n2_ n3_ n4_ n5_ n6_ n7_ n8_ n9_ n10_ n11_ n12_ n13_ n14_ n15_ n16_; clear hb hbox hg; obtain ⟨Ao80, co80, eo80⟩ := Kd.R_slice HO241.out; subst eo80; have hnb81 := NB246_219.out; have hnc81 := NB219_246.out; have hnb82 := NB246_234.out; have hnc82 := NB234_246.out; have hcz83_0 : w79.cell? ⟨gb246, 0, none⟩ = some (.slice none 0 0) := (blk_cell BK246.out 0).trans rfl; have hcz83_1 : w79.cell? ⟨gb246, 1, none⟩ = some (.slice none 0 0) := (blk_cell BK246.out 1).trans rfl; have hfz83_0 := blk_frozen BK246.out 0; have hfz83_1 := blk_frozen BK246.out 1; obtain ⟨Ao84, co84, eo84⟩ := Kd.R_slice HO244.out; subst eo84) | ((with_reducible refine gate_callee (f := 12) rfl ?_); refine goesL_ (some 88) rfl rfl Try.func12 (by kernel_rfl) rfl #[.agg #[.slice Ao80 t239.length co80, .slice Ao84 t242.length co84], .int .i64 0] rfl (by (try simp only [List.map_toArray, List.map_cons, List.map_nil]); first | done | rfl | (simp only [List.length_drop, List.length_take]; rfl)) ?_; (with_reducible refine (twin_Get.calls _ _ t239 _ _ t242 0 t247 t248 t249 _ ?side1 ?side2 ?side3 ?side4 A42.out).mono ?_); (case side1 => refine (Kd.R_reads' (e := 9) (base := w.heap.size) (ok := fun k_ => ((True ∧ some k_ ≠ (.slice Ao28 x220000_2.length co28 : Value).ownBlock) ∧ some k_ ≠ (.slice Ao34 t226.length co34 : Value).ownBlock)) (n := t239.length) (c := co80) ?_).2.2; exact (by (with_reducible repeat (first | apply Kd.R_alloc | apply Kd.R_drewN | apply Kd.R_drew)); exact (Kd.R_mono (Kd.R_far (p := ⟨gb246, 1, none⟩) (Kd.R_far (p := ⟨gb246, 0, none⟩) (Kd.R_types HO241.out BK246.out (by decide)) (fun _ hk => hk.2) (.slice Ao80 t239.length co80)) (fun _ hk => hk.2) (.slice Ao84 t242.length co84)) (fun _ h_ => h_.1)))); (case side2 => exact (Kd.R_reads' HO241.out).2.1); (case side3 => refine (Kd.R_reads' (e := 73) (base := w.heap.size) (ok := fun k_ => ((True ∧ some k_ ≠ (.slice Ao29 x220001_2.length co29 : Value).ownBlock) ∧ some k_ ≠ (.slice Ao36 t229.length co36 : Value).ownBlock)) (n := t242.length) (c := co84) ?_).2.2; exact (by (with_reducible repeat (first | apply Kd.R_alloc | apply Kd.R_drewN | apply Kd.R_drew)); exact (Kd.R_mono (Kd.R_far (p := ⟨gb246, 1, none⟩) (Kd.R_far (p := ⟨gb246, 0, none⟩) (Kd.R_types HO244.out BK246.out (by decide)) (fun _ hk => hk.2) (.slice Ao80 t239.length co80)) (fun _ hk => hk.2) (.slice Ao84 t242.length co84)) (fun _ h_ => h_.1)))); (case side4 => exact (Kd.R_reads' HO244.out).2.1); rintro e w85 ⟨rfl, hb⟩; refine ⟨_, rfl, ?_⟩; have n0_ := Aside0.mk (Kd.R_below (by (with_reducible repeat (first | apply Kd.R_alloc | apply Kd.R_drewN | apply Kd.R_drew)); exact (Kd.R_mono (Kd.R_far (p := ⟨gb246, 1, none⟩) (Kd.R_far (p := ⟨gb246, 0, none⟩) (Kd.R_types HO_14.out BK246.out (by decide)) (fun _ hk => hk.2) (.slice Ao80 t239.length co80)) (fun _ hk => hk.2) (.slice Ao84 t242.length co84)) (fun _ h_ => h_.1))) hb); have n1_ := Aside0.mk (Kd.R_below (by (with_reducible repeat (first | apply Kd.R_alloc | apply Kd.R_drewN | apply Kd.R_drew)); exact (Kd.R_mono (Kd.R_far (p := ⟨gb246, 1, none⟩) (Kd.R_far (p := ⟨gb246, 0, none⟩) (Kd.R_types HO_220000.out BK246.out (by decide)) (fun _ hk => hk.2) (.slice Ao80 t239.length co80)) (fun _ hk => hk.2) (.slice Ao84 t242.length co84)) (fun _ h_ => h_.1))) hb); have n2_ := Aside0.mk (Kd.R_below (by (with_reducible repeat (first | apply Kd.R_alloc | apply Kd.R_drewN | apply Kd.R_drew)); exact (Kd.R_mono (Kd.R_far (p := ⟨gb246, 1, none⟩) (Kd.R_far (p := ⟨gb246, 0, none⟩) (Kd.R_types HO_220001.out BK246.out (by decide)) (fun _ hk => hk.2) (.slice Ao80 t239.length co80)) (fun _ hk => hk.2) (.slice Ao84 t242.length co84)) (fun _ h_ => h_.1))) hb); have n3_ := Aside0.mk (Kd.R_below (by (with_reducible repeat (first | apply Kd.R_alloc | apply Kd.R_drewN | apply Kd.R_drew)); exact (Kd.R_mono (Kd.R_far (p := ⟨gb246, 1, none⟩) (Kd.R_far (p := ⟨gb246, 0, none⟩) (Kd.R_types HO_235000.out BK246.out (by decide)) (fun _ hk => hk.2) (.slice Ao80 t239.length co80)) (fun _ hk => hk.2) (.slice Ao84 t242.length co84)) (fun _ h_ => h_.1))) hb); have n4_ := Aside0.mk (Kd.R_below (by (with_reducible repeat (first | apply Kd.R_alloc | apply Kd.R_drewN | apply Kd.R_drew)); exact (Kd.R_mono (Kd.R_far (p := ⟨gb246, 1, none⟩) (Kd.R_far (p := ⟨gb246, 0, none⟩) (Kd.R_types HO_235001.out BK246.out (by decide)) (fun _ hk => hk.2) (.slice Ao80 t239.length co80)) (fun _ hk => hk.2) (.slice Ao84 t242.length co84)) (fun _ h_ => h_.1))) hb); have n5_ := Aside0.mk (Kd.R_below (by (with_reducible repeat (first | apply Kd.R_alloc | apply Kd.R_drewN | apply Kd.R_drew)); exact (Kd.R_mono (Kd.R_far (p := ⟨gb246, 1, none⟩) (Kd.R_far (p := ⟨gb246, 0, none⟩) (Kd.R_types HO241.out BK246.out (by decide)) (fun _ hk => hk.2) (.slice Ao80 t239.length co80)) (fun _ hk => hk.2) (.slice Ao84 t242.length co84)) (fun _ h_ => h_.1))) hb); have n6_ := Aside0.mk (Kd.R_below (by (with_reducible repeat (first | apply Kd.R_alloc | apply Kd.R_drewN | apply Kd.R_drew)); exact (Kd.R_mono (Kd.R_far (p := ⟨gb246, 1, none⟩) (Kd.R_far (p := ⟨gb246, 0, none⟩) (Kd.R_types HO244.out BK246.out (by decide)) (fun _ hk => hk.2) (.slice Ao80 t239.length co80)) (fun _ hk => hk.2) (.slice Ao84 t242.length co84)) (fun _ h_ => h_.1))) hb); have n7_ := Aside0.mk (blk_below (g := gb219) (o := .cells #[.slice Ao28 x220000_2.length co28, .slice Ao29 x220001_2.length co29] 25 (0, 0)) (by (with_reducible repeat (first | refine blk_drewN ?_ _ | refine blk_drew ?_ | refine blk_alloc ?_ _)); refine blk_far ?_ NB219_246.out _; (with_reducible repeat (first | refine blk_drewN ?_ _ | refine blk_drew ?_ | refine blk_alloc ?_ _)); refine blk_far ?_ NB219_246.out _; (with_reducible repeat (first | refine blk_drewN ?_ _ | refine blk_drew ?_ | refine blk_alloc ?_ _)); exact BK219.out) hb); have n8_ := Aside0.mk (blk_below (g := gb234) (o := .cells #[.slice Ao34 t226.length co34, .slice Ao36 t229.length co36] 25 (0, 0)) (by (with_reducible repeat (first | refine blk_drewN ?_ _ | refine blk_drew ?_ | refine blk_alloc ?_ _)); refine blk_far ?_ NB234_246.out _; (with_reducible repeat (first | refine blk_drewN ?_ _ | refine blk_drew ?_ | refine blk_alloc ?_ _)); refine blk_far ?_ NB234_246.out _; (with_reducible repeat (first | refine blk_drewN ?_ _ | refine blk_drew ?_ | refine blk_alloc ?_ _)); exact BK234.out) hb); have n9_ := Aside0.mk (blk_below (g := gb246) (o := .cells #[.slice Ao80 t239.length co80, .slice Ao84 t242.length co84] 25 (0, 0)) (by (with_reducible repeat (first | refine blk_drewN ?_ _ | refine blk_drew ?_ | refine blk_alloc ?_ _)); refine blk_put (cs := #[.slice Ao80 t239.length co80, .slice none 0 0]) ?_ 1 _ rfl; (with_reducible repeat (first | refine blk_drewN ?_ _ | refine blk_drew ?_ | refine blk_alloc ?_ _)); refine blk_put (cs := #[.slice none 0 0, .slice none 0 0]) ?_ 0 _ rfl; (with_reducible repeat (first | refine blk_drewN ?_ _ | refine blk_drew ?_ | refine blk_alloc ?_ _)); exact BK246.out) hb); have n10_ := Aside0.mk (below_step (by repeat (first | (with_reducible first | exact HB.out | apply below_alloc | apply pw_below_drewN | apply below_drew1 | refine below_set ?_ GE219.out | refine below_set ?_ GE234.out | refine below_set ?_ GE246.out) | exact HB.out)) hb); clear HO_14; clear HO_220000; clear HO_220001; clear HO_235000; clear HO_235001; clear HO241; clear HO244; clear BK219; clear BK234; clear BK246; clear HB; have HO_14 := n0_; have HO_220000 := n1_; have HO_220001 := n2_; have HO_235000 := n3_; have HO_235001 := n4_; have HO241 := n5_; have HO244 := n6_; have BK219 := n7_; have BK234 := n8_; have BK246 := n9_; have HB := n10_; clear n0_ n1_ n2_ n3_ n4_ n5_ n6_ n7_ n8_ n9_ n10_; (try clear hb); (try clear hb2); (try clear hk); (try clear hi); have p250 : 0 ≤ (x10_2 : Int) := of_decide_eq_true (by first | (with_reducible assumption) | assumption); have q250 : x10_2 < (l0.length : Int) := of_decide_eq_true (by first | (with_reducible assumption) | assumption); obtain ⟨ad250, e250, hx250_0⟩ := Kd.at_string HR0.out x10_2 p250 q250; obtain rfl : ad224 = ad250 := (by injection e250); replace hx250_0 := (HB.out.cell (World.block_lt_of_cell? w _ hx250_0)).trans hx250_0; replace p250 := eq_true p250; replace q250 := eq_true q250; have hcz86_0 : w85.cell? ⟨gb246, 0, none⟩ = some (.slice Ao80 t239.length co80) := (blk_cell BK246.out 0).trans rfl; have hcz86_1 : w85.cell? ⟨gb246, 1, none⟩ = some (.slice Ao84 t242.length co84) := (blk_cell BK246.out 1).trans rfl; have hfz86_0 := blk_frozen BK246.out 0; have hfz86_1 := blk_frozen BK246.out 1; have hcz87_0 : w85.cell? ⟨gb219, 0, none⟩ = some (.slice Ao28 x220000_2.length co28) := (blk_cell BK219.out 0).trans rfl; have hcz87_1 : w85.cell? ⟨gb219, 1, none⟩ = some (.slice Ao29 x220001_2.length co29) := (blk_cell BK219.out 1).trans rfl; have hfz87_0 := blk_frozen BK219.out 0; have hfz87_1 := blk_frozen BK219.out 1))
                                              go_roundg kj26
                                              case measure => have := HJ4.out; have := HK2.out; have := HJ16.out; have := HJ26.out; omega
                                              case rel => exact ⟨(t247), (wrap64 (x10_2 + 1)), (t239), (t242), (.slice Ao80 t239.length co80), (.slice Ao84 t242.length co84), (by first | rfl | (simp; done) | (simp [*]; done)), (by first | rfl | (simp; done) | (simp [*]; done)), H', ⟨by have := HJ4.out; have := HK2.out; have := HJ16.out; have := HJ26.out; omega⟩, ⟨by (with_reducible repeat (first | apply Kd.R_alloc | apply Kd.R_drewN | apply Kd.R_drew)); exact Kd.R_mono (Kd.R_far (p := ⟨gb219, 1, none⟩) (Kd.R_far (p := ⟨gb219, 0, none⟩) (Kd.R_types HO241.out BK219.out (by decide)) (fun _ hk => hk.2) (.slice Ao80 t239.length co80)) (fun _ hk => hk.2) (.slice Ao84 t242.length co84)) (fun _ hk => trivial)⟩, ⟨by (with_reducible repeat (first | apply Kd.R_alloc | apply Kd.R_drewN | apply Kd.R_drew)); exact Kd.R_mono (Kd.R_far (p := ⟨gb219, 1, none⟩) (Kd.R_far (p := ⟨gb219, 0, none⟩) (Kd.R_types HO244.out BK219.out (by decide)) (fun _ hk => hk.2) (.slice Ao80 t239.length co80)) (fun _ hk => hk.2) (.slice Ao84 t242.length co84)) (fun _ hk => trivial)⟩, ⟨by (with_reducible repeat (first | refine blk_drewN ?_ _ | refine blk_drew ?_ | refine blk_alloc ?_ _)); refine blk_put (cs := #[.slice Ao80 t239.length co80, .slice Ao29 x220001_2.length co29]) ?_ 1 _ rfl; (with_reducible repeat (first | refine blk_drewN ?_ _ | refine blk_drew ?_ | refine blk_alloc ?_ _)); refine blk_put (cs := #[.slice Ao28 x220000_2.length co28, .slice Ao29 x220001_2.length co29]) ?_ 0 _ rfl; (with_reducible repeat (first | refine blk_drewN ?_ _ | refine blk_drew ?_ | refine blk_alloc ?_ _)); exact BK219.out⟩, ⟨by repeat (first | (with_reducible first | exact HB.out | apply below_alloc | apply pw_below_drewN | apply below_drew1 | refine below_set ?_ GE219.out | refine below_set ?_ GE234.out | refine below_set ?_ GE246.out) | exact HB.out)⟩⟩
                                            · rw [if_neg c74] at H
                                              exact absurd (H.trans (congrArg some HRT.out)) (by decide)
                                      · rw [if_neg c47] at H
                                        exact absurd H (by simp)
                                    · rw [if_neg c46] at H
                                      exact absurd H (by simp)
                                  · rw [if_neg c45] at H
                                    exact absurd (H.trans (congrArg some HRT.out)) (by decide)
                                · rw [if_neg c44] at H
                                  exact absurd (H.trans (congrArg some HRT.out)) (by decide)
                              · rw [if_neg c43] at H
                                exact absurd (H.trans (congrArg some HRT.out)) (by decide)
                        · rw [if_neg c25] at H
                          exact absurd H (by simp)
                      · rw [if_neg c24] at H
                        exact absurd H (by simp)
                    · rw [if_neg c23] at H
                      exact absurd H (by simp)
            · rw [if_neg c16] at H
              have c16b0 : decide (x10_2 < (l0.length : Int)) = false := decide_eq_false c16
              clear c16
              replace H := Option.bind_eq_some_iff.mp H
              obtain ⟨t221, A1320, H⟩ := H
              replace H : (some t221) = some r := H
              have A132 := Aside0.mk A1320
              clear A1320
              obtain rfl := Option.some.inj H
              go_wp2_with (first | ((with_reducible refine gate_callee (f := 14) rfl ?_); refine goesL_ (some 120) rfl rfl Try.func14 (by kernel_rfl) rfl #[] rfl (by (try simp only [List.map_toArray, List.map_cons, List.map_nil]); first | done | rfl | (simp only [List.length_drop, List.length_take]; rfl)) ?_; (with_reducible refine (sextonlaw05_twins.calls  t221 _ A132.out).mono ?_); rintro e w133 ⟨rfl, hb⟩; refine ⟨_, rfl, ?_⟩; have n0_ := Aside0.mk (Kd.R_below (by (with_reducible repeat (first | apply Kd.R_alloc | apply Kd.R_drewN | apply Kd.R_drew)); exact HO_220000.out) hb); have n1_ := Aside0.mk (Kd.R_below (by (with_reducible repeat (first | apply Kd.R_alloc | apply Kd.R_drewN | apply Kd.R_drew)); exact HO_220001.out) hb); have n2_ := Aside0.mk (blk_below (g := gb219) (o := .cells #[u220000, u220001] 25 (0, 0)) (by (with_reducible repeat (first | refine blk_drewN ?_ _ | refine blk_drew ?_ | refine blk_alloc ?_ _)); exact BK219.out) hb); have n3_ := Aside0.mk (below_step (by repeat (first | (with_reducible first | exact HB.out | apply below_alloc | apply pw_below_drewN | apply below_drew1 | refine below_set ?_ GE219.out) | exact HB.out)) hb); clear HO_220000; clear HO_220001; clear BK219; clear HB; have HO_220000 := n0_; have HO_220001 := n1_; have BK219 := n2_; have HB := n3_; clear n0_ n1_ n2_ n3_; (try clear hb); (try clear hb2); (try clear hk); (try clear hi)))
              go_ret
              exact ⟨by first | rfl | (simp [errW_none, errW_some] <;> rfl) | (simp [*, errW_none, errW_some] <;> rfl), by repeat (first | (with_reducible first | exact HB.out | apply below_alloc | apply pw_below_drewN | apply below_drew1 | refine below_set ?_ GE219.out) | exact HB.out)⟩

end Go.Proofs.Ytkgcaheddhfpgaa.P
/-
  The plain statement of TwinRow: texts that are put one behind the other, each stopped at some deed, and crashed: each Get tells the last one that was put whole, or one that was stopped behind it.
-/
namespace Go.Proofs.Ytkgcaheddhfpgaa.Pure
open Go.RowKit Go.Proofs Go.Proofs.CodecPlain Go.Proofs.YtkgcaheddhfpgaaW.PrintWords Go.Proofs.YtkgcaheddhfpgaaW.PrintLast Go.Proofs.Ytkgcaheddhfpgaa.P Go.Proofs.Ytkgcaheddhfpgaa.Opens

theorem row_end (k : Nat) (x0 : List ByteArray) (x1 : List Int) (x2 : List (List Bool)) (now : ByteArray) (i : Int) (d0 : List ByteArray) (d1 : List S73) : sextonlaw05_TwinRow.j2 (k + 1) x0 x1 x2 now i true d0 d1 = some true := by
  simp only [sextonlaw05_TwinRow.j2, sextonlaw05_twins.f]
  rw [if_pos trivial]
  rfl
theorem row_l0 (x0 : List ByteArray) (x1 : List Int) (x2 : List (List Bool)) (h20 : x0.length ≤ 20) (hk : ∀ k ∈ x2, k.length ≤ 140737488351232) (d : Nat) : ∀ (i : Nat) (now : ByteArray) (d0 : List ByteArray) (n0 : Int) (t0 : ByteArray) (k0 : Bool) (n1 : Int) (t1 : ByteArray) (k1 : Bool), i + d = x0.length → TwinAt d0 [] 0 n0 t0 k0 n1 t1 k1 → newN n0 k0 n1 k1 ≤ (i : Int) → newT n0 t0 k0 n1 t1 k1 = now → Ev (fun r => sextonlaw05_TwinRow.l0 r x0 x1 x2 now (i : Int) d0 []) true := by
  induction d with
  | zero =>
    intro i now d0 n0 t0 k0 n1 t1 k1 hi _ _ _
    exact Ev.step (f := fun _ => some true) (fun r => by simp only [sextonlaw05_TwinRow.l0, sextonlaw05_twins.f]; rw [if_neg (by omega)]; rfl) (Ev.now _)
  | succ d ih =>
    intro i now d0 n0 t0 k0 n1 t1 k1 hi ht hn hnow
    have hlt : i < x0.length := by omega
    have hr : rdOf ByteArray.empty x0 (i : Int) = x0[i] := by simp [rdOf, List.getD_eq_getElem?_getD, hlt]
    by_cases h200 : (x0[i].size : Int) > 200
    · refine Ev.step (f := fun r => sextonlaw05_TwinRow.j2 r x0 x1 x2 now (i : Int) true d0 []) (fun r => by simp only [sextonlaw05_TwinRow.l0]; rw [if_pos (by omega), if_pos (by omega), hr, if_pos h200]) ?_
      exact Ev.step (f := fun _ => some true) (fun r => row_end r x0 x1 x2 now _ d0 []) (Ev.now _)
    refine Ev.step (f := fun r => sextonlaw05_TwinRow.j2 r x0 x1 x2 now (i : Int) (decide ((i : Int) ≥ (x1.length : Int))) d0 []) (fun r => by simp only [sextonlaw05_TwinRow.l0]; rw [if_pos (by omega), if_pos (by omega), hr, if_neg h200]) ?_
    by_cases h1 : (i : Int) ≥ (x1.length : Int)
    · rw [decide_eq_true h1]
      exact Ev.step (f := fun _ => some true) (fun r => row_end r x0 x1 x2 now _ d0 []) (Ev.now _)
    rw [decide_eq_false h1]
    obtain ⟨keep, hkeep⟩ : ∃ keep : List Bool, ∀ r b u dn er, (if (i : Int) < (x2.length : Int) then (if ([] : List Bool).length + (rd_L8 x2 (i : Int)).length < 140737488355328 then (sextonlaw05_TwinRow.j3 r x0 x1 x2 now (i : Int) dn er (([] : List Bool) ++ (rd_L8 x2 (i : Int))) b u) else none) else sextonlaw05_TwinRow.j3 r x0 x1 x2 now (i : Int) dn er ([] : List Bool) b u) = sextonlaw05_TwinRow.j3 r x0 x1 x2 now (i : Int) dn er keep b u := by
      by_cases h2 : (i : Int) < (x2.length : Int)
      · have hi2 : i < x2.length := by omega
        have hx : rd_L8 x2 (i : Int) = x2[i] := by simp [rd_L8, List.getD_eq_getElem?_getD, hi2]
        have := hk x2[i] (List.getElem_mem hi2)
        refine ⟨x2[i], fun r b u dn er => ?_⟩
        rw [if_pos h2, hx, if_pos (by simp only [List.length_nil]; omega)]
        rfl
      · exact ⟨[], fun r b u dn er => by rw [if_neg h2]⟩
    obtain ⟨b, u, dn, c, e1, e2, e3⟩ := ht.crash (s := x0[i]) (by omega) (by omega) (rd x1 (i : Int)) (keepB keep)
    refine Ev.step (f := fun r => sextonlaw05_TwinRow.j3 r x0 x1 x2 now (i : Int) dn 0 keep b u) (fun r => ?_) ?_
    · simp only [sextonlaw05_TwinRow.j2, twin_Stop.f]
      rw [if_neg (by decide), if_pos (by omega), if_pos (by omega), if_pos (by omega), hr, if_pos (by decide), Option.bind_some, e1]
      exact hkeep r b u dn 0
    have hfin : ∀ m0 u0 j0 m1 u1 j1, TwinAt c [] 0 m0 u0 j0 m1 u1 j1 → newN m0 j0 m1 j1 ≤ ((i + 1 : Nat) : Int) → Ev (fun r => sextonlaw05_TwinRow.l0 r x0 x1 x2 (newT m0 u0 j0 m1 u1 j1) ((i + 1 : Nat) : Int) c []) true := fun m0 u0 j0 m1 u1 j1 hx hm => ih (i + 1) _ c m0 u0 j0 m1 u1 j1 (by omega) hx hm rfl
    have hw : wrap64 ((i : Int) + 1) = ((i + 1 : Nat) : Int) := by unfold wrap64; omega
    have hb := ht.num.2.2
    rcases e3 with ⟨m0, u0, j0, m1, u1, j1, hx, q1, q2⟩ | ⟨rfl, rfl⟩
    · refine Ev.step (f := fun r => sextonlaw05_TwinRow.l0 r x0 x1 x2 (newT m0 u0 j0 m1 u1 j1) ((i + 1 : Nat) : Int) c []) (fun r => ?_) (hfin m0 u0 j0 m1 u1 j1 hx (by omega))
      simp only [sextonlaw05_TwinRow.j3, disk_Crash.f, e2, Option.bind_some, twin_Get.f, hx.get]
      simp only [if_true]
      rw [if_pos (by omega), if_pos (by omega), hr, q2, if_pos rfl, hw]
    · refine Ev.step (f := fun r => sextonlaw05_TwinRow.l0 r x0 x1 x2 (newT n0 t0 k0 n1 t1 k1) ((i + 1 : Nat) : Int) c []) (fun r => ?_) (hfin n0 t0 k0 n1 t1 k1 ht (by omega))
      simp only [sextonlaw05_TwinRow.j3, disk_Crash.f, e2, Option.bind_some, twin_Get.f, ht.get]
      simp only [if_true]
      rw [if_pos (by omega), if_pos (by omega), hr, hw, hnow]
      split
      · rfl
      · rw [if_pos rfl]
        first | done | rw [if_neg (by decide)]
theorem TwinRow (l0 : List ByteArray) (l1 : List Int) (l2 : List (List Bool)) {okp : Prop} (h0 : okp) {okq : Prop} (h1 : okq) (h2 : (OkListW 24 (OkListW 1 OkTrue)) l2) : ∃ k, sextonlaw05_TwinRow.f k l0 l1 l2 = some true := by
  have hnew : disk_New.f 2 = some ([⟨#[]⟩, ⟨#[]⟩], [], 0) := by
    unfold disk_New.f
    rw [if_neg (by decide), if_neg (by decide), if_pos (by decide), if_pos (by decide)]
    rfl
  have out : ∀ k b u, sextonlaw05_TwinRow.j0 (k + 1) l0 l1 l2 true b u = some true := fun k b u => by
    simp only [sextonlaw05_TwinRow.j0, sextonlaw05_twins.f]
    rw [if_pos trivial]
    rfl
  by_cases h20 : (l0.length : Int) > 20
  · refine ⟨1, ?_⟩
    unfold sextonlaw05_TwinRow.f
    rw [hnew, Option.bind_some, if_pos rfl, if_pos h20]
    exact out 0 _ _
  by_cases h30 : (l2.length : Int) > 30
  · refine ⟨1, ?_⟩
    unfold sextonlaw05_TwinRow.f
    rw [hnew, Option.bind_some, if_pos rfl, if_neg h20, decide_eq_true h30]
    exact out 0 _ _
  have hv : verV ⟨#[]⟩ = (0, ⟨#[]⟩, false) := by decide +kernel
  have ht : TwinAt ([⟨#[]⟩, ⟨#[]⟩] : List ByteArray) [] 0 0 ⟨#[]⟩ false 0 ⟨#[]⟩ false := ⟨by decide +kernel, by decide, by decide, hv, hv, fun h => by cases h.1⟩
  obtain ⟨K, e⟩ := row_l0 l0 l1 l2 (by omega) (fun k hk => by have := (h2.2 k hk).1; omega) l0.length 0 ⟨#[]⟩ _ _ _ _ _ _ _ (by omega) ht (by decide) rfl
  refine ⟨K + 1, ?_⟩
  unfold sextonlaw05_TwinRow.f
  rw [hnew, Option.bind_some, if_pos rfl, if_neg h20, decide_eq_false h30]
  simp only [sextonlaw05_TwinRow.j0]
  rw [if_neg (by decide)]
  exact e K (Nat.le_refl _)
end Go.Proofs.Ytkgcaheddhfpgaa.Pure
