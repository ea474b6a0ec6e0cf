/-
  Texts that the claims of this chapter share, joined.
-/
import Derived.Test.YtoibofhmlokglaaPx0
import Derived.Test.YtoibofhmlokglaaCd4b
import Derived.Test.YtoibofhmlokglaaCd4c
import Derived.Test.YtoibofhmlokglaaCd4a
import Derived.Laws.BytesArg
import Derived.Test.YtoibofhmlokglaaWMore
import Derived.Test.YtoibofhmlokglaaWNEv
import Derived.WalkKit
import Derived.ProofKit
import Derived.OpenShut
import Derived.ShutString
import Derived.ChangeOld
import Derived.Below
import Derived.SizedLaws
import Derived.ChangeArms
import Derived.Test.YtoibofhmlokglaaWWords
set_option linter.unusedVariables false
set_option linter.unusedSimpArgs false
-- Written by a program of this session (xprint.py) over the kit's print.py.
namespace Go.Proofs.Ytoibofhmlokglaa.P
open Go.RowKit Go.Proofs.YtoibofhmlokglaaW.PrintWords Go.Proofs.YtoibofhmlokglaaW.PrintLast Go.Proofs.YtoibofhmlokglaaW.PrintMore
attribute [local go_sem] max2_int min2_int max_two min_two max_three min_three max_four min_four   -- for this text's walks alone
set_option linter.unusedVariables false
set_option linter.unusedSimpArgs false

/-! ### sextonref04_Crash: function 20 -/
mutual
def sextonref04_Crash.l0 : Nat → List Bool → Int → List ByteArray → List (S40) → List ByteArray → Option (List ByteArray × (List (S40)) × Int)
  | 0, _, _, _, _, _ => none
  | k + 1, x1, x7, x164000, x164001, x170000 => if x7 < (x164001.length : Int) then (sextonref04_Crash.j1 k x1 x7 (decide (x7 < (x1.length : Int))) x164000 x164001 x170000) else (sextonref04_Crash.j1 k x1 x7 false x164000 x164001 x170000)
def sextonref04_Crash.j1 : Nat → List Bool → Int → Bool → List ByteArray → List (S40) → List ByteArray → Option (List ByteArray × (List (S40)) × Int)
  | 0, _, _, _, _, _, _ => none
  | k + 1, x1, x7, x26, x164000, x164001, x170000 => if x26 = true then (if 0 ≤ x7 then (if x7 < (x1.length : Int) then (if rdOf false x1 x7 = true then (if x7 < (x164001.length : Int) then (if 0 ≤ ((rd_T40 x164001 x7).f0) then (if ((rd_T40 x164001 x7).f0) < (x170000.length : Int) then (sextonref04_Crash.l0 k x1 (wrap64 (x7 + 1)) x164000 x164001 (x170000.set (((rd_T40 x164001 x7).f0) : Int).toNat ((rd_T40 x164001 x7).f1))) else (none)) else (none)) else (none)) else (sextonref04_Crash.l0 k x1 (wrap64 (x7 + 1)) x164000 x164001 x170000)) else (none)) else (none)) else (some (x170000, ([] : List (S40)), 0))
end
def sextonref04_Crash.f (k : Nat) (l0_0 : List ByteArray) (l0_1 : List (S40)) (l1 : List Bool) : Option (List ByteArray × (List (S40)) × Int) := (sextonref04_Check.f k l0_0 l0_1).bind fun t165 => (if t165 = true then ((sextonref01_Own.f l0_0).bind fun t166 => (sextonref04_Crash.l0 k l1 0 l0_0 l0_1 t166)) else (some (([] : List ByteArray), ([] : List (S40)), 1)))
theorem sextonref04_Crash.mono_l : ∀ k, (∀ y0 y1 y2 y3 y4, LeO (sextonref04_Crash.l0 k y0 y1 y2 y3 y4) (sextonref04_Crash.l0 (k + 1) y0 y1 y2 y3 y4)) ∧ (∀ y0 y1 y2 y3 y4 y5, LeO (sextonref04_Crash.j1 k y0 y1 y2 y3 y4 y5) (sextonref04_Crash.j1 (k + 1) y0 y1 y2 y3 y4 y5))
  | 0 => ⟨fun _ _ _ _ _ r h => by simp [sextonref04_Crash.l0] at h, fun _ _ _ _ _ _ r h => by simp [sextonref04_Crash.j1] at h⟩
  | k + 1 => by
    obtain ⟨ih0, ih1⟩ := sextonref04_Crash.mono_l k
    refine ⟨?_, ?_⟩
    · intro y0 y1 y2 y3 y4
      unfold sextonref04_Crash.l0
      repeat' first
      | (with_reducible exact ih0 _ _ _ _ _)
      | (with_reducible exact ih1 _ _ _ _ _ _)
      | (with_reducible exact sextonref04_Check.mono _ _ _)
      | (with_reducible exact LeO.refl _)
      | (with_reducible exact LeO.none _)
      | (with_reducible refine LeO.ite ?_ ?_)
      | (with_reducible refine LeO.bind ?_ (fun _ => ?_))
      | exact ih0 _ _ _ _ _
      | exact ih1 _ _ _ _ _ _
      | exact sextonref04_Check.mono _ _ _
      | exact LeO.none _
      | refine LeO.ite ?_ ?_
      | refine LeO.bind ?_ (fun _ => ?_)
    · intro y0 y1 y2 y3 y4 y5
      unfold sextonref04_Crash.j1
      repeat' first
      | (with_reducible exact ih0 _ _ _ _ _)
      | (with_reducible exact ih1 _ _ _ _ _ _)
      | (with_reducible exact sextonref04_Check.mono _ _ _)
      | (with_reducible exact LeO.refl _)
      | (with_reducible exact LeO.none _)
      | (with_reducible refine LeO.ite ?_ ?_)
      | (with_reducible refine LeO.bind ?_ (fun _ => ?_))
      | exact ih0 _ _ _ _ _
      | exact ih1 _ _ _ _ _ _
      | exact sextonref04_Check.mono _ _ _
      | exact LeO.none _
      | refine LeO.ite ?_ ?_
      | refine LeO.bind ?_ (fun _ => ?_)
theorem sextonref04_Crash.mono : ∀ a0 a1 a2 k, LeO (sextonref04_Crash.f k a0 a1 a2) (sextonref04_Crash.f (k + 1) a0 a1 a2) := by
  intro a0 a1 a2 k
  obtain ⟨ih0, ih1⟩ := sextonref04_Crash.mono_l k
  unfold sextonref04_Crash.f
  repeat' first
      | (with_reducible exact ih0 _ _ _ _ _)
      | (with_reducible exact ih1 _ _ _ _ _ _)
      | (with_reducible exact sextonref04_Check.mono _ _ _)
      | (with_reducible exact LeO.refl _)
      | (with_reducible exact LeO.none _)
      | (with_reducible refine LeO.ite ?_ ?_)
      | (with_reducible refine LeO.bind ?_ (fun _ => ?_))
      | exact ih0 _ _ _ _ _
      | exact ih1 _ _ _ _ _ _
      | exact sextonref04_Check.mono _ _ _
      | exact LeO.none _
      | refine LeO.ite ?_ ?_
      | refine LeO.bind ?_ (fun _ => ?_)
def sextonref04_Crash.T8 : Bool × List (List Nat × List Nat) := (true, [([], []), ([0], [0]), ([], []), ([2], [2]), ([], []), ([3, 4], [3, 4]), ([5], [5]), ([6], [6]), ([], []), ([8], [8]), ([], []), ([9, 10], [9, 10]), ([11], [11]), ([12], [12]), ([1, 7, 0, 1, 2, 3, 4, 5, 6, 7, 8, 9, 10, 11, 12, 13], [1, 7]), ([14, 13, 0, 1, 2, 3, 4, 5, 6, 7, 8, 9, 10, 11, 12, 13], [13, 14])])
def sextonref04_Crash.B8 : List Nat := [0, 1, 0, 4, 0, 28, 60, 124, 0, 256, 0, 1792, 3840, 7936, 16383, 32767]
theorem sextonref04_Crash.tab8 : rtab .any (opsOf Try.f20 8) = sextonref04_Crash.T8 := by kernel_rfl
theorem sextonref04_Crash.bits8 : waitsOk sextonref04_Crash.T8.2 sextonref04_Crash.B8 = true := by kernel_rfl
set_option maxHeartbeats 8000000 in
set_option maxRecDepth 100000 in
theorem sextonref04_Crash.calls (k : Nat) (A0_0 : Option Addr) (c0_0 : Nat) (l0_0 : List ByteArray) (A0_1 : Option Addr) (c0_1 : Nat) (l0_1 : List (S40)) (A1 : Option Addr) (c1 : Nat) (l1 : List Bool) (r1 : List ByteArray) (r2 : List (S40)) (r3 : Int) (w : World) (hr0_0 : Kd.C Kd.string w A0_0 l0_0.length l0_0) (hc0_0 : l0_0.length ≤ c0_0) (hr0_1 : Kd.C k40 w A0_1 l0_1.length l0_1) (hc0_1 : l0_1.length ≤ c0_1) (hr1 : Kd.C Kd.bool w A1 l1.length l1) (hc1 : l1.length ≤ c1) (h : sextonref04_Crash.f k l0_0 l0_1 l1 = some (r1, r2, r3)) :
    Calls Try.prog 20 #[.agg #[.slice A0_0 l0_0.length c0_0, .slice A0_1 l0_1.length c0_1], .slice A1 l1.length c1] w fun e w' => ∃ v0_ v1_ : Value, e = .returned (.tuple #[.agg #[v0_, v1_], .int .i64 r3]) ∧ Kd.R Kd.string 9 w' w.heap.size (fun _ => True) v0_ r1 ∧ Kd.R k40 40 w' w.heap.size (fun _ => True) v1_ r2 ∧ Below w.heap.size w w' := by
  have hu25 := Try.underlying25
  have HR0_0 := Aside0.mk hr0_0
  have HC0_0 := Aside0.mk hc0_0
  clear hr0_0 hc0_0
  have HR0_1 := Aside0.mk hr0_1
  have HC0_1 := Aside0.mk hc0_1
  clear hr0_1 hc0_1
  have HR1 := Aside0.mk hr1
  have HC1 := Aside0.mk hc1
  clear hr1 hc1
  have HB := Aside0.mk (Below.refl w.heap.size w)
  have H : ((sextonref04_Check.f k l0_0 l0_1).bind fun t165 => (if t165 = true then ((sextonref01_Own.f l0_0).bind fun t166 => (sextonref04_Crash.l0 k l1 0 l0_0 l0_1 t166)) else (some (([] : List ByteArray), ([] : List (S40)), 1)))) = some (r1, r2, r3) := h
  clear h
  replace H := Option.bind_eq_some_iff.mp H
  obtain ⟨t165, A30, H⟩ := H
  replace H : (if t165 = true then ((sextonref01_Own.f l0_0).bind fun t166 => (sextonref04_Crash.l0 k l1 0 l0_0 l0_1 t166)) else (some (([] : List ByteArray), ([] : List (S40)), 1))) = some (r1, r2, r3) := H
  have A3 := Aside0.mk A30
  clear A30
  by_cases c4 : t165 = true
  · subst c4
    have H1 : ((sextonref01_Own.f l0_0).bind fun t166 => (sextonref04_Crash.l0 k l1 0 l0_0 l0_1 t166)) = some (r1, r2, r3) := by rw [if_pos rfl] at H; exact H
    clear H
    have H := H1
    clear H1
    replace H := Option.bind_eq_some_iff.mp H
    obtain ⟨t166, A50, H⟩ := H
    replace H : (sextonref04_Crash.l0 k l1 0 l0_0 l0_1 t166) = some (r1, r2, r3) := H
    have A5 := Aside0.mk A50
    clear A50
    have H' := Aside0.mk H
    clear H
    go_enter Try.func20, Try.ntmps20
    go_wp2_with (first | ((with_reducible refine gate_dst (N := 2) rfl ?_); (try (refine gate_guard (by rfl) ?_; dsimp only)); refine box_event ?hg (N := 2) ?hd (cs := #[.slice A0_0 l0_0.length c0_0, .slice A0_1 l0_1.length c0_1]) (t := 25) ?hr ?_; (case hd => rfl); (case hg => rfl); (case hr => first | (go_simp; done) | (go_simp; rfl)); intro gb163 hg w6 hbox hb; have n0_ := Aside0.mk (below_step (by repeat (first | (with_reducible first | exact HB.out | apply below_alloc | apply pw_below_drewN | apply below_drew1) | exact HB.out)) hb); have n1_ := Aside0.mk (hbox); have n2_ := Aside0.mk ((by rw [hg]; exact (below_size (by repeat (first | (with_reducible first | exact HB.out | apply below_alloc | apply pw_below_drewN | apply below_drew1) | exact HB.out))) : w.heap.size ≤ gb163)); have n3_ := Aside0.mk ((by rw [hg]; exact (below_size (by repeat (first | (with_reducible first | exact HB.out | apply below_alloc | apply pw_below_drewN | apply below_drew1) | exact HB.out))) : w.heap.size ≤ gb163)); clear HB; have HB := n0_; have BK163 := n1_; have GW163 := n2_; have GE163 := n3_; clear n0_ n1_ n2_ n3_; clear hb hbox hg) | ((with_reducible refine gate_dst (N := 4) rfl ?_); (try (refine gate_guard (by rfl) ?_; dsimp only)); refine box_event ?hg (N := 4) ?hd (cs := #[.slice none 0 0, .slice none 0 0]) (t := 25) ?hr ?_; (case hd => rfl); (case hg => rfl); (case hr => first | (go_simp; done) | (go_simp; rfl)); intro gb164 hg w7 hbox hb; have n0_ := Aside0.mk (blk_below (g := gb163) (o := .cells #[.slice A0_0 l0_0.length c0_0, .slice A0_1 l0_1.length c0_1] 25 (0, 0)) (by (with_reducible repeat (first | refine blk_drewN ?_ _ | refine blk_drew ?_ | refine blk_alloc ?_ _)); exact BK163.out) hb); have n1_ := Aside0.mk (below_step (by repeat (first | (with_reducible first | exact HB.out | apply below_alloc | apply pw_below_drewN | apply below_drew1 | refine below_set ?_ GE163.out) | exact HB.out)) hb); have n2_ := Aside0.mk (hbox); have n3_ := Aside0.mk ((by rw [hg]; exact (below_size (by repeat (first | (with_reducible first | exact HB.out | apply below_alloc | apply pw_below_drewN | apply below_drew1 | refine below_set ?_ GE163.out) | exact HB.out))) : w.heap.size ≤ gb164)); have n4_ := Aside0.mk ((by rw [hg]; exact (below_size (by repeat (first | (with_reducible first | exact HB.out | apply below_alloc | apply pw_below_drewN | apply below_drew1 | refine below_set ?_ GE163.out) | exact HB.out))) : w.heap.size ≤ gb164)); have n5_ := Aside0.mk ((by rw [hg]; exact Nat.ne_of_lt (blk_lt (g := gb163) (o := .cells #[.slice A0_0 l0_0.length c0_0, .slice A0_1 l0_1.length c0_1] 25 (0, 0)) (by (with_reducible repeat (first | refine blk_drewN ?_ _ | refine blk_drew ?_ | refine blk_alloc ?_ _)); exact BK163.out)) : gb163 ≠ gb164)); have n6_ := Aside0.mk ((by rw [hg]; exact Nat.ne_of_gt (blk_lt (g := gb163) (o := .cells #[.slice A0_0 l0_0.length c0_0, .slice A0_1 l0_1.length c0_1] 25 (0, 0)) (by (with_reducible repeat (first | refine blk_drewN ?_ _ | refine blk_drew ?_ | refine blk_alloc ?_ _)); exact BK163.out)) : gb164 ≠ gb163)); clear BK163; clear HB; have BK163 := n0_; have HB := n1_; have BK164 := n2_; have GW164 := n3_; have GE164 := n4_; have NB163_164 := n5_; have NB164_163 := n6_; clear n0_ n1_ n2_ n3_ n4_ n5_ n6_; clear hb hbox hg; have hnb8 := NB163_164.out; have hnc8 := NB164_163.out; have hcz9_0 : w7.cell? ⟨gb163, 0, none⟩ = some (.slice A0_0 l0_0.length c0_0) := (blk_cell BK163.out 0).trans rfl; have hcz9_1 : w7.cell? ⟨gb163, 1, none⟩ = some (.slice A0_1 l0_1.length c0_1) := (blk_cell BK163.out 1).trans rfl; have hfz9_0 := blk_frozen BK163.out 0; have hfz9_1 := blk_frozen BK163.out 1) | ((with_reducible refine gate_callee (f := 25) rfl ?_); refine goesL_ (some 9) rfl rfl Try.func25 (by kernel_rfl) rfl #[.agg #[.slice A0_0 l0_0.length c0_0, .slice A0_1 l0_1.length c0_1]] rfl (by (try simp only [List.map_toArray, List.map_cons, List.map_nil]); first | done | rfl | (simp only [List.length_drop, List.length_take]; rfl)) ?_; (with_reducible refine (sextonref04_Check.calls k _ _ l0_0 _ _ l0_1 true _ ?side1 ?side2 ?side3 ?side4 A3.out).mono ?_); (case side1 => repeat (first | exact (Kd.C_below HR0_0.out HB.out) | (with_reducible refine Kd.C_alloc ?_ _) | (with_reducible refine Kd.C_drewN ?_ _) | (with_reducible refine Kd.C_drew ?_))); (case side2 => exact HC0_0.out); (case side3 => repeat (first | exact (Kd.C_below HR0_1.out HB.out) | (with_reducible refine Kd.C_alloc ?_ _) | (with_reducible refine Kd.C_drewN ?_ _) | (with_reducible refine Kd.C_drew ?_))); (case side4 => exact HC0_1.out); rintro e w10 ⟨rfl, hb⟩; refine ⟨_, rfl, ?_⟩; have n0_ := Aside0.mk (blk_below (g := gb163) (o := .cells #[.slice A0_0 l0_0.length c0_0, .slice A0_1 l0_1.length c0_1] 25 (0, 0)) (by (with_reducible repeat (first | refine blk_drewN ?_ _ | refine blk_drew ?_ | refine blk_alloc ?_ _)); exact BK163.out) hb); have n1_ := Aside0.mk (blk_below (g := gb164) (o := .cells #[.slice none 0 0, .slice none 0 0] 25 (0, 0)) (by (with_reducible repeat (first | refine blk_drewN ?_ _ | refine blk_drew ?_ | refine blk_alloc ?_ _)); exact BK164.out) hb); have n2_ := Aside0.mk (below_step (by repeat (first | (with_reducible first | exact HB.out | apply below_alloc | apply pw_below_drewN | apply below_drew1 | refine below_set ?_ GE163.out | refine below_set ?_ GE164.out) | exact HB.out)) hb); clear BK163; clear BK164; clear HB; have BK163 := n0_; have BK164 := n1_; have HB := n2_; clear n0_ n1_ n2_; (try clear hb); (try clear hb2); (try clear hk); (try clear hi); have hcz11_0 : w10.cell? ⟨gb163, 0, none⟩ = some (.slice A0_0 l0_0.length c0_0) := (blk_cell BK163.out 0).trans rfl; have hcz11_1 : w10.cell? ⟨gb163, 1, none⟩ = some (.slice A0_1 l0_1.length c0_1) := (blk_cell BK163.out 1).trans rfl; have hfz11_0 := blk_frozen BK163.out 0; have hfz11_1 := blk_frozen BK163.out 1) | ((with_reducible refine gate_callee (f := 28) rfl ?_); refine goesL_ (some 14) rfl rfl Try.func28 (by kernel_rfl) rfl #[.slice A0_0 l0_0.length c0_0] rfl (by (try simp only [List.map_toArray, List.map_cons, List.map_nil]); first | done | rfl | (simp only [List.length_drop, List.length_take]; rfl)) ?_; (with_reducible refine (sextonref01_Own.calls _ _ l0_0 t166 _ ?side1 ?side2 A5.out).mono ?_); (case side1 => repeat (first | exact (Kd.C_below HR0_0.out HB.out) | (with_reducible refine Kd.C_alloc ?_ _) | (with_reducible refine Kd.C_drewN ?_ _) | (with_reducible refine Kd.C_drew ?_))); (case side2 => exact HC0_0.out); rintro e w12 ⟨v167, rfl, ho0, hb⟩; refine ⟨_, rfl, ?_⟩; have n0_ := Aside0.mk (Kd.R_lower ho0 (below_size (by repeat (first | (with_reducible first | exact HB.out | apply below_alloc | apply pw_below_drewN | apply below_drew1 | refine below_set ?_ GE163.out | refine below_set ?_ GE164.out) | exact HB.out)))); have n1_ := Aside0.mk (blk_below (g := gb163) (o := .cells #[.slice A0_0 l0_0.length c0_0, .slice A0_1 l0_1.length c0_1] 25 (0, 0)) (by (with_reducible repeat (first | refine blk_drewN ?_ _ | refine blk_drew ?_ | refine blk_alloc ?_ _)); exact BK163.out) hb); have n2_ := Aside0.mk (blk_below (g := gb164) (o := .cells #[.slice none 0 0, .slice none 0 0] 25 (0, 0)) (by (with_reducible repeat (first | refine blk_drewN ?_ _ | refine blk_drew ?_ | refine blk_alloc ?_ _)); exact BK164.out) hb); have n3_ := Aside0.mk (below_step (by repeat (first | (with_reducible first | exact HB.out | apply below_alloc | apply pw_below_drewN | apply below_drew1 | refine below_set ?_ GE163.out | refine below_set ?_ GE164.out) | exact HB.out)) hb); clear BK163; clear BK164; clear HB; have HO168 := n0_; have BK163 := n1_; have BK164 := n2_; have HB := n3_; clear n0_ n1_ n2_ n3_; (try clear hb); (try clear hb2); (try clear hk); (try clear hi); (try clear ho0); obtain ⟨Ao13, co13, eo13⟩ := Kd.R_slice HO168.out; subst eo13) | ((with_reducible refine gate_dst (N := 6) rfl ?_); (try (refine gate_guard (by rfl) ?_; dsimp only)); refine box_event ?hg (N := 6) ?hd (cs := #[.slice none 0 0, .slice none 0 0]) (t := 25) ?hr ?_; (case hd => rfl); (case hg => rfl); (case hr => first | (go_simp; done) | (go_simp; rfl)); intro gb169 hg w14 hbox hb; have n0_ := Aside0.mk (Kd.R_below (by (with_reducible repeat (first | apply Kd.R_alloc | apply Kd.R_drewN | apply Kd.R_drew)); exact HO168.out) hb); have n1_ := Aside0.mk (blk_below (g := gb163) (o := .cells #[.slice A0_0 l0_0.length c0_0, .slice A0_1 l0_1.length c0_1] 25 (0, 0)) (by (with_reducible repeat (first | refine blk_drewN ?_ _ | refine blk_drew ?_ | refine blk_alloc ?_ _)); exact BK163.out) hb); have n2_ := Aside0.mk (blk_below (g := gb164) (o := .cells #[.slice none 0 0, .slice none 0 0] 25 (0, 0)) (by (with_reducible repeat (first | refine blk_drewN ?_ _ | refine blk_drew ?_ | refine blk_alloc ?_ _)); exact BK164.out) hb); have n3_ := Aside0.mk (below_step (by repeat (first | (with_reducible first | exact HB.out | apply below_alloc | apply pw_below_drewN | apply below_drew1 | refine below_set ?_ GE163.out | refine below_set ?_ GE164.out) | exact HB.out)) hb); have n4_ := Aside0.mk (hbox); have n5_ := Aside0.mk ((by rw [hg]; exact (below_size (by repeat (first | (with_reducible first | exact HB.out | apply below_alloc | apply pw_below_drewN | apply below_drew1 | refine below_set ?_ GE163.out | refine below_set ?_ GE164.out) | exact HB.out))) : w.heap.size ≤ gb169)); have n6_ := Aside0.mk ((by rw [hg]; exact (below_size (by repeat (first | (with_reducible first | exact HB.out | apply below_alloc | apply pw_below_drewN | apply below_drew1 | refine below_set ?_ GE163.out | refine below_set ?_ GE164.out) | exact HB.out))) : w.heap.size ≤ gb169)); have n7_ := Aside0.mk ((by rw [hg]; exact Nat.ne_of_lt (blk_lt (g := gb163) (o := .cells #[.slice A0_0 l0_0.length c0_0, .slice A0_1 l0_1.length c0_1] 25 (0, 0)) (by (with_reducible repeat (first | refine blk_drewN ?_ _ | refine blk_drew ?_ | refine blk_alloc ?_ _)); exact BK163.out)) : gb163 ≠ gb169)); have n8_ := Aside0.mk ((by rw [hg]; exact Nat.ne_of_gt (blk_lt (g := gb163) (o := .cells #[.slice A0_0 l0_0.length c0_0, .slice A0_1 l0_1.length c0_1] 25 (0, 0)) (by (with_reducible repeat (first | refine blk_drewN ?_ _ | refine blk_drew ?_ | refine blk_alloc ?_ _)); exact BK163.out)) : gb169 ≠ gb163)); have n9_ := Aside0.mk ((by rw [hg]; exact Nat.ne_of_lt (blk_lt (g := gb164) (o := .cells #[.slice none 0 0, .slice none 0 0] 25 (0, 0)) (by (with_reducible repeat (first | refine blk_drewN ?_ _ | refine blk_drew ?_ | refine blk_alloc ?_ _)); exact BK164.out)) : gb164 ≠ gb169)); have n10_ := Aside0.mk ((by rw [hg]; exact Nat.ne_of_gt (blk_lt (g := gb164) (o := .cells #[.slice none 0 0, .slice none 0 0] 25 (0, 0)) (by (with_reducible repeat (first | refine blk_drewN ?_ _ | refine blk_drew ?_ | refine blk_alloc ?_ _)); exact BK164.out)) : gb169 ≠ gb164)); clear HO168; clear BK163; clear BK164; clear HB; have HO168 := n0_; have BK163 := n1_; have BK164 := n2_; have HB := n3_; have BK169 := n4_; have GW169 := n5_; have GE169 := n6_; have NB163_169 := n7_; have NB169_163 := n8_; have NB164_169 := n9_; have NB169_164 := n10_; clear n0_ n1_ n2_ n3_ n4_ n5_ n6_ n7_ n8_ n9_ n10_; clear hb hbox hg; have hnb15 := NB169_163.out; have hnc15 := NB163_169.out; have hnb16 := NB169_164.out; have hnc16 := NB164_169.out; have hcz17_0 : w14.cell? ⟨gb169, 0, none⟩ = some (.slice none 0 0) := (blk_cell BK169.out 0).trans rfl; have hcz17_1 : w14.cell? ⟨gb169, 1, none⟩ = some (.slice none 0 0) := (blk_cell BK169.out 1).trans rfl; have hfz17_0 := blk_frozen BK169.out 0; have hfz17_1 := blk_frozen BK169.out 1))
    go_loopg [7] k (fun kq v7 w' => ∃ (x7_1 : Int) (x170000_1 : List ByteArray) (u170000 : Value), v7 = .int .i64 x7_1 ∧ Aside0 (sextonref04_Crash.l0 kq l1 x7_1 l0_0 l0_1 x170000_1 = some (r1, r2, r3)) ∧ Aside0 (kq ≤ k) ∧ Aside0 (Kd.R Kd.string 9 w' w.heap.size (fun _ => True) u170000 x170000_1) ∧ Aside0 (w'.heap[gb163]? = some (.cells #[(.slice A0_0 l0_0.length c0_0), (.slice A0_1 l0_1.length c0_1)] 25 (0, 0))) ∧ Aside0 (w'.heap[gb164]? = some (.cells #[(.slice none 0 0), (.slice none 0 0)] 25 (0, 0))) ∧ Aside0 (w'.heap[gb169]? = some (.cells #[u170000, (.slice none 0 0)] 25 (0, 0))) ∧ Aside0 (Below w.heap.size w w'))
    case atStart => exact ⟨(0), (t166), (.slice Ao13 t166.length co13), (by first | rfl | (simp; done) | (simp [*]; done)), H', ⟨Nat.le_refl _⟩, ⟨by (with_reducible repeat (first | apply Kd.R_alloc | apply Kd.R_drewN | apply Kd.R_drew)); exact Kd.R_mono (Kd.R_far (p := ⟨gb169, 1, none⟩) (Kd.R_far (p := ⟨gb169, 0, none⟩) (Kd.R_types HO168.out BK169.out (by decide)) (fun _ hk => hk.2) (.slice Ao13 t166.length co13)) (fun _ hk => hk.2) (.slice none 0 0)) (fun _ hk => trivial)⟩, ⟨by (with_reducible repeat (first | refine blk_drewN ?_ _ | refine blk_drew ?_ | refine blk_alloc ?_ _)); refine blk_far ?_ NB163_169.out _; (with_reducible repeat (first | refine blk_drewN ?_ _ | refine blk_drew ?_ | refine blk_alloc ?_ _)); refine blk_far ?_ NB163_169.out _; (with_reducible repeat (first | refine blk_drewN ?_ _ | refine blk_drew ?_ | refine blk_alloc ?_ _)); exact BK163.out⟩, ⟨by (with_reducible repeat (first | refine blk_drewN ?_ _ | refine blk_drew ?_ | refine blk_alloc ?_ _)); refine blk_far ?_ NB164_169.out _; (with_reducible repeat (first | refine blk_drewN ?_ _ | refine blk_drew ?_ | refine blk_alloc ?_ _)); refine blk_far ?_ NB164_169.out _; (with_reducible repeat (first | refine blk_drewN ?_ _ | refine blk_drew ?_ | refine blk_alloc ?_ _)); exact BK164.out⟩, ⟨by (with_reducible repeat (first | refine blk_drewN ?_ _ | refine blk_drew ?_ | refine blk_alloc ?_ _)); refine blk_put (cs := #[.slice Ao13 t166.length co13, .slice none 0 0]) ?_ 1 _ rfl; (with_reducible repeat (first | refine blk_drewN ?_ _ | refine blk_drew ?_ | refine blk_alloc ?_ _)); refine blk_put (cs := #[.slice none 0 0, .slice none 0 0]) ?_ 0 _ rfl; (with_reducible repeat (first | refine blk_drewN ?_ _ | refine blk_drew ?_ | refine blk_alloc ?_ _)); exact BK169.out⟩, ⟨by repeat (first | (with_reducible first | exact HB.out | apply below_alloc | apply pw_below_drewN | apply below_drew1 | refine below_set ?_ GE163.out | refine below_set ?_ GE164.out | refine below_set ?_ GE169.out) | exact HB.out)⟩⟩
    case round =>
      clear H'
      try clear c1
      try clear c2
      try clear p2
      try clear c4
      try clear c8
      try clear c15
      try clear c16
      try clear hcz11_0
      try clear hcz11_1
      try clear hcz17_0
      try clear hcz17_1
      try clear hcz9_0
      try clear hcz9_1
      try clear hfz11_0
      try clear hfz11_1
      try clear hfz17_0
      try clear hfz17_1
      try clear hfz9_0
      try clear hfz9_1
      obtain ⟨x7_1, x170000_1, u170000, rfl, HA, HK1, HO_170000, BK163, BK164, BK169, HB⟩ := hrel
      cases gk with
      | zero => exact absurd HA.out (by simp [sextonref04_Crash.l0])
      | succ k1 =>
        have H := HA.out
        clear HA
        simp only [sextonref04_Crash.l0] at H
        have HC18 := Aside0.mk H
        clear H
        go_upto_region 5 with (fail)
        go_cut [26] (fun v26 wc => ∃ (kq : Nat) (x26_17 : Bool), v26 = .bool x26_17 ∧ Aside0 (sextonref04_Crash.j1 kq l1 x7_1 x26_17 l0_0 l0_1 x170000_1 = some (r1, r2, r3)) ∧ Aside0 (kq ≤ k1) ∧ Aside0 (Kd.R Kd.string 9 wc w.heap.size (fun _ => True) u170000 x170000_1) ∧ Aside0 (wc.heap[gb163]? = some (.cells #[(.slice A0_0 l0_0.length c0_0), (.slice A0_1 l0_1.length c0_1)] 25 (0, 0))) ∧ Aside0 (wc.heap[gb164]? = some (.cells #[(.slice none 0 0), (.slice none 0 0)] 25 (0, 0))) ∧ Aside0 (wc.heap[gb169]? = some (.cells #[u170000, (.slice none 0 0)] 25 (0, 0))) ∧ Aside0 (Below w.heap.size w wc))
        case first =>
          have H := HC18.out
          clear HC18
          by_cases c19 : x7_1 < (l0_1.length : Int)
          · rw [if_pos c19] at H
            have c19b0 : decide (x7_1 < (l0_1.length : Int)) = true := decide_eq_true c19
            clear c19
            (first | rw [c19b0] | (simp only [i64_w, i32_w]; rw [c19b0]) | skip)
            have H' := Aside0.mk H
            clear H
            have hnb20 := NB163_164.out
            have hnc20 := NB164_163.out
            have hnb21 := NB163_169.out
            have hnc21 := NB169_163.out
            have hcz22_0 : wr.cell? ⟨gb163, 0, none⟩ = some (.slice A0_0 l0_0.length c0_0) := (blk_cell BK163.out 0).trans rfl
            have hcz22_1 : wr.cell? ⟨gb163, 1, none⟩ = some (.slice A0_1 l0_1.length c0_1) := (blk_cell BK163.out 1).trans rfl
            have hfz22_0 := blk_frozen BK163.out 0
            have hfz22_1 := blk_frozen BK163.out 1
            go_wp2
            go_meet
            case rel => exact ⟨_, (decide (x7_1 < (l1.length : Int))), (by first | rfl | (simp; done) | (simp [*]; done)), H', ⟨by have := HK1.out; first | omega | exact Nat.le_refl _⟩, ⟨by (with_reducible repeat (first | apply Kd.R_alloc | apply Kd.R_drewN | apply Kd.R_drew)); exact HO_170000.out⟩, ⟨by (with_reducible repeat (first | refine blk_drewN ?_ _ | refine blk_drew ?_ | refine blk_alloc ?_ _)); exact BK163.out⟩, ⟨by (with_reducible repeat (first | refine blk_drewN ?_ _ | refine blk_drew ?_ | refine blk_alloc ?_ _)); exact BK164.out⟩, ⟨by (with_reducible repeat (first | refine blk_drewN ?_ _ | refine blk_drew ?_ | refine blk_alloc ?_ _)); exact BK169.out⟩, ⟨by repeat (first | (with_reducible first | exact HB.out | apply below_alloc | apply pw_below_drewN | apply below_drew1 | refine below_set ?_ GE163.out | refine below_set ?_ GE164.out | refine below_set ?_ GE169.out) | exact HB.out)⟩⟩
          · rw [if_neg c19] at H
            have c19b0 : decide (x7_1 < (l0_1.length : Int)) = false := decide_eq_false c19
            clear c19
            (first | rw [c19b0] | (simp only [i64_w, i32_w]; rw [c19b0]) | skip)
            have H' := Aside0.mk H
            clear H
            have hnb23 := NB163_164.out
            have hnc23 := NB164_163.out
            have hnb24 := NB163_169.out
            have hnc24 := NB169_163.out
            have hcz25_0 : wr.cell? ⟨gb163, 0, none⟩ = some (.slice A0_0 l0_0.length c0_0) := (blk_cell BK163.out 0).trans rfl
            have hcz25_1 : wr.cell? ⟨gb163, 1, none⟩ = some (.slice A0_1 l0_1.length c0_1) := (blk_cell BK163.out 1).trans rfl
            have hfz25_0 := blk_frozen BK163.out 0
            have hfz25_1 := blk_frozen BK163.out 1
            go_wp2
            go_meet
            case rel => exact ⟨_, (false), (by first | rfl | (simp; done) | (simp [*]; done)), H', ⟨by have := HK1.out; first | omega | exact Nat.le_refl _⟩, ⟨by (with_reducible repeat (first | apply Kd.R_alloc | apply Kd.R_drewN | apply Kd.R_drew)); exact HO_170000.out⟩, ⟨by (with_reducible repeat (first | refine blk_drewN ?_ _ | refine blk_drew ?_ | refine blk_alloc ?_ _)); exact BK163.out⟩, ⟨by (with_reducible repeat (first | refine blk_drewN ?_ _ | refine blk_drew ?_ | refine blk_alloc ?_ _)); exact BK164.out⟩, ⟨by (with_reducible repeat (first | refine blk_drewN ?_ _ | refine blk_drew ?_ | refine blk_alloc ?_ _)); exact BK169.out⟩, ⟨by repeat (first | (with_reducible first | exact HB.out | apply below_alloc | apply pw_below_drewN | apply below_drew1 | refine below_set ?_ GE163.out | refine below_set ?_ GE164.out | refine below_set ?_ GE169.out) | exact HB.out)⟩⟩
        case rest =>
          clear HC18
          try clear c1
          try clear c2
          try clear p2
          try clear c4
          try clear c8
          try clear c15
          try clear c16
          try clear c19
          try clear c19b0
          try clear c20
          try clear c21
          try clear c23
          try clear c24
          try clear c25
          try clear hcz11_0
          try clear hcz11_1
          try clear hcz17_0
          try clear hcz17_1
          try clear hcz22_0
          try clear hcz22_1
          try clear hcz25_0
          try clear hcz25_1
          try clear hcz9_0
          try clear hcz9_1
          try clear hfz11_0
          try clear hfz11_1
          try clear hfz17_0
          try clear hfz17_1
          try clear hfz22_0
          try clear hfz22_1
          try clear hfz25_0
          try clear hfz25_1
          try clear hfz9_0
          try clear hfz9_1
          try clear p2
          obtain ⟨kq, x26_17, rfl, HA, HJ17, HO_170000, BK163, BK164, BK169, HB⟩ := hcut
          cases kq with
          | zero => exact absurd HA.out (by simp [sextonref04_Crash.j1])
          | succ kj17 =>
            have H := HA.out
            clear HA
            simp only [sextonref04_Crash.j1] at H
            by_cases c26 : x26_17 = true
            · subst c26
              have H1 : (if 0 ≤ x7_1 then (if x7_1 < (l1.length : Int) then (if rdOf false l1 x7_1 = true then (if x7_1 < (l0_1.length : Int) then (if 0 ≤ ((rd_T40 l0_1 x7_1).f0) then (if ((rd_T40 l0_1 x7_1).f0) < (x170000_1.length : Int) then (sextonref04_Crash.l0 kj17 l1 (wrap64 (x7_1 + 1)) l0_0 l0_1 (x170000_1.set (((rd_T40 l0_1 x7_1).f0) : Int).toNat ((rd_T40 l0_1 x7_1).f1))) else (none)) else (none)) else (none)) else (sextonref04_Crash.l0 kj17 l1 (wrap64 (x7_1 + 1)) l0_0 l0_1 x170000_1)) else (none)) else (none)) = some (r1, r2, r3) := by rw [if_pos rfl] at H; exact H
              clear H
              have H := H1
              clear H1
              by_cases c27 : 0 ≤ x7_1
              · rw [if_pos c27] at H
                have c27b0 : decide (0 ≤ x7_1) = true := decide_eq_true c27
                clear c27
                by_cases c28 : x7_1 < (l1.length : Int)
                · rw [if_pos c28] at H
                  have c28b0 : decide (x7_1 < (l1.length : Int)) = true := decide_eq_true c28
                  clear c28
                  obtain ⟨bq29, hbq29⟩ : ∃ b_ : Bool, b_ = (rdOf false l1 x7_1) := ⟨_, rfl⟩
                  replace H : (if bq29 = true then (if x7_1 < (l0_1.length : Int) then (if 0 ≤ ((rd_T40 l0_1 x7_1).f0) then (if ((rd_T40 l0_1 x7_1).f0) < (x170000_1.length : Int) then (sextonref04_Crash.l0 kj17 l1 (wrap64 (x7_1 + 1)) l0_0 l0_1 (x170000_1.set (((rd_T40 l0_1 x7_1).f0) : Int).toNat ((rd_T40 l0_1 x7_1).f1))) else (none)) else (none)) else (none)) else (sextonref04_Crash.l0 kj17 l1 (wrap64 (x7_1 + 1)) l0_0 l0_1 x170000_1)) = some (r1, r2, r3) := by rw [← hbq29] at H; exact H
                  have Nbq29 := Aside0.mk hbq29
                  clear hbq29
                  by_cases c30 : bq29 = true
                  · subst c30
                    have H1 : (if x7_1 < (l0_1.length : Int) then (if 0 ≤ ((rd_T40 l0_1 x7_1).f0) then (if ((rd_T40 l0_1 x7_1).f0) < (x170000_1.length : Int) then (sextonref04_Crash.l0 kj17 l1 (wrap64 (x7_1 + 1)) l0_0 l0_1 (x170000_1.set (((rd_T40 l0_1 x7_1).f0) : Int).toNat ((rd_T40 l0_1 x7_1).f1))) else (none)) else (none)) else (none)) = some (r1, r2, r3) := by rw [if_pos rfl] at H; exact H
                    clear H
                    have H := H1
                    clear H1
                    by_cases c31 : x7_1 < (l0_1.length : Int)
                    · rw [if_pos c31] at H
                      have c31b0 : decide (x7_1 < (l0_1.length : Int)) = true := decide_eq_true c31
                      clear c31
                      by_cases c32 : 0 ≤ ((rd_T40 l0_1 x7_1).f0)
                      · rw [if_pos c32] at H
                        have c32b0 : decide (0 ≤ ((rd_T40 l0_1 x7_1).f0)) = true := decide_eq_true c32
                        clear c32
                        by_cases c33 : ((rd_T40 l0_1 x7_1).f0) < (x170000_1.length : Int)
                        · rw [if_pos c33] at H
                          have c33b0 : decide (((rd_T40 l0_1 x7_1).f0) < (x170000_1.length : Int)) = true := decide_eq_true c33
                          clear c33
                          obtain ⟨y173, hy173⟩ : ∃ y_ : List ByteArray, y_ = (x170000_1.set (((rd_T40 l0_1 x7_1).f0) : Int).toNat ((rd_T40 l0_1 x7_1).f1)) := ⟨_, rfl⟩
                          replace H : (sextonref04_Crash.l0 kj17 l1 (wrap64 (x7_1 + 1)) l0_0 l0_1 y173) = some (r1, r2, r3) := by first | (rw [hy173]; with_reducible exact H) | (have H2_ := (Option.bind_some _ _).symm.trans H; rw [hy173]; with_reducible exact H2_) | (have H2_ := (Option.bind_some _ _).symm.trans H; with_reducible exact H2_) | with_reducible exact H | (rw [hy173]; exact H) | exact H
                          have Ny173 := Aside0.mk hy173
                          clear hy173
                          have H' := Aside0.mk H
                          clear H
                          have p170 : 0 ≤ (x7_1 : Int) := of_decide_eq_true (by first | (with_reducible assumption) | assumption)
                          have q170 : x7_1 < (l1.length : Int) := of_decide_eq_true (by first | (with_reducible assumption) | assumption)
                          obtain ⟨ad170, e170, hx170_0⟩ := Kd.at_bool HR1.out x7_1 p170 q170
                          (try rw [← Nbq29.out] at hx170_0)
                          cases e170
                          replace hx170_0 := (HB.out.cell (World.block_lt_of_cell? w _ hx170_0)).trans hx170_0
                          replace p170 := eq_true p170
                          replace q170 := eq_true q170
                          try go_wp2
                          have n0_ := Aside0.mk (Kd.R_drew HO_170000.out)
                          have n1_ := Aside0.mk (blk_drew BK163.out)
                          have n2_ := Aside0.mk (blk_drew BK164.out)
                          have n3_ := Aside0.mk (blk_drew BK169.out)
                          have n4_ := Aside0.mk (below_drew1 HB.out)
                          clear HO_170000
                          clear BK163
                          clear BK164
                          clear BK169
                          clear HB
                          have HO_170000 := n0_
                          have BK163 := n1_
                          have BK164 := n2_
                          have BK169 := n3_
                          have HB := n4_
                          clear n0_ n1_ n2_ n3_ n4_
                          have p171 : 0 ≤ (x7_1 : Int) := of_decide_eq_true (by first | (with_reducible assumption) | assumption)
                          have q171 : x7_1 < (l0_1.length : Int) := of_decide_eq_true (by first | (with_reducible assumption) | assumption)
                          obtain ⟨ad171, e171, hx171_0, hx171_1⟩ := at_T40 HR0_1.out x7_1 p171 q171
                          have hw171_1 := hx171_1
                          have hw171_0 := hx171_0
                          cases e171
                          replace hx171_0 := (HB.out.cell (World.block_lt_of_cell? w _ hx171_0)).trans hx171_0
                          replace hx171_1 := (HB.out.cell (World.block_lt_of_cell? w _ hx171_1)).trans hx171_1
                          replace p171 := eq_true p171
                          replace q171 := eq_true q171
                          have p172 : 0 ≤ (x7_1 : Int) := of_decide_eq_true (by first | (with_reducible assumption) | assumption)
                          have q172 : x7_1 < (l0_1.length : Int) := of_decide_eq_true (by first | (with_reducible assumption) | assumption)
                          obtain ⟨ad172, e172, hx172_0, hx172_1⟩ := at_T40 HR0_1.out x7_1 p172 q172
                          have hw172_1 := hx172_1
                          have hw172_0 := hx172_0
                          obtain rfl : ad171 = ad172 := (by injection e172)
                          replace hx172_0 := (HB.out.cell (World.block_lt_of_cell? w _ hx172_0)).trans hx172_0
                          replace hx172_1 := (HB.out.cell (World.block_lt_of_cell? w _ hx172_1)).trans hx172_1
                          replace p172 := eq_true p172
                          replace q172 := eq_true q172
                          have p34 : 0 ≤ (((rd_T40 l0_1 x7_1).f0) : Int) := of_decide_eq_true (by first | (with_reducible assumption) | assumption)
                          have q34 : (((rd_T40 l0_1 x7_1).f0) : Int) < ((x170000_1.length : Int) : Int) := of_decide_eq_true (by first | (with_reducible assumption) | assumption)
                          obtain ⟨go34, co34, eo34, gb34, gl34, cl34, HG34⟩ := Kd.R_form HO_170000.out (by omega)
                          (first | cases eo34 | (injection eo34 with ea_ en_ ec_; (first | subst ea_ | (injection ea_ with ea_; subst ea_)); subst ec_; clear en_))
                          have GB34 := Aside0.mk gb34
                          have GG34 := Aside0.mk HG34
                          clear gb34 gl34 HG34
                          obtain ⟨hx34_0, hf34_0⟩ := Kd.R_celln (⟨#[]⟩ : ByteArray) HO_170000.out (((rd_T40 l0_1 x7_1).f0) : Int) p34 q34
                          replace p34 := eq_true p34
                          replace q34 := eq_true q34
                          have HP36 := Kd.R_putn HO_170000.out (((rd_T40 l0_1 x7_1).f0) : Int) ((rd_T40 l0_1 x7_1).f1)
                          rw [← Ny173.out] at HP36
                          have HQ36 := Aside0.mk HP36
                          clear HP36
                          refine start_ (n := 16) (S := fun w' => w'.cell? ⟨gb169, 0, none⟩ = some (.slice (some ⟨go34, 0, none⟩) x170000_1.length co34) ∧ w'.cell? ⟨gb169, 1, none⟩ = some (.slice none 0 0) ∧ w'.cell? ⟨gb163, 0, none⟩ = some (.slice A0_0 l0_0.length c0_0) ∧ w'.cell? ⟨gb163, 1, none⟩ = some (.slice (some ad171) l0_1.length c0_1) ∧ w'.cell? (ad171.add ((x7_1).toNat * 2)) = some (.int .i64 ((rd_T40 l0_1 x7_1).f0)) ∧ w'.cell? ⟨(ad171.add ((x7_1).toNat * 2)).block, (ad171.add ((x7_1).toNat * 2)).off + 1, none⟩ = some (.string ((rd_T40 l0_1 x7_1).f1)) ∧ w'.cell? (ad171.add ((x7_1).toNat * 2)) = some (.int .i64 ((rd_T40 l0_1 x7_1).f0)) ∧ w'.cell? ⟨(ad171.add ((x7_1).toNat * 2)).block, (ad171.add ((x7_1).toNat * 2)).off + 1, none⟩ = some (.string ((rd_T40 l0_1 x7_1).f1))) (ds := [15]) #[false, false, false, false, false, false, false, false, false, false, false, false, false, false, false, false] (by kernel_rfl) rfl rfl ⟨(blk_cell BK169.out 0).trans rfl, (blk_cell BK169.out 1).trans rfl, (blk_cell BK163.out 0).trans rfl, (blk_cell BK163.out 1).trans rfl, ((HB.out.cell (World.block_lt_of_cell? w _ hw171_0)).trans hw171_0), ((HB.out.cell (World.block_lt_of_cell? w _ hw171_1)).trans hw171_1), ((HB.out.cell (World.block_lt_of_cell? w _ hw172_0)).trans hw172_0), ((HB.out.cell (World.block_lt_of_cell? w _ hw172_1)).trans hw172_1)⟩ (fun hHeld => ?_); refine with_tabW sextonref04_Crash.tab8 sextonref04_Crash.bits8 (fun HT_ HW_ => ?_)
                          generalize wc.drew = w35 at HO_170000 BK163 BK164 BK169 HB GG34 HQ36 hf34_0 hx171_0 hx171_1 hx172_0 hx172_1 hx34_0 hHeld ⊢
                          refine pure_ (i := 0) (N := some 33) (v := ?_) (a' := ?_) #[true, false, false, false, false, false, false, false, false, false, false, false, false, false, false, false] rfl rfl (any_of HT_.out (by kernel_rfl)) (fun _ _ _ h => h) (Or.inl ⟨by rfl, ?_⟩) ?_ ?_
                          rotate_left
                          · intro w'
                            go_simp
                            with_reducible rfl
                          rotate_left
                          · simp only [Act.put, List.setIfInBounds_toArray, List.set_cons_zero, List.set_cons_succ, i64_w, i32_w]
                            rfl
                          refine pure_ (i := 2) (N := some 35) (v := ?_) (a' := ?_) #[true, false, true, false, false, false, false, false, false, false, false, false, false, false, false, false] rfl rfl (any_of HT_.out (by kernel_rfl)) (fun _ _ _ h => h) (Or.inl ⟨by rfl, ?_⟩) ?_ ?_
                          rotate_left
                          · intro w'
                            go_simp
                            with_reducible rfl
                          rotate_left
                          · simp only [Act.put, List.setIfInBounds_toArray, List.set_cons_zero, List.set_cons_succ, i64_w, i32_w]
                            rfl
                          refine pure_ (i := 4) (N := some 37) (v := ?_) (a' := ?_) #[true, false, true, false, true, false, false, false, false, false, false, false, false, false, false, false] rfl rfl (any_of HT_.out (by kernel_rfl)) (fun _ _ _ h => h) (Or.inl ⟨by rfl, ?_⟩) ?_ ?_
                          rotate_left
                          · intro w'
                            go_simp
                            with_reducible rfl
                          rotate_left
                          · simp only [Act.put, List.setIfInBounds_toArray, List.set_cons_zero, List.set_cons_succ, i64_w, i32_w]
                            rfl
                          refine pure_ (i := 8) (N := some 41) (v := ?_) (a' := ?_) #[true, false, true, false, true, false, false, false, true, false, false, false, false, false, false, false] rfl rfl (any_of HT_.out (by kernel_rfl)) (fun _ _ _ h => h) (Or.inl ⟨by rfl, ?_⟩) ?_ ?_
                          rotate_left
                          · intro w'
                            go_simp
                            with_reducible rfl
                          rotate_left
                          · simp only [Act.put, List.setIfInBounds_toArray, List.set_cons_zero, List.set_cons_succ, i64_w, i32_w]
                            rfl
                          refine pure_ (i := 10) (N := some 43) (v := ?_) (a' := ?_) #[true, false, true, false, true, false, false, false, true, false, true, false, false, false, false, false] rfl rfl (any_of HT_.out (by kernel_rfl)) (fun _ _ _ h => h) (Or.inl ⟨by rfl, ?_⟩) ?_ ?_
                          rotate_left
                          · intro w'
                            go_simp
                            with_reducible rfl
                          rotate_left
                          · simp only [Act.put, List.setIfInBounds_toArray, List.set_cons_zero, List.set_cons_succ, i64_w, i32_w]
                            rfl
                          refine take_ (i := 1) (N := some 34) (v := ?_) (a' := ?_) #[true, true, true, false, true, false, false, false, true, false, true, false, false, false, false, false] rfl rfl (take_ofW HT_.out HW_.out (by kernel_rfl)) (fun _ _ _ h => h) (Or.inl ⟨by rfl, ?_⟩) hHeld ?_ ?_
                          rotate_left
                          · rintro w' ⟨s0, s1, s2, s3, s4, s5, s6, s7⟩
                            go_simp
                            with_reducible rfl
                          rotate_left
                          · simp only [Act.put, List.setIfInBounds_toArray, List.set_cons_zero, List.set_cons_succ, i64_w, i32_w]
                            rfl
                          refine take_ (i := 3) (N := some 36) (v := ?_) (a' := ?_) #[true, true, true, true, true, false, false, false, true, false, true, false, false, false, false, false] rfl rfl (take_ofW HT_.out HW_.out (by kernel_rfl)) (fun _ _ _ h => h) (Or.inl ⟨by rfl, ?_⟩) hHeld ?_ ?_
                          rotate_left
                          · rintro w' ⟨s0, s1, s2, s3, s4, s5, s6, s7⟩
                            go_simp
                            with_reducible rfl
                          rotate_left
                          · simp only [Act.put, List.setIfInBounds_toArray, List.set_cons_zero, List.set_cons_succ, i64_w, i32_w]
                            rfl
                          refine pure_ (i := 5) (N := some 38) (v := ?_) (a' := ?_) #[true, true, true, true, true, true, false, false, true, false, true, false, false, false, false, false] rfl rfl (any_of HT_.out (by kernel_rfl)) (fun _ _ _ h => h) (Or.inl ⟨by rfl, ?_⟩) ?_ ?_
                          rotate_left
                          · intro w'
                            go_simp
                            with_reducible rfl
                          rotate_left
                          · simp only [Act.put, List.setIfInBounds_toArray, List.set_cons_zero, List.set_cons_succ, i64_w, i32_w]
                            rfl
                          refine pure_ (i := 6) (N := some 39) (v := ?_) (a' := ?_) #[true, true, true, true, true, true, true, false, true, false, true, false, false, false, false, false] rfl rfl (any_of HT_.out (by kernel_rfl)) (fun _ _ _ h => h) (Or.inl ⟨by rfl, ?_⟩) ?_ ?_
                          rotate_left
                          · intro w'
                            go_simp
                            with_reducible rfl
                          rotate_left
                          · simp only [Act.put, List.setIfInBounds_toArray, List.set_cons_zero, List.set_cons_succ, i64_w, i32_w]
                            rfl
                          refine take_ (i := 7) (N := some 40) (v := ?_) (a' := ?_) #[true, true, true, true, true, true, true, true, true, false, true, false, false, false, false, false] rfl rfl (take_ofW HT_.out HW_.out (by kernel_rfl)) (fun _ _ _ h => h) (Or.inl ⟨by rfl, ?_⟩) hHeld ?_ ?_
                          rotate_left
                          · rintro w' ⟨s0, s1, s2, s3, s4, s5, s6, s7⟩
                            go_simp
                            with_reducible rfl
                          rotate_left
                          · simp only [Act.put, List.setIfInBounds_toArray, List.set_cons_zero, List.set_cons_succ, i64_w, i32_w]
                            rfl
                          refine take_ (i := 9) (N := some 42) (v := ?_) (a' := ?_) #[true, true, true, true, true, true, true, true, true, true, true, false, false, false, false, false] rfl rfl (take_ofW HT_.out HW_.out (by kernel_rfl)) (fun _ _ _ h => h) (Or.inl ⟨by rfl, ?_⟩) hHeld ?_ ?_
                          rotate_left
                          · rintro w' ⟨s0, s1, s2, s3, s4, s5, s6, s7⟩
                            go_simp
                            with_reducible rfl
                          rotate_left
                          · simp only [Act.put, List.setIfInBounds_toArray, List.set_cons_zero, List.set_cons_succ, i64_w, i32_w]
                            rfl
                          refine pure_ (i := 11) (N := some 44) (v := ?_) (a' := ?_) #[true, true, true, true, true, true, true, true, true, true, true, true, false, false, false, false] rfl rfl (any_of HT_.out (by kernel_rfl)) (fun _ _ _ h => h) (Or.inl ⟨by rfl, ?_⟩) ?_ ?_
                          rotate_left
                          · intro w'
                            go_simp
                            with_reducible rfl
                          rotate_left
                          · simp only [Act.put, List.setIfInBounds_toArray, List.set_cons_zero, List.set_cons_succ, i64_w, i32_w]
                            rfl
                          refine pure_ (i := 12) (N := some 45) (v := ?_) (a' := ?_) #[true, true, true, true, true, true, true, true, true, true, true, true, true, false, false, false] rfl rfl (any_of HT_.out (by kernel_rfl)) (fun _ _ _ h => h) (Or.inl ⟨by rfl, ?_⟩) ?_ ?_
                          rotate_left
                          · intro w'
                            go_simp
                            with_reducible rfl
                          rotate_left
                          · simp only [Act.put, List.setIfInBounds_toArray, List.set_cons_zero, List.set_cons_succ, i64_w, i32_w]
                            rfl
                          refine take_ (i := 13) (N := some 46) (v := ?_) (a' := ?_) #[true, true, true, true, true, true, true, true, true, true, true, true, true, true, false, false] rfl rfl (take_ofW HT_.out HW_.out (by kernel_rfl)) (fun _ _ _ h => h) (Or.inl ⟨by rfl, ?_⟩) hHeld ?_ ?_
                          rotate_left
                          · rintro w' ⟨s0, s1, s2, s3, s4, s5, s6, s7⟩
                            go_simp
                            with_reducible rfl
                          rotate_left
                          · simp only [Act.put, List.setIfInBounds_toArray, List.set_cons_zero, List.set_cons_succ, i64_w, i32_w]
                            rfl
                          refine pure_ (i := 14) (N := some 47) (v := ?_) (a' := ?_) #[true, true, true, true, true, true, true, true, true, true, true, true, true, true, true, false] rfl rfl (any_of HT_.out (by kernel_rfl)) (fun _ _ _ h => h) (Or.inl ⟨by rfl, ?_⟩) ?_ ?_
                          rotate_left
                          · intro w'
                            go_simp
                            with_reducible rfl
                          rotate_left
                          · simp only [Act.put, List.setIfInBounds_toArray, List.set_cons_zero, List.set_cons_succ, i64_w, i32_w]
                            rfl
                          refine last_ (i := 15) (N := none) #[true, true, true, true, true, true, true, true, true, true, true, true, true, true, true, true] rfl rfl (one_of HT_.out (by kernel_rfl)) (by decide) (fun K hK => ?_)
                          refine skip_ (w1 := ?_) (by rfl) rfl ?_ ?_
                          rotate_left
                          · go_simp
                            rfl
                          refine hK.out _ _ ?_
                          clear hK K
                          refine done_ (done_of HT_.out (by kernel_rfl)) ?_
                          try go_wp2
                          go_roundg kj17
                          case measure => have := HK1.out; have := HJ17.out; omega
                          case rel => exact ⟨(wrap64 (x7_1 + 1)), (y173), (.slice (some ⟨go34, 0, none⟩) x170000_1.length co34), (by first | rfl | (simp; done) | (simp [*]; done)), H', ⟨by have := HK1.out; have := HJ17.out; omega⟩, ⟨by (with_reducible repeat (first | apply Kd.R_alloc | apply Kd.R_drewN | apply Kd.R_drew)); exact HQ36.out⟩, ⟨by (with_reducible repeat (first | refine blk_drewN ?_ _ | refine blk_drew ?_ | refine blk_alloc ?_ _)); refine blk_far ?_ (by have h_ := Kd.R_ne HO_170000.out BK163.out (by decide); intro e_; exact h_ (by rw [e_]; rfl)) _; (with_reducible repeat (first | refine blk_drewN ?_ _ | refine blk_drew ?_ | refine blk_alloc ?_ _)); exact BK163.out⟩, ⟨by (with_reducible repeat (first | refine blk_drewN ?_ _ | refine blk_drew ?_ | refine blk_alloc ?_ _)); refine blk_far ?_ (by have h_ := Kd.R_ne HO_170000.out BK164.out (by decide); intro e_; exact h_ (by rw [e_]; rfl)) _; (with_reducible repeat (first | refine blk_drewN ?_ _ | refine blk_drew ?_ | refine blk_alloc ?_ _)); exact BK164.out⟩, ⟨by (with_reducible repeat (first | refine blk_drewN ?_ _ | refine blk_drew ?_ | refine blk_alloc ?_ _)); refine blk_far ?_ (by have h_ := Kd.R_ne HO_170000.out BK169.out (by decide); intro e_; exact h_ (by rw [e_]; rfl)) _; (with_reducible repeat (first | refine blk_drewN ?_ _ | refine blk_drew ?_ | refine blk_alloc ?_ _)); exact BK169.out⟩, ⟨by repeat (first | (with_reducible first | exact HB.out | apply below_alloc | apply pw_below_drewN | apply below_drew1 | refine below_set ?_ GB34.out | refine below_set ?_ GE163.out | refine below_set ?_ GE164.out | refine below_set ?_ GE169.out) | exact HB.out)⟩⟩
                        · rw [if_neg c33] at H
                          exact absurd H (by simp)
                      · rw [if_neg c32] at H
                        exact absurd H (by simp)
                    · rw [if_neg c31] at H
                      exact absurd H (by simp)
                  · replace c30 := Bool.eq_false_iff.mpr c30
                    subst c30
                    have H1 : (sextonref04_Crash.l0 kj17 l1 (wrap64 (x7_1 + 1)) l0_0 l0_1 x170000_1) = some (r1, r2, r3) := by rw [if_neg (show ¬ (false = true) by decide)] at H; exact H
                    clear H
                    have H := H1
                    clear H1
                    have H' := Aside0.mk H
                    clear H
                    have p170 : 0 ≤ (x7_1 : Int) := of_decide_eq_true (by first | (with_reducible assumption) | assumption)
                    have q170 : x7_1 < (l1.length : Int) := of_decide_eq_true (by first | (with_reducible assumption) | assumption)
                    obtain ⟨ad170, e170, hx170_0⟩ := Kd.at_bool HR1.out x7_1 p170 q170
                    (try rw [← Nbq29.out] at hx170_0)
                    cases e170
                    replace hx170_0 := (HB.out.cell (World.block_lt_of_cell? w _ hx170_0)).trans hx170_0
                    replace p170 := eq_true p170
                    replace q170 := eq_true q170
                    go_wp2
                    go_roundg kj17
                    case measure => have := HK1.out; have := HJ17.out; omega
                    case rel => exact ⟨(wrap64 (x7_1 + 1)), (x170000_1), (u170000), (by first | rfl | (simp; done) | (simp [*]; done)), H', ⟨by have := HK1.out; have := HJ17.out; omega⟩, ⟨by (with_reducible repeat (first | apply Kd.R_alloc | apply Kd.R_drewN | apply Kd.R_drew)); exact HO_170000.out⟩, ⟨by (with_reducible repeat (first | refine blk_drewN ?_ _ | refine blk_drew ?_ | refine blk_alloc ?_ _)); exact BK163.out⟩, ⟨by (with_reducible repeat (first | refine blk_drewN ?_ _ | refine blk_drew ?_ | refine blk_alloc ?_ _)); exact BK164.out⟩, ⟨by (with_reducible repeat (first | refine blk_drewN ?_ _ | refine blk_drew ?_ | refine blk_alloc ?_ _)); exact BK169.out⟩, ⟨by repeat (first | (with_reducible first | exact HB.out | apply below_alloc | apply pw_below_drewN | apply below_drew1 | refine below_set ?_ GE163.out | refine below_set ?_ GE164.out | refine below_set ?_ GE169.out) | exact HB.out)⟩⟩
                · rw [if_neg c28] at H
                  exact absurd H (by simp)
              · rw [if_neg c27] at H
                exact absurd H (by simp)
            · replace c26 := Bool.eq_false_iff.mpr c26
              subst c26
              have H1 : (some (x170000_1, ([] : List (S40)), 0)) = some (r1, r2, r3) := by rw [if_neg (show ¬ (false = true) by decide)] at H; exact H
              clear H
              have H := H1
              clear H1
              simp only [Option.some.injEq, Prod.mk.injEq] at H
              obtain ⟨rfl, rfl, rfl⟩ := H
              have hnb37 := NB169_163.out
              have hnc37 := NB163_169.out
              have hnb38 := NB169_164.out
              have hnc38 := NB164_169.out
              have hcz39_0 : wc.cell? ⟨gb169, 0, none⟩ = some (u170000) := (blk_cell BK169.out 0).trans rfl
              have hcz39_1 : wc.cell? ⟨gb169, 1, none⟩ = some (.slice none 0 0) := (blk_cell BK169.out 1).trans rfl
              have hfz39_0 := blk_frozen BK169.out 0
              have hfz39_1 := blk_frozen BK169.out 1
              obtain ⟨Ao40, co40, eo40⟩ := Kd.R_slice HO_170000.out
              subst eo40
              have hnb41 := NB164_163.out
              have hnc41 := NB163_164.out
              have hcz42_0 : wc.cell? ⟨gb164, 0, none⟩ = some (.slice none 0 0) := (blk_cell BK164.out 0).trans rfl
              have hcz42_1 : wc.cell? ⟨gb164, 1, none⟩ = some (.slice none 0 0) := (blk_cell BK164.out 1).trans rfl
              have hfz42_0 := blk_frozen BK164.out 0
              have hfz42_1 := blk_frozen BK164.out 1
              go_wp2
              refine bodyPost_ret (results_ct rfl _ _ gb164 25 #[.slice Ao40 x170000_1.length co40, .slice none 0 0] (0, 0) _ rfl (by (with_reducible repeat (first | refine blk_drewN ?_ _ | refine blk_drew ?_ | refine blk_alloc ?_ _)); refine blk_put (cs := #[.slice Ao40 x170000_1.length co40, .slice none 0 0]) ?_ 1 _ rfl; (with_reducible repeat (first | refine blk_drewN ?_ _ | refine blk_drew ?_ | refine blk_alloc ?_ _)); refine blk_put (cs := #[.slice none 0 0, .slice none 0 0]) ?_ 0 _ rfl; (with_reducible repeat (first | refine blk_drewN ?_ _ | refine blk_drew ?_ | refine blk_alloc ?_ _)); exact BK164.out) Try.underlying25 rfl (by kernel_rfl)) rfl ?_
              exact ⟨_, _, by first | rfl | (simp [errW_none, errW_some] <;> rfl) | (simp [*, errW_none, errW_some] <;> rfl), by (with_reducible repeat (first | apply Kd.R_alloc | apply Kd.R_drewN | apply Kd.R_drew)); exact Kd.R_mono (Kd.R_far (p := ⟨gb164, 1, none⟩) (Kd.R_far (p := ⟨gb164, 0, none⟩) (Kd.R_types HO_170000.out BK164.out (by decide)) (fun _ hk => hk.2) (.slice Ao40 x170000_1.length co40)) (fun _ hk => hk.2) (.slice none 0 0)) (fun _ hk => trivial), by first | exact Kd.R_nil _ _ _ _ _ | exact Kd.N_nil _ _ _ _ _ | exact Kd.V_nil _ _ _ _ _ | exact Kd.Q_nil _ _ _ _ _ | exact Kd.S_nil _ _ _ _ _, by repeat (first | (with_reducible first | exact HB.out | apply below_alloc | apply pw_below_drewN | apply below_drew1 | refine below_set ?_ GE163.out | refine below_set ?_ GE164.out | refine below_set ?_ GE169.out) | exact HB.out)⟩
  · replace c4 := Bool.eq_false_iff.mpr c4
    subst c4
    have H1 : (some (([] : List ByteArray), ([] : List (S40)), 1)) = some (r1, r2, r3) := by rw [if_neg (show ¬ (false = true) by decide)] at H; exact H
    clear H
    have H := H1
    clear H1
    simp only [Option.some.injEq, Prod.mk.injEq] at H
    obtain ⟨rfl, rfl, rfl⟩ := H
    go_enter Try.func20, Try.ntmps20
    go_wp2_with (first | ((with_reducible refine gate_dst (N := 2) rfl ?_); (try (refine gate_guard (by rfl) ?_; dsimp only)); refine box_event ?hg (N := 2) ?hd (cs := #[.slice A0_0 l0_0.length c0_0, .slice A0_1 l0_1.length c0_1]) (t := 25) ?hr ?_; (case hd => rfl); (case hg => rfl); (case hr => first | (go_simp; done) | (go_simp; rfl)); intro gb163 hg w43 hbox hb; have n0_ := Aside0.mk (below_step (by repeat (first | (with_reducible first | exact HB.out | apply below_alloc | apply pw_below_drewN | apply below_drew1) | exact HB.out)) hb); have n1_ := Aside0.mk (hbox); have n2_ := Aside0.mk ((by rw [hg]; exact (below_size (by repeat (first | (with_reducible first | exact HB.out | apply below_alloc | apply pw_below_drewN | apply below_drew1) | exact HB.out))) : w.heap.size ≤ gb163)); have n3_ := Aside0.mk ((by rw [hg]; exact (below_size (by repeat (first | (with_reducible first | exact HB.out | apply below_alloc | apply pw_below_drewN | apply below_drew1) | exact HB.out))) : w.heap.size ≤ gb163)); clear HB; have HB := n0_; have BK163 := n1_; have GW163 := n2_; have GE163 := n3_; clear n0_ n1_ n2_ n3_; clear hb hbox hg) | ((with_reducible refine gate_dst (N := 4) rfl ?_); (try (refine gate_guard (by rfl) ?_; dsimp only)); refine box_event ?hg (N := 4) ?hd (cs := #[.slice none 0 0, .slice none 0 0]) (t := 25) ?hr ?_; (case hd => rfl); (case hg => rfl); (case hr => first | (go_simp; done) | (go_simp; rfl)); intro gb164 hg w44 hbox hb; have n0_ := Aside0.mk (blk_below (g := gb163) (o := .cells #[.slice A0_0 l0_0.length c0_0, .slice A0_1 l0_1.length c0_1] 25 (0, 0)) (by (with_reducible repeat (first | refine blk_drewN ?_ _ | refine blk_drew ?_ | refine blk_alloc ?_ _)); exact BK163.out) hb); have n1_ := Aside0.mk (below_step (by repeat (first | (with_reducible first | exact HB.out | apply below_alloc | apply pw_below_drewN | apply below_drew1 | refine below_set ?_ GE163.out) | exact HB.out)) hb); have n2_ := Aside0.mk (hbox); have n3_ := Aside0.mk ((by rw [hg]; exact (below_size (by repeat (first | (with_reducible first | exact HB.out | apply below_alloc | apply pw_below_drewN | apply below_drew1 | refine below_set ?_ GE163.out) | exact HB.out))) : w.heap.size ≤ gb164)); have n4_ := Aside0.mk ((by rw [hg]; exact (below_size (by repeat (first | (with_reducible first | exact HB.out | apply below_alloc | apply pw_below_drewN | apply below_drew1 | refine below_set ?_ GE163.out) | exact HB.out))) : w.heap.size ≤ gb164)); have n5_ := Aside0.mk ((by rw [hg]; exact Nat.ne_of_lt (blk_lt (g := gb163) (o := .cells #[.slice A0_0 l0_0.length c0_0, .slice A0_1 l0_1.length c0_1] 25 (0, 0)) (by (with_reducible repeat (first | refine blk_drewN ?_ _ | refine blk_drew ?_ | refine blk_alloc ?_ _)); exact BK163.out)) : gb163 ≠ gb164)); have n6_ := Aside0.mk ((by rw [hg]; exact Nat.ne_of_gt (blk_lt (g := gb163) (o := .cells #[.slice A0_0 l0_0.length c0_0, .slice A0_1 l0_1.length c0_1] 25 (0, 0)) (by (with_reducible repeat (first | refine blk_drewN ?_ _ | refine blk_drew ?_ | refine blk_alloc ?_ _)); exact BK163.out)) : gb164 ≠ gb163)); clear BK163; clear HB; have BK163 := n0_; have HB := n1_; have BK164 := n2_; have GW164 := n3_; have GE164 := n4_; have NB163_164 := n5_; have NB164_163 := n6_; clear n0_ n1_ n2_ n3_ n4_ n5_ n6_; clear hb hbox hg; have hnb45 := NB163_164.out; have hnc45 := NB164_163.out; have hcz46_0 : w44.cell? ⟨gb163, 0, none⟩ = some (.slice A0_0 l0_0.length c0_0) := (blk_cell BK163.out 0).trans rfl; have hcz46_1 : w44.cell? ⟨gb163, 1, none⟩ = some (.slice A0_1 l0_1.length c0_1) := (blk_cell BK163.out 1).trans rfl; have hfz46_0 := blk_frozen BK163.out 0; have hfz46_1 := blk_frozen BK163.out 1) | ((with_reducible refine gate_callee (f := 25) rfl ?_); refine goesL_ (some 9) rfl rfl Try.func25 (by kernel_rfl) rfl #[.agg #[.slice A0_0 l0_0.length c0_0, .slice A0_1 l0_1.length c0_1]] rfl (by (try simp only [List.map_toArray, List.map_cons, List.map_nil]); first | done | rfl | (simp only [List.length_drop, List.length_take]; rfl)) ?_; (with_reducible refine (sextonref04_Check.calls k _ _ l0_0 _ _ l0_1 false _ ?side1 ?side2 ?side3 ?side4 A3.out).mono ?_); (case side1 => repeat (first | exact (Kd.C_below HR0_0.out HB.out) | (with_reducible refine Kd.C_alloc ?_ _) | (with_reducible refine Kd.C_drewN ?_ _) | (with_reducible refine Kd.C_drew ?_))); (case side2 => exact HC0_0.out); (case side3 => repeat (first | exact (Kd.C_below HR0_1.out HB.out) | (with_reducible refine Kd.C_alloc ?_ _) | (with_reducible refine Kd.C_drewN ?_ _) | (with_reducible refine Kd.C_drew ?_))); (case side4 => exact HC0_1.out); rintro e w47 ⟨rfl, hb⟩; refine ⟨_, rfl, ?_⟩; have n0_ := Aside0.mk (blk_below (g := gb163) (o := .cells #[.slice A0_0 l0_0.length c0_0, .slice A0_1 l0_1.length c0_1] 25 (0, 0)) (by (with_reducible repeat (first | refine blk_drewN ?_ _ | refine blk_drew ?_ | refine blk_alloc ?_ _)); exact BK163.out) hb); have n1_ := Aside0.mk (blk_below (g := gb164) (o := .cells #[.slice none 0 0, .slice none 0 0] 25 (0, 0)) (by (with_reducible repeat (first | refine blk_drewN ?_ _ | refine blk_drew ?_ | refine blk_alloc ?_ _)); exact BK164.out) hb); have n2_ := Aside0.mk (below_step (by repeat (first | (with_reducible first | exact HB.out | apply below_alloc | apply pw_below_drewN | apply below_drew1 | refine below_set ?_ GE163.out | refine below_set ?_ GE164.out) | exact HB.out)) hb); clear BK163; clear BK164; clear HB; have BK163 := n0_; have BK164 := n1_; have HB := n2_; clear n0_ n1_ n2_; (try clear hb); (try clear hb2); (try clear hk); (try clear hi); have hcz48_0 : w47.cell? ⟨gb164, 0, none⟩ = some (.slice none 0 0) := (blk_cell BK164.out 0).trans rfl; have hcz48_1 : w47.cell? ⟨gb164, 1, none⟩ = some (.slice none 0 0) := (blk_cell BK164.out 1).trans rfl; have hfz48_0 := blk_frozen BK164.out 0; have hfz48_1 := blk_frozen BK164.out 1))
    refine bodyPost_ret (results_ct rfl _ _ gb164 25 #[.slice none 0 0, .slice none 0 0] (0, 0) _ rfl (by (with_reducible repeat (first | refine blk_drewN ?_ _ | refine blk_drew ?_ | refine blk_alloc ?_ _)); refine blk_put (cs := #[.slice none 0 0, .slice none 0 0]) ?_ 1 _ rfl; (with_reducible repeat (first | refine blk_drewN ?_ _ | refine blk_drew ?_ | refine blk_alloc ?_ _)); refine blk_put (cs := #[.slice none 0 0, .slice none 0 0]) ?_ 0 _ rfl; (with_reducible repeat (first | refine blk_drewN ?_ _ | refine blk_drew ?_ | refine blk_alloc ?_ _)); exact BK164.out) Try.underlying25 rfl (by kernel_rfl)) rfl ?_
    exact ⟨_, _, by first | rfl | (simp [errW_none, errW_some] <;> rfl) | (simp [*, errW_none, errW_some] <;> rfl), by first | exact Kd.R_nil _ _ _ _ _ | exact Kd.N_nil _ _ _ _ _ | exact Kd.V_nil _ _ _ _ _ | exact Kd.Q_nil _ _ _ _ _ | exact Kd.S_nil _ _ _ _ _, by first | exact Kd.R_nil _ _ _ _ _ | exact Kd.N_nil _ _ _ _ _ | exact Kd.V_nil _ _ _ _ _ | exact Kd.Q_nil _ _ _ _ _ | exact Kd.S_nil _ _ _ _ _, by repeat (first | (with_reducible first | exact HB.out | apply below_alloc | apply pw_below_drewN | apply below_drew1 | refine below_set ?_ GE163.out | refine below_set ?_ GE164.out) | exact HB.out)⟩

end Go.Proofs.Ytoibofhmlokglaa.P
-- Written by a program of this session (xprint.py) over the kit's print.py.
namespace Go.Proofs.Ytoibofhmlokglaa.P
open Go.RowKit Go.Proofs.YtoibofhmlokglaaW.PrintWords Go.Proofs.YtoibofhmlokglaaW.PrintLast Go.Proofs.YtoibofhmlokglaaW.PrintMore
attribute [local go_sem] max2_int min2_int max_two min_two max_three min_three max_four min_four   -- for this text's walks alone
set_option linter.unusedVariables false
set_option linter.unusedSimpArgs false

/-! ### sextonref04_New: function 22 -/
def sextonref04_New.f (a0 : Int) : Option (List ByteArray × (List (S40)) × Int) := if a0 < 1 then (some (([] : List ByteArray), ([] : List (S40)), 1)) else (if a0 > 200 then (some (([] : List ByteArray), ([] : List (S40)), 1)) else (if 0 ≤ a0 then (if (a0 : Int).toNat ≤ 17592186044416 then (some ((List.replicate (a0 : Int).toNat (⟨#[]⟩ : ByteArray)), ([] : List (S40)), 0)) else (none)) else (none)))
set_option maxHeartbeats 8000000 in
set_option maxRecDepth 100000 in
theorem sextonref04_New.calls (a0 : Int) (r1 : List ByteArray) (r2 : List (S40)) (r3 : Int) (w : World) (h : sextonref04_New.f a0 = some (r1, r2, r3)) :
    Calls Try.prog 22 #[.int .i64 a0] w fun e w' => ∃ v0_ v1_ : Value, e = .returned (.tuple #[.agg #[v0_, v1_], .int .i64 r3]) ∧ Kd.R Kd.string 9 w' w.heap.size (fun _ => True) v0_ r1 ∧ Kd.R k40 40 w' w.heap.size (fun _ => True) v1_ r2 ∧ Below w.heap.size w w' := by
  have hu25 := Try.underlying25
  have HB := Aside0.mk (Below.refl w.heap.size w)
  have H : (if a0 < 1 then (some (([] : List ByteArray), ([] : List (S40)), 1)) else (if a0 > 200 then (some (([] : List ByteArray), ([] : List (S40)), 1)) else (if 0 ≤ a0 then (if (a0 : Int).toNat ≤ 17592186044416 then (some ((List.replicate (a0 : Int).toNat (⟨#[]⟩ : ByteArray)), ([] : List (S40)), 0)) else (none)) else (none)))) = some (r1, r2, r3) := h
  clear h
  by_cases c2 : a0 < 1
  · rw [if_pos c2] at H
    have c2b0 : decide (a0 < 1) = true := decide_eq_true c2
    clear c2
    simp only [Option.some.injEq, Prod.mk.injEq] at H
    obtain ⟨rfl, rfl, rfl⟩ := H
    go_enter Try.func22, Try.ntmps22
    go_wp2_with (first | ((with_reducible refine gate_dst (N := 2) rfl ?_); refine box_event ?hg (N := 2) ?hd (cs := #[.slice none 0 0, .slice none 0 0]) (t := 25) ?hr ?_; (case hd => rfl); (case hg => rfl); (case hr => first | (go_simp; done) | (go_simp; rfl)); intro gb178 hg w3 hbox hb; have n0_ := Aside0.mk (below_step (by repeat (first | (with_reducible first | exact HB.out | apply below_alloc | apply pw_below_drewN | apply below_drew1) | exact HB.out)) hb); have n1_ := Aside0.mk (hbox); have n2_ := Aside0.mk ((by rw [hg]; exact (below_size (by repeat (first | (with_reducible first | exact HB.out | apply below_alloc | apply pw_below_drewN | apply below_drew1) | exact HB.out))) : w.heap.size ≤ gb178)); have n3_ := Aside0.mk ((by rw [hg]; exact (below_size (by repeat (first | (with_reducible first | exact HB.out | apply below_alloc | apply pw_below_drewN | apply below_drew1) | exact HB.out))) : w.heap.size ≤ gb178)); clear HB; have HB := n0_; have BK178 := n1_; have GW178 := n2_; have GE178 := n3_; clear n0_ n1_ n2_ n3_; clear hb hbox hg; have hcz4_0 : w3.cell? ⟨gb178, 0, none⟩ = some (.slice none 0 0) := (blk_cell BK178.out 0).trans rfl; have hcz4_1 : w3.cell? ⟨gb178, 1, none⟩ = some (.slice none 0 0) := (blk_cell BK178.out 1).trans rfl; have hfz4_0 := blk_frozen BK178.out 0; have hfz4_1 := blk_frozen BK178.out 1))
    refine bodyPost_ret (results_ct rfl _ _ gb178 25 #[.slice none 0 0, .slice none 0 0] (0, 0) _ rfl (by (with_reducible repeat (first | refine blk_drewN ?_ _ | refine blk_drew ?_ | refine blk_alloc ?_ _)); refine blk_put (cs := #[.slice none 0 0, .slice none 0 0]) ?_ 1 _ rfl; (with_reducible repeat (first | refine blk_drewN ?_ _ | refine blk_drew ?_ | refine blk_alloc ?_ _)); refine blk_put (cs := #[.slice none 0 0, .slice none 0 0]) ?_ 0 _ rfl; (with_reducible repeat (first | refine blk_drewN ?_ _ | refine blk_drew ?_ | refine blk_alloc ?_ _)); exact BK178.out) Try.underlying25 rfl (by kernel_rfl)) rfl ?_
    exact ⟨_, _, by first | rfl | (simp [errW_none, errW_some] <;> rfl) | (simp [*, errW_none, errW_some] <;> rfl), by first | exact Kd.R_nil _ _ _ _ _ | exact Kd.N_nil _ _ _ _ _ | exact Kd.V_nil _ _ _ _ _ | exact Kd.Q_nil _ _ _ _ _ | exact Kd.S_nil _ _ _ _ _, by first | exact Kd.R_nil _ _ _ _ _ | exact Kd.N_nil _ _ _ _ _ | exact Kd.V_nil _ _ _ _ _ | exact Kd.Q_nil _ _ _ _ _ | exact Kd.S_nil _ _ _ _ _, by repeat (first | (with_reducible first | exact HB.out | apply below_alloc | apply pw_below_drewN | apply below_drew1 | refine below_set ?_ GE178.out) | exact HB.out)⟩
  · rw [if_neg c2] at H
    have c2b0 : decide (a0 < 1) = false := decide_eq_false c2
    clear c2
    by_cases c5 : a0 > 200
    · rw [if_pos c5] at H
      have c5b0 : decide (200 < a0) = true := decide_eq_true c5
      clear c5
      simp only [Option.some.injEq, Prod.mk.injEq] at H
      obtain ⟨rfl, rfl, rfl⟩ := H
      go_enter Try.func22, Try.ntmps22
      go_wp2_with (first | ((with_reducible refine gate_dst (N := 2) rfl ?_); refine box_event ?hg (N := 2) ?hd (cs := #[.slice none 0 0, .slice none 0 0]) (t := 25) ?hr ?_; (case hd => rfl); (case hg => rfl); (case hr => first | (go_simp; done) | (go_simp; rfl)); intro gb178 hg w6 hbox hb; have n0_ := Aside0.mk (below_step (by repeat (first | (with_reducible first | exact HB.out | apply below_alloc | apply pw_below_drewN | apply below_drew1) | exact HB.out)) hb); have n1_ := Aside0.mk (hbox); have n2_ := Aside0.mk ((by rw [hg]; exact (below_size (by repeat (first | (with_reducible first | exact HB.out | apply below_alloc | apply pw_below_drewN | apply below_drew1) | exact HB.out))) : w.heap.size ≤ gb178)); have n3_ := Aside0.mk ((by rw [hg]; exact (below_size (by repeat (first | (with_reducible first | exact HB.out | apply below_alloc | apply pw_below_drewN | apply below_drew1) | exact HB.out))) : w.heap.size ≤ gb178)); clear HB; have HB := n0_; have BK178 := n1_; have GW178 := n2_; have GE178 := n3_; clear n0_ n1_ n2_ n3_; clear hb hbox hg; have hcz7_0 : w6.cell? ⟨gb178, 0, none⟩ = some (.slice none 0 0) := (blk_cell BK178.out 0).trans rfl; have hcz7_1 : w6.cell? ⟨gb178, 1, none⟩ = some (.slice none 0 0) := (blk_cell BK178.out 1).trans rfl; have hfz7_0 := blk_frozen BK178.out 0; have hfz7_1 := blk_frozen BK178.out 1))
      refine bodyPost_ret (results_ct rfl _ _ gb178 25 #[.slice none 0 0, .slice none 0 0] (0, 0) _ rfl (by (with_reducible repeat (first | refine blk_drewN ?_ _ | refine blk_drew ?_ | refine blk_alloc ?_ _)); refine blk_put (cs := #[.slice none 0 0, .slice none 0 0]) ?_ 1 _ rfl; (with_reducible repeat (first | refine blk_drewN ?_ _ | refine blk_drew ?_ | refine blk_alloc ?_ _)); refine blk_put (cs := #[.slice none 0 0, .slice none 0 0]) ?_ 0 _ rfl; (with_reducible repeat (first | refine blk_drewN ?_ _ | refine blk_drew ?_ | refine blk_alloc ?_ _)); exact BK178.out) Try.underlying25 rfl (by kernel_rfl)) rfl ?_
      exact ⟨_, _, by first | rfl | (simp [errW_none, errW_some] <;> rfl) | (simp [*, errW_none, errW_some] <;> rfl), by first | exact Kd.R_nil _ _ _ _ _ | exact Kd.N_nil _ _ _ _ _ | exact Kd.V_nil _ _ _ _ _ | exact Kd.Q_nil _ _ _ _ _ | exact Kd.S_nil _ _ _ _ _, by first | exact Kd.R_nil _ _ _ _ _ | exact Kd.N_nil _ _ _ _ _ | exact Kd.V_nil _ _ _ _ _ | exact Kd.Q_nil _ _ _ _ _ | exact Kd.S_nil _ _ _ _ _, by repeat (first | (with_reducible first | exact HB.out | apply below_alloc | apply pw_below_drewN | apply below_drew1 | refine below_set ?_ GE178.out) | exact HB.out)⟩
    · rw [if_neg c5] at H
      have c5b0 : decide (200 < a0) = false := decide_eq_false c5
      clear c5
      by_cases c8 : 0 ≤ a0
      · rw [if_pos c8] at H
        have c8b0 := eq_true c8
        have c8b1 : decide (0 ≤ a0) = true := decide_eq_true c8
        clear c8
        by_cases c9 : (a0 : Int).toNat ≤ 17592186044416
        · rw [if_pos c9] at H
          have c9b0 := eq_true c9
          have c9b1 : decide ((a0 : Int).toNat ≤ 17592186044416) = true := decide_eq_true c9
          clear c9
          obtain ⟨y179, hy179⟩ : ∃ y_ : List ByteArray, y_ = (List.replicate (a0 : Int).toNat (⟨#[]⟩ : ByteArray)) := ⟨_, rfl⟩
          replace H : (some (y179, ([] : List (S40)), 0)) = some (r1, r2, r3) := by first | (rw [hy179]; with_reducible exact H) | (have H2_ := (Option.bind_some _ _).symm.trans H; rw [hy179]; with_reducible exact H2_) | (have H2_ := (Option.bind_some _ _).symm.trans H; with_reducible exact H2_) | with_reducible exact H | (rw [hy179]; exact H) | exact H
          have Ny179 := Aside0.mk hy179
          clear hy179
          simp only [Option.some.injEq, Prod.mk.injEq] at H
          obtain ⟨rfl, rfl, rfl⟩ := H
          go_enter Try.func22, Try.ntmps22
          go_wp2_with (first | ((with_reducible refine gate_dst (N := 2) rfl ?_); refine box_event ?hg (N := 2) ?hd (cs := #[.slice none 0 0, .slice none 0 0]) (t := 25) ?hr ?_; (case hd => rfl); (case hg => rfl); (case hr => first | (go_simp; done) | (go_simp; rfl)); intro gb178 hg w10 hbox hb; have n0_ := Aside0.mk (below_step (by repeat (first | (with_reducible first | exact HB.out | apply below_alloc | apply pw_below_drewN | apply below_drew1) | exact HB.out)) hb); have n1_ := Aside0.mk (hbox); have n2_ := Aside0.mk ((by rw [hg]; exact (below_size (by repeat (first | (with_reducible first | exact HB.out | apply below_alloc | apply pw_below_drewN | apply below_drew1) | exact HB.out))) : w.heap.size ≤ gb178)); have n3_ := Aside0.mk ((by rw [hg]; exact (below_size (by repeat (first | (with_reducible first | exact HB.out | apply below_alloc | apply pw_below_drewN | apply below_drew1) | exact HB.out))) : w.heap.size ≤ gb178)); clear HB; have HB := n0_; have BK178 := n1_; have GW178 := n2_; have GE178 := n3_; clear n0_ n1_ n2_ n3_; clear hb hbox hg) | ((with_reducible refine gate_dst (N := 12) rfl ?_); refine Kd.R_make Kd.string _ 9 rfl (N := 12) rfl 22 _ _ rfl a0 rfl rfl Try.underlying22 (.string ⟨#[]⟩) 16 info9 rfl (by decide) (by omega) (⟨#[]⟩ : ByteArray) (ok := fun _ => True) (okp := fun _ => True) rfl (fun _ hk => hk) trivial (of_decide_eq_true (by first | (with_reducible assumption) | assumption)) (Nat.le_trans (Nat.mul_le_mul_right _ (of_decide_eq_true (by first | (with_reducible assumption) | assumption) : a0.toNat ≤ 17592186044416)) (by omega)) (Below.refl _ _) (Nat.le_refl _) ?_; intro v180 w11 ho12 hb hg_ hnew_; clear hg_ hnew_; (first | rw [← Ny179.out] at ho12 | (simp only [Int.reduceToNat] at ho12; rw [← Ny179.out] at ho12)); have n0_ := Aside0.mk (Kd.R_lower ho12 (below_size (by repeat (first | (with_reducible first | exact HB.out | apply below_alloc | apply pw_below_drewN | apply below_drew1 | refine below_set ?_ GE178.out) | exact HB.out)))); have n1_ := Aside0.mk (blk_below (g := gb178) (o := .cells #[.slice none 0 0, .slice none 0 0] 25 (0, 0)) (by (with_reducible repeat (first | refine blk_drewN ?_ _ | refine blk_drew ?_ | refine blk_alloc ?_ _)); exact BK178.out) hb); have n2_ := Aside0.mk (below_step (by repeat (first | (with_reducible first | exact HB.out | apply below_alloc | apply pw_below_drewN | apply below_drew1 | refine below_set ?_ GE178.out) | exact HB.out)) hb); clear BK178; clear HB; have HO181 := n0_; have BK178 := n1_; have HB := n2_; clear n0_ n1_ n2_; clear hb ho12; obtain ⟨Ao13, co13, eo13⟩ := Kd.R_slice HO181.out; subst eo13; have hcz14_0 : w11.cell? ⟨gb178, 0, none⟩ = some (.slice none 0 0) := (blk_cell BK178.out 0).trans rfl; have hcz14_1 : w11.cell? ⟨gb178, 1, none⟩ = some (.slice none 0 0) := (blk_cell BK178.out 1).trans rfl; have hfz14_0 := blk_frozen BK178.out 0; have hfz14_1 := blk_frozen BK178.out 1))
          refine bodyPost_ret (results_ct rfl _ _ gb178 25 #[.slice Ao13 y179.length co13, .slice none 0 0] (0, 0) _ rfl (by (with_reducible repeat (first | refine blk_drewN ?_ _ | refine blk_drew ?_ | refine blk_alloc ?_ _)); refine blk_put (cs := #[.slice Ao13 y179.length co13, .slice none 0 0]) ?_ 1 _ rfl; (with_reducible repeat (first | refine blk_drewN ?_ _ | refine blk_drew ?_ | refine blk_alloc ?_ _)); refine blk_put (cs := #[.slice none 0 0, .slice none 0 0]) ?_ 0 _ rfl; (with_reducible repeat (first | refine blk_drewN ?_ _ | refine blk_drew ?_ | refine blk_alloc ?_ _)); exact BK178.out) Try.underlying25 rfl (by kernel_rfl)) rfl ?_
          exact ⟨_, _, by first | rfl | (simp [errW_none, errW_some] <;> rfl) | (simp [*, errW_none, errW_some] <;> rfl), by (with_reducible repeat (first | apply Kd.R_alloc | apply Kd.R_drewN | apply Kd.R_drew)); exact Kd.R_mono (Kd.R_far (p := ⟨gb178, 1, none⟩) (Kd.R_far (p := ⟨gb178, 0, none⟩) (Kd.R_types HO181.out BK178.out (by decide)) (fun _ hk => hk.2) (.slice Ao13 y179.length co13)) (fun _ hk => hk.2) (.slice none 0 0)) (fun _ hk => trivial), by first | exact Kd.R_nil _ _ _ _ _ | exact Kd.N_nil _ _ _ _ _ | exact Kd.V_nil _ _ _ _ _ | exact Kd.Q_nil _ _ _ _ _ | exact Kd.S_nil _ _ _ _ _, by repeat (first | (with_reducible first | exact HB.out | apply below_alloc | apply pw_below_drewN | apply below_drew1 | refine below_set ?_ GE178.out) | exact HB.out)⟩
        · rw [if_neg c9] at H
          exact absurd H (by simp)
      · rw [if_neg c8] at H
        exact absurd H (by simp)

end Go.Proofs.Ytoibofhmlokglaa.P
-- Written by a program of this session (xprint.py) over the kit's print.py.
namespace Go.Proofs.Ytoibofhmlokglaa.P
open Go.RowKit Go.Proofs.YtoibofhmlokglaaW.PrintWords Go.Proofs.YtoibofhmlokglaaW.PrintLast Go.Proofs.YtoibofhmlokglaaW.PrintMore
attribute [local go_sem] max2_int min2_int max_two min_two max_three min_three max_four min_four   -- for this text's walks alone
set_option linter.unusedVariables false
set_option linter.unusedSimpArgs false

theorem eqA40 (d : Nat) (w : World) (x0 y0 : Int) (x1 y1 : ByteArray) :
    (Op.equalIn (d + 2) 40 (.agg #[.int .i64 x0, .string x1]) (.agg #[.int .i64 y0, .string y1])).run Try.prog w = .ok (x0 == y0 && (x1.toList == y1.toList)) w := by
  refine eqA_of Try.underlying40 (by kernel_rfl) ?_
  refine eqf_cons (by rfl) (by go_simp; rfl) (by go_simp; rfl) (by go_simp) ?_
  exact eqf_last (by rfl) (by go_simp; rfl) (by go_simp; rfl) (by go_simp)
end Go.Proofs.Ytoibofhmlokglaa.P
-- Written by a program of this session (xprint.py) over the kit's print.py.
namespace Go.Proofs.Ytoibofhmlokglaa.P
open Go.RowKit Go.Proofs.YtoibofhmlokglaaW.PrintWords Go.Proofs.YtoibofhmlokglaaW.PrintLast Go.Proofs.YtoibofhmlokglaaW.PrintMore
attribute [local go_sem] max2_int min2_int max_two min_two max_three min_three max_four min_four   -- for this text's walks alone
set_option linter.unusedVariables false
set_option linter.unusedSimpArgs false

/-! ### sextonref01_Texts: function 38 -/
def sextonref01_Texts.l0 : Nat → List ByteArray → List ByteArray → Int → Option (Bool)
  | 0, _, _, _ => none
  | k + 1, x0, x1, x5 => if x5 < (x0.length : Int) then (if 0 ≤ x5 then (if x5 < (x1.length : Int) then (if (rdOf ByteArray.empty x0 x5).toList = (rdOf ByteArray.empty x1 x5).toList then (sextonref01_Texts.l0 k x0 x1 (wrap64 (x5 + 1))) else (some false)) else (none)) else (none)) else (some true)
def sextonref01_Texts.f (k : Nat) (l0 : List ByteArray) (l1 : List ByteArray) : Option (Bool) := if (l0.length : Int) = (l1.length : Int) then (sextonref01_Texts.l0 k l0 l1 0) else (some false)
theorem sextonref01_Texts.mono_l : ∀ k, (∀ y0 y1 y2, LeO (sextonref01_Texts.l0 k y0 y1 y2) (sextonref01_Texts.l0 (k + 1) y0 y1 y2))
  | 0 => fun _ _ _ r h => by simp [sextonref01_Texts.l0] at h
  | k + 1 => by
    have ih0 := sextonref01_Texts.mono_l k
    · intro y0 y1 y2
      unfold sextonref01_Texts.l0
      repeat' first
      | (with_reducible exact ih0 _ _ _)
      | (with_reducible exact LeO.refl _)
      | (with_reducible exact LeO.none _)
      | (with_reducible refine LeO.ite ?_ ?_)
      | (with_reducible refine LeO.bind ?_ (fun _ => ?_))
      | exact ih0 _ _ _
      | exact LeO.none _
      | refine LeO.ite ?_ ?_
      | refine LeO.bind ?_ (fun _ => ?_)
theorem sextonref01_Texts.mono : ∀ a0 a1 k, LeO (sextonref01_Texts.f k a0 a1) (sextonref01_Texts.f (k + 1) a0 a1) := by
  intro a0 a1 k
  have ih0 := sextonref01_Texts.mono_l k
  unfold sextonref01_Texts.f
  repeat' first
      | (with_reducible exact ih0 _ _ _)
      | (with_reducible exact LeO.refl _)
      | (with_reducible exact LeO.none _)
      | (with_reducible refine LeO.ite ?_ ?_)
      | (with_reducible refine LeO.bind ?_ (fun _ => ?_))
      | exact ih0 _ _ _
      | exact LeO.none _
      | refine LeO.ite ?_ ?_
      | refine LeO.bind ?_ (fun _ => ?_)
set_option maxHeartbeats 8000000 in
set_option maxRecDepth 100000 in
theorem sextonref01_Texts.calls (k : Nat) (A0 : Option Addr) (c0 : Nat) (l0 : List ByteArray) (A1 : Option Addr) (c1 : Nat) (l1 : List ByteArray) (r : Bool) (w : World) (hr0 : Kd.C Kd.string w A0 l0.length l0) (hc0 : l0.length ≤ c0) (hr1 : Kd.C Kd.string w A1 l1.length l1) (hc1 : l1.length ≤ c1) (h : sextonref01_Texts.f k l0 l1 = some r) :
    Calls Try.prog 38 #[.slice A0 l0.length c0, .slice A1 l1.length c1] w fun e w' => e = .returned (.bool r) ∧ Drawn0 w w' := by
  have HR0 := Aside0.mk hr0
  have HC0 := Aside0.mk hc0
  clear hr0 hc0
  have HR1 := Aside0.mk hr1
  have HC1 := Aside0.mk hc1
  clear hr1 hc1
  have H : (if (l0.length : Int) = (l1.length : Int) then (sextonref01_Texts.l0 k l0 l1 0) else (some false)) = some r := h
  clear h
  by_cases c3 : (l0.length : Int) = (l1.length : Int)
  · rw [if_pos c3] at H
    have c3b0 : ((l0.length : Int) == (l1.length : Int)) = true := beq_iff_eq.mpr c3
    have c3b1 : ((l0.length : Int) != (l1.length : Int)) = false := bne_eq_false_iff_eq.mpr c3
    have c3b2 : (l0.length == l1.length) = true := by first | simpa using c3 | (simp at c3 ⊢; omega)
    clear c3
    have H' := Aside0.mk H
    clear H
    go_enter Try.func38, Try.ntmps38
    go_wp2
    repeat (go_quiet (fail); try go_wp2)
    go_loopg [5] k (fun kq v5 w' => ∃ (x5_1 : Int), v5 = .int .i64 x5_1 ∧ Aside0 (sextonref01_Texts.l0 kq l0 l1 x5_1 = some r) ∧ Aside0 (kq ≤ k) ∧ Drawn0 w w')
    case atStart => exact ⟨(0), (by first | rfl | (simp; done) | (simp [*]; done)), H', ⟨Nat.le_refl _⟩, by repeat (first | exact Drawn0.refl _ | apply Drawn0.step)⟩
    case round =>
      clear H'
      try clear c1
      try clear p2
      try clear c3
      try clear c3b0
      try clear c3b1
      try clear c3b2
      obtain ⟨x5_1, rfl, HA, HK1, ⟨m1, rfl⟩⟩ := hrel
      cases gk with
      | zero => exact absurd HA.out (by simp [sextonref01_Texts.l0])
      | succ k1 =>
        have H := HA.out
        clear HA
        simp only [sextonref01_Texts.l0] at H
        by_cases c4 : x5_1 < (l0.length : Int)
        · rw [if_pos c4] at H
          have c4b0 : decide (x5_1 < (l0.length : Int)) = true := decide_eq_true c4
          clear c4
          by_cases c5 : 0 ≤ x5_1
          · rw [if_pos c5] at H
            have c5b0 : decide (0 ≤ x5_1) = true := decide_eq_true c5
            clear c5
            by_cases c6 : x5_1 < (l1.length : Int)
            · rw [if_pos c6] at H
              have c6b0 : decide (x5_1 < (l1.length : Int)) = true := decide_eq_true c6
              clear c6
              by_cases c7 : (rdOf ByteArray.empty l0 x5_1).toList = (rdOf ByteArray.empty l1 x5_1).toList
              · rw [if_pos c7] at H
                have c7b0 : ((rdOf ByteArray.empty l0 x5_1).toList == (rdOf ByteArray.empty l1 x5_1).toList) = true := beq_iff_eq.mpr c7
                have c7b1 : ((rdOf ByteArray.empty l0 x5_1).toList != (rdOf ByteArray.empty l1 x5_1).toList) = false := bne_eq_false_iff_eq.mpr c7
                clear c7
                have H' := Aside0.mk H
                clear H
                have p182 : 0 ≤ (x5_1 : Int) := of_decide_eq_true (by first | (with_reducible assumption) | assumption)
                have q182 : x5_1 < (l0.length : Int) := of_decide_eq_true (by first | (with_reducible assumption) | assumption)
                obtain ⟨ad182, e182, hx182_0⟩ := Kd.at_string HR0.out x5_1 p182 q182
                cases e182
                replace p182 := eq_true p182
                replace q182 := eq_true q182
                have p183 : 0 ≤ (x5_1 : Int) := of_decide_eq_true (by first | (with_reducible assumption) | assumption)
                have q183 : x5_1 < (l1.length : Int) := of_decide_eq_true (by first | (with_reducible assumption) | assumption)
                obtain ⟨ad183, e183, hx183_0⟩ := Kd.at_string HR1.out x5_1 p183 q183
                cases e183
                replace p183 := eq_true p183
                replace q183 := eq_true q183
                go_wp2
                repeat (go_quiet (fail); try go_wp2)
                go_roundg k1
                case measure => have := HK1.out; omega
                case rel => exact ⟨(wrap64 (x5_1 + 1)), (by first | rfl | (simp; done) | (simp [*]; done)), H', ⟨by have := HK1.out; omega⟩, by repeat (first | exact Drawn0.refl _ | apply Drawn0.step)⟩
              · rw [if_neg c7] at H
                have c7b0 : ((rdOf ByteArray.empty l0 x5_1).toList == (rdOf ByteArray.empty l1 x5_1).toList) = false := beq_eq_false_iff_ne.mpr c7
                have c7b1 : ((rdOf ByteArray.empty l0 x5_1).toList != (rdOf ByteArray.empty l1 x5_1).toList) = true := bne_iff_ne.mpr c7
                obtain rfl := Option.some.inj H
                have p182 : 0 ≤ (x5_1 : Int) := of_decide_eq_true (by first | (with_reducible assumption) | assumption)
                have q182 : x5_1 < (l0.length : Int) := of_decide_eq_true (by first | (with_reducible assumption) | assumption)
                obtain ⟨ad182, e182, hx182_0⟩ := Kd.at_string HR0.out x5_1 p182 q182
                cases e182
                replace p182 := eq_true p182
                replace q182 := eq_true q182
                have p183 : 0 ≤ (x5_1 : Int) := of_decide_eq_true (by first | (with_reducible assumption) | assumption)
                have q183 : x5_1 < (l1.length : Int) := of_decide_eq_true (by first | (with_reducible assumption) | assumption)
                obtain ⟨ad183, e183, hx183_0⟩ := Kd.at_string HR1.out x5_1 p183 q183
                cases e183
                replace p183 := eq_true p183
                replace q183 := eq_true q183
                go_wp2
                repeat (go_quiet (fail); try go_wp2)
                go_ret
                exact ⟨by first | rfl | (simp; done) | (simp [*]; done), by repeat (first | exact Drawn0.refl _ | apply Drawn0.step)⟩
            · rw [if_neg c6] at H
              exact absurd H (by simp)
          · rw [if_neg c5] at H
            exact absurd H (by simp)
        · rw [if_neg c4] at H
          have c4b0 : decide (x5_1 < (l0.length : Int)) = false := decide_eq_false c4
          clear c4
          obtain rfl := Option.some.inj H
          go_wp2
          repeat (go_quiet (fail); try go_wp2)
          go_ret
          exact ⟨by first | rfl | (simp; done) | (simp [*]; done), by repeat (first | exact Drawn0.refl _ | apply Drawn0.step)⟩
  · rw [if_neg c3] at H
    have c3b0 : ((l0.length : Int) == (l1.length : Int)) = false := beq_eq_false_iff_ne.mpr c3
    have c3b1 : ((l0.length : Int) != (l1.length : Int)) = true := bne_iff_ne.mpr c3
    have c3b2 : (l0.length == l1.length) = false := by first | simpa using c3 | (simp at c3 ⊢; omega)
    obtain rfl := Option.some.inj H
    go_enter Try.func38, Try.ntmps38
    go_wp2
    repeat (go_quiet (fail); try go_wp2)
    go_ret
    exact ⟨by first | rfl | (simp; done) | (simp [*]; done), by repeat (first | exact Drawn0.refl _ | apply Drawn0.step)⟩

end Go.Proofs.Ytoibofhmlokglaa.P
-- Written by a program of this session (xprint.py) over the kit's print.py.
namespace Go.Proofs.Ytoibofhmlokglaa.P
open Go.RowKit Go.Proofs.YtoibofhmlokglaaW.PrintWords Go.Proofs.YtoibofhmlokglaaW.PrintLast Go.Proofs.YtoibofhmlokglaaW.PrintMore
attribute [local go_sem] max2_int min2_int max_two min_two max_three min_three max_four min_four   -- for this text's walks alone
set_option linter.unusedVariables false
set_option linter.unusedSimpArgs false

attribute [local go_sem high] eqA40
/-! ### sextonref04_Same: function 23 -/
mutual
def sextonref04_Same.j0 : Nat → Bool → List ByteArray → List (S40) → List ByteArray → List (S40) → Option (Bool)
  | 0, _, _, _, _, _ => none
  | k + 1, x20, x185000, x185001, x186000, x186001 => if x20 = true then (some false) else (sextonref04_Same.l0 k 0 x185000 x185001 x186000 x186001)
def sextonref04_Same.l0 : Nat → Int → List ByteArray → List (S40) → List ByteArray → List (S40) → Option (Bool)
  | 0, _, _, _, _, _ => none
  | k + 1, x5, x185000, x185001, x186000, x186001 => if x5 < (x185001.length : Int) then (if 0 ≤ x5 then (if x5 < (x186001.length : Int) then (if (!(((rd_T40 x185001 x5).f0) == ((rd_T40 x186001 x5).f0)) || (!((((rd_T40 x185001 x5).f1).toList) == (((rd_T40 x186001 x5).f1).toList)))) = true then (some false) else (sextonref04_Same.l0 k (wrap64 (x5 + 1)) x185000 x185001 x186000 x186001)) else (none)) else (none)) else (some true)
end
def sextonref04_Same.f (k : Nat) (l0_0 : List ByteArray) (l0_1 : List (S40)) (l1_0 : List ByteArray) (l1_1 : List (S40)) : Option (Bool) := (sextonref01_Texts.f k l0_0 l1_0).bind fun t186 => (if t186 = true then (sextonref04_Same.j0 k ((l0_1.length : Int) != (l1_1.length : Int)) l0_0 l0_1 l1_0 l1_1) else (sextonref04_Same.j0 k true l0_0 l0_1 l1_0 l1_1))
theorem sextonref04_Same.mono_l : ∀ k, (∀ y0 y1 y2 y3 y4, LeO (sextonref04_Same.j0 k y0 y1 y2 y3 y4) (sextonref04_Same.j0 (k + 1) y0 y1 y2 y3 y4)) ∧ (∀ y0 y1 y2 y3 y4, LeO (sextonref04_Same.l0 k y0 y1 y2 y3 y4) (sextonref04_Same.l0 (k + 1) y0 y1 y2 y3 y4))
  | 0 => ⟨fun _ _ _ _ _ r h => by simp [sextonref04_Same.j0] at h, fun _ _ _ _ _ r h => by simp [sextonref04_Same.l0] at h⟩
  | k + 1 => by
    obtain ⟨ih0, ih1⟩ := sextonref04_Same.mono_l k
    refine ⟨?_, ?_⟩
    · intro y0 y1 y2 y3 y4
      unfold sextonref04_Same.j0
      repeat' first
      | (with_reducible exact ih0 _ _ _ _ _)
      | (with_reducible exact ih1 _ _ _ _ _)
      | (with_reducible exact sextonref01_Texts.mono _ _ _)
      | (with_reducible exact LeO.refl _)
      | (with_reducible exact LeO.none _)
      | (with_reducible refine LeO.ite ?_ ?_)
      | (with_reducible refine LeO.bind ?_ (fun _ => ?_))
      | exact ih0 _ _ _ _ _
      | exact ih1 _ _ _ _ _
      | exact sextonref01_Texts.mono _ _ _
      | exact LeO.none _
      | refine LeO.ite ?_ ?_
      | refine LeO.bind ?_ (fun _ => ?_)
    · intro y0 y1 y2 y3 y4
      unfold sextonref04_Same.l0
      repeat' first
      | (with_reducible exact ih0 _ _ _ _ _)
      | (with_reducible exact ih1 _ _ _ _ _)
      | (with_reducible exact sextonref01_Texts.mono _ _ _)
      | (with_reducible exact LeO.refl _)
      | (with_reducible exact LeO.none _)
      | (with_reducible refine LeO.ite ?_ ?_)
      | (with_reducible refine LeO.bind ?_ (fun _ => ?_))
      | exact ih0 _ _ _ _ _
      | exact ih1 _ _ _ _ _
      | exact sextonref01_Texts.mono _ _ _
      | exact LeO.none _
      | refine LeO.ite ?_ ?_
      | refine LeO.bind ?_ (fun _ => ?_)
theorem sextonref04_Same.mono : ∀ a0 a1 a2 a3 k, LeO (sextonref04_Same.f k a0 a1 a2 a3) (sextonref04_Same.f (k + 1) a0 a1 a2 a3) := by
  intro a0 a1 a2 a3 k
  obtain ⟨ih0, ih1⟩ := sextonref04_Same.mono_l k
  unfold sextonref04_Same.f
  repeat' first
      | (with_reducible exact ih0 _ _ _ _ _)
      | (with_reducible exact ih1 _ _ _ _ _)
      | (with_reducible exact sextonref01_Texts.mono _ _ _)
      | (with_reducible exact LeO.refl _)
      | (with_reducible exact LeO.none _)
      | (with_reducible refine LeO.ite ?_ ?_)
      | (with_reducible refine LeO.bind ?_ (fun _ => ?_))
      | exact ih0 _ _ _ _ _
      | exact ih1 _ _ _ _ _
      | exact sextonref01_Texts.mono _ _ _
      | exact LeO.none _
      | refine LeO.ite ?_ ?_
      | refine LeO.bind ?_ (fun _ => ?_)
set_option maxHeartbeats 8000000 in
set_option maxRecDepth 100000 in
theorem sextonref04_Same.calls (k : Nat) (A0_0 : Option Addr) (c0_0 : Nat) (l0_0 : List ByteArray) (A0_1 : Option Addr) (c0_1 : Nat) (l0_1 : List (S40)) (A1_0 : Option Addr) (c1_0 : Nat) (l1_0 : List ByteArray) (A1_1 : Option Addr) (c1_1 : Nat) (l1_1 : List (S40)) (r : Bool) (w : World) (hr0_0 : Kd.C Kd.string w A0_0 l0_0.length l0_0) (hc0_0 : l0_0.length ≤ c0_0) (hr0_1 : Kd.C k40 w A0_1 l0_1.length l0_1) (hc0_1 : l0_1.length ≤ c0_1) (hr1_0 : Kd.C Kd.string w A1_0 l1_0.length l1_0) (hc1_0 : l1_0.length ≤ c1_0) (hr1_1 : Kd.C k40 w A1_1 l1_1.length l1_1) (hc1_1 : l1_1.length ≤ c1_1) (h : sextonref04_Same.f k l0_0 l0_1 l1_0 l1_1 = some r) :
    Calls Try.prog 23 #[.agg #[.slice A0_0 l0_0.length c0_0, .slice A0_1 l0_1.length c0_1], .agg #[.slice A1_0 l1_0.length c1_0, .slice A1_1 l1_1.length c1_1]] w fun e w' => e = .returned (.bool r) ∧ Below w.heap.size w w' := by
  have hu25 := Try.underlying25
  have hu40 := Try.underlying40
  have HR0_0 := Aside0.mk hr0_0
  have HC0_0 := Aside0.mk hc0_0
  clear hr0_0 hc0_0
  have HR0_1 := Aside0.mk hr0_1
  have HC0_1 := Aside0.mk hc0_1
  clear hr0_1 hc0_1
  have HR1_0 := Aside0.mk hr1_0
  have HC1_0 := Aside0.mk hc1_0
  clear hr1_0 hc1_0
  have HR1_1 := Aside0.mk hr1_1
  have HC1_1 := Aside0.mk hc1_1
  clear hr1_1 hc1_1
  have HB := Aside0.mk (Below.refl w.heap.size w)
  have H : ((sextonref01_Texts.f k l0_0 l1_0).bind fun t186 => (if t186 = true then (sextonref04_Same.j0 k ((l0_1.length : Int) != (l1_1.length : Int)) l0_0 l0_1 l1_0 l1_1) else (sextonref04_Same.j0 k true l0_0 l0_1 l1_0 l1_1))) = some r := h
  clear h
  have HC3 := Aside0.mk H
  clear H
  go_enter Try.func23, Try.ntmps23
  go_upto_region 1 with (first | ((with_reducible refine gate_dst (N := 2) rfl ?_); (try (refine gate_guard (by rfl) ?_; dsimp only)); refine box_event ?hg (N := 2) ?hd (cs := #[.slice A0_0 l0_0.length c0_0, .slice A0_1 l0_1.length c0_1]) (t := 25) ?hr ?_; (case hd => rfl); (case hg => rfl); (case hr => first | (go_simp; done) | (go_simp; rfl)); intro gb184 hg w4 hbox hb; have n0_ := Aside0.mk (below_step (by repeat (first | (with_reducible first | exact HB.out | apply below_alloc | apply pw_below_drewN | apply below_drew1) | exact HB.out)) hb); have n1_ := Aside0.mk (hbox); have n2_ := Aside0.mk ((by rw [hg]; exact (below_size (by repeat (first | (with_reducible first | exact HB.out | apply below_alloc | apply pw_below_drewN | apply below_drew1) | exact HB.out))) : w.heap.size ≤ gb184)); have n3_ := Aside0.mk ((by rw [hg]; exact (below_size (by repeat (first | (with_reducible first | exact HB.out | apply below_alloc | apply pw_below_drewN | apply below_drew1) | exact HB.out))) : w.heap.size ≤ gb184)); clear HB; have HB := n0_; have BK184 := n1_; have GW184 := n2_; have GE184 := n3_; clear n0_ n1_ n2_ n3_; clear hb hbox hg) | ((with_reducible refine gate_dst (N := 3) rfl ?_); (try (refine gate_guard (by rfl) ?_; dsimp only)); refine box_event ?hg (N := 3) ?hd (cs := #[.slice A1_0 l1_0.length c1_0, .slice A1_1 l1_1.length c1_1]) (t := 25) ?hr ?_; (case hd => rfl); (case hg => rfl); (case hr => first | (go_simp; done) | (go_simp; rfl)); intro gb185 hg w5 hbox hb; have n0_ := Aside0.mk (blk_below (g := gb184) (o := .cells #[.slice A0_0 l0_0.length c0_0, .slice A0_1 l0_1.length c0_1] 25 (0, 0)) (by (with_reducible repeat (first | refine blk_drewN ?_ _ | refine blk_drew ?_ | refine blk_alloc ?_ _)); exact BK184.out) hb); have n1_ := Aside0.mk (below_step (by repeat (first | (with_reducible first | exact HB.out | apply below_alloc | apply pw_below_drewN | apply below_drew1 | refine below_set ?_ GE184.out) | exact HB.out)) hb); have n2_ := Aside0.mk (hbox); have n3_ := Aside0.mk ((by rw [hg]; exact (below_size (by repeat (first | (with_reducible first | exact HB.out | apply below_alloc | apply pw_below_drewN | apply below_drew1 | refine below_set ?_ GE184.out) | exact HB.out))) : w.heap.size ≤ gb185)); have n4_ := Aside0.mk ((by rw [hg]; exact (below_size (by repeat (first | (with_reducible first | exact HB.out | apply below_alloc | apply pw_below_drewN | apply below_drew1 | refine below_set ?_ GE184.out) | exact HB.out))) : w.heap.size ≤ gb185)); have n5_ := Aside0.mk ((by rw [hg]; exact Nat.ne_of_lt (blk_lt (g := gb184) (o := .cells #[.slice A0_0 l0_0.length c0_0, .slice A0_1 l0_1.length c0_1] 25 (0, 0)) (by (with_reducible repeat (first | refine blk_drewN ?_ _ | refine blk_drew ?_ | refine blk_alloc ?_ _)); exact BK184.out)) : gb184 ≠ gb185)); have n6_ := Aside0.mk ((by rw [hg]; exact Nat.ne_of_gt (blk_lt (g := gb184) (o := .cells #[.slice A0_0 l0_0.length c0_0, .slice A0_1 l0_1.length c0_1] 25 (0, 0)) (by (with_reducible repeat (first | refine blk_drewN ?_ _ | refine blk_drew ?_ | refine blk_alloc ?_ _)); exact BK184.out)) : gb185 ≠ gb184)); clear BK184; clear HB; have BK184 := n0_; have HB := n1_; have BK185 := n2_; have GW185 := n3_; have GE185 := n4_; have NB184_185 := n5_; have NB185_184 := n6_; clear n0_ n1_ n2_ n3_ n4_ n5_ n6_; clear hb hbox hg))
  repeat (go_quiet (first | ((with_reducible refine gate_dst (N := 2) rfl ?_); (try (refine gate_guard (by rfl) ?_; dsimp only)); refine box_event ?hg (N := 2) ?hd (cs := #[.slice A0_0 l0_0.length c0_0, .slice A0_1 l0_1.length c0_1]) (t := 25) ?hr ?_; (case hd => rfl); (case hg => rfl); (case hr => first | (go_simp; done) | (go_simp; rfl)); intro gb184 hg w4 hbox hb; have n0_ := Aside0.mk (below_step (by repeat (first | (with_reducible first | exact HB.out | apply below_alloc | apply pw_below_drewN | apply below_drew1) | exact HB.out)) hb); have n1_ := Aside0.mk (hbox); have n2_ := Aside0.mk ((by rw [hg]; exact (below_size (by repeat (first | (with_reducible first | exact HB.out | apply below_alloc | apply pw_below_drewN | apply below_drew1) | exact HB.out))) : w.heap.size ≤ gb184)); have n3_ := Aside0.mk ((by rw [hg]; exact (below_size (by repeat (first | (with_reducible first | exact HB.out | apply below_alloc | apply pw_below_drewN | apply below_drew1) | exact HB.out))) : w.heap.size ≤ gb184)); clear HB; have HB := n0_; have BK184 := n1_; have GW184 := n2_; have GE184 := n3_; clear n0_ n1_ n2_ n3_; clear hb hbox hg) | ((with_reducible refine gate_dst (N := 3) rfl ?_); (try (refine gate_guard (by rfl) ?_; dsimp only)); refine box_event ?hg (N := 3) ?hd (cs := #[.slice A1_0 l1_0.length c1_0, .slice A1_1 l1_1.length c1_1]) (t := 25) ?hr ?_; (case hd => rfl); (case hg => rfl); (case hr => first | (go_simp; done) | (go_simp; rfl)); intro gb185 hg w5 hbox hb; have n0_ := Aside0.mk (blk_below (g := gb184) (o := .cells #[.slice A0_0 l0_0.length c0_0, .slice A0_1 l0_1.length c0_1] 25 (0, 0)) (by (with_reducible repeat (first | refine blk_drewN ?_ _ | refine blk_drew ?_ | refine blk_alloc ?_ _)); exact BK184.out) hb); have n1_ := Aside0.mk (below_step (by repeat (first | (with_reducible first | exact HB.out | apply below_alloc | apply pw_below_drewN | apply below_drew1 | refine below_set ?_ GE184.out) | exact HB.out)) hb); have n2_ := Aside0.mk (hbox); have n3_ := Aside0.mk ((by rw [hg]; exact (below_size (by repeat (first | (with_reducible first | exact HB.out | apply below_alloc | apply pw_below_drewN | apply below_drew1 | refine below_set ?_ GE184.out) | exact HB.out))) : w.heap.size ≤ gb185)); have n4_ := Aside0.mk ((by rw [hg]; exact (below_size (by repeat (first | (with_reducible first | exact HB.out | apply below_alloc | apply pw_below_drewN | apply below_drew1 | refine below_set ?_ GE184.out) | exact HB.out))) : w.heap.size ≤ gb185)); have n5_ := Aside0.mk ((by rw [hg]; exact Nat.ne_of_lt (blk_lt (g := gb184) (o := .cells #[.slice A0_0 l0_0.length c0_0, .slice A0_1 l0_1.length c0_1] 25 (0, 0)) (by (with_reducible repeat (first | refine blk_drewN ?_ _ | refine blk_drew ?_ | refine blk_alloc ?_ _)); exact BK184.out)) : gb184 ≠ gb185)); have n6_ := Aside0.mk ((by rw [hg]; exact Nat.ne_of_gt (blk_lt (g := gb184) (o := .cells #[.slice A0_0 l0_0.length c0_0, .slice A0_1 l0_1.length c0_1] 25 (0, 0)) (by (with_reducible repeat (first | refine blk_drewN ?_ _ | refine blk_drew ?_ | refine blk_alloc ?_ _)); exact BK184.out)) : gb185 ≠ gb184)); clear BK184; clear HB; have BK184 := n0_; have HB := n1_; have BK185 := n2_; have GW185 := n3_; have GE185 := n4_; have NB184_185 := n5_; have NB185_184 := n6_; clear n0_ n1_ n2_ n3_ n4_ n5_ n6_; clear hb hbox hg)); go_upto_region 1 with (first | ((with_reducible refine gate_dst (N := 2) rfl ?_); (try (refine gate_guard (by rfl) ?_; dsimp only)); refine box_event ?hg (N := 2) ?hd (cs := #[.slice A0_0 l0_0.length c0_0, .slice A0_1 l0_1.length c0_1]) (t := 25) ?hr ?_; (case hd => rfl); (case hg => rfl); (case hr => first | (go_simp; done) | (go_simp; rfl)); intro gb184 hg w4 hbox hb; have n0_ := Aside0.mk (below_step (by repeat (first | (with_reducible first | exact HB.out | apply below_alloc | apply pw_below_drewN | apply below_drew1) | exact HB.out)) hb); have n1_ := Aside0.mk (hbox); have n2_ := Aside0.mk ((by rw [hg]; exact (below_size (by repeat (first | (with_reducible first | exact HB.out | apply below_alloc | apply pw_below_drewN | apply below_drew1) | exact HB.out))) : w.heap.size ≤ gb184)); have n3_ := Aside0.mk ((by rw [hg]; exact (below_size (by repeat (first | (with_reducible first | exact HB.out | apply below_alloc | apply pw_below_drewN | apply below_drew1) | exact HB.out))) : w.heap.size ≤ gb184)); clear HB; have HB := n0_; have BK184 := n1_; have GW184 := n2_; have GE184 := n3_; clear n0_ n1_ n2_ n3_; clear hb hbox hg) | ((with_reducible refine gate_dst (N := 3) rfl ?_); (try (refine gate_guard (by rfl) ?_; dsimp only)); refine box_event ?hg (N := 3) ?hd (cs := #[.slice A1_0 l1_0.length c1_0, .slice A1_1 l1_1.length c1_1]) (t := 25) ?hr ?_; (case hd => rfl); (case hg => rfl); (case hr => first | (go_simp; done) | (go_simp; rfl)); intro gb185 hg w5 hbox hb; have n0_ := Aside0.mk (blk_below (g := gb184) (o := .cells #[.slice A0_0 l0_0.length c0_0, .slice A0_1 l0_1.length c0_1] 25 (0, 0)) (by (with_reducible repeat (first | refine blk_drewN ?_ _ | refine blk_drew ?_ | refine blk_alloc ?_ _)); exact BK184.out) hb); have n1_ := Aside0.mk (below_step (by repeat (first | (with_reducible first | exact HB.out | apply below_alloc | apply pw_below_drewN | apply below_drew1 | refine below_set ?_ GE184.out) | exact HB.out)) hb); have n2_ := Aside0.mk (hbox); have n3_ := Aside0.mk ((by rw [hg]; exact (below_size (by repeat (first | (with_reducible first | exact HB.out | apply below_alloc | apply pw_below_drewN | apply below_drew1 | refine below_set ?_ GE184.out) | exact HB.out))) : w.heap.size ≤ gb185)); have n4_ := Aside0.mk ((by rw [hg]; exact (below_size (by repeat (first | (with_reducible first | exact HB.out | apply below_alloc | apply pw_below_drewN | apply below_drew1 | refine below_set ?_ GE184.out) | exact HB.out))) : w.heap.size ≤ gb185)); have n5_ := Aside0.mk ((by rw [hg]; exact Nat.ne_of_lt (blk_lt (g := gb184) (o := .cells #[.slice A0_0 l0_0.length c0_0, .slice A0_1 l0_1.length c0_1] 25 (0, 0)) (by (with_reducible repeat (first | refine blk_drewN ?_ _ | refine blk_drew ?_ | refine blk_alloc ?_ _)); exact BK184.out)) : gb184 ≠ gb185)); have n6_ := Aside0.mk ((by rw [hg]; exact Nat.ne_of_gt (blk_lt (g := gb184) (o := .cells #[.slice A0_0 l0_0.length c0_0, .slice A0_1 l0_1.length c0_1] 25 (0, 0)) (by (with_reducible repeat (first | refine blk_drewN ?_ _ | refine blk_drew ?_ | refine blk_alloc ?_ _)); exact BK184.out)) : gb185 ≠ gb184)); clear BK184; clear HB; have BK184 := n0_; have HB := n1_; have BK185 := n2_; have GW185 := n3_; have GE185 := n4_; have NB184_185 := n5_; have NB185_184 := n6_; clear n0_ n1_ n2_ n3_ n4_ n5_ n6_; clear hb hbox hg)))
  (try simp only [Act.put, List.setIfInBounds_toArray, List.set_cons_zero, List.set_cons_succ])
  go_cut [20] (fun v20 wc => ∃ (kq : Nat) (x20_2 : Bool), v20 = .bool x20_2 ∧ Aside0 (sextonref04_Same.j0 kq x20_2 l0_0 l0_1 l1_0 l1_1 = some r) ∧ Aside0 (kq ≤ k) ∧ Aside0 (wc.heap[gb184]? = some (.cells #[(.slice A0_0 l0_0.length c0_0), (.slice A0_1 l0_1.length c0_1)] 25 (0, 0))) ∧ Aside0 (wc.heap[gb185]? = some (.cells #[(.slice A1_0 l1_0.length c1_0), (.slice A1_1 l1_1.length c1_1)] 25 (0, 0))) ∧ Aside0 (Below w.heap.size w wc))
  case first =>
    have H := HC3.out
    clear HC3
    replace H := Option.bind_eq_some_iff.mp H
    obtain ⟨t186, A60, H⟩ := H
    replace H : (if t186 = true then (sextonref04_Same.j0 k ((l0_1.length : Int) != (l1_1.length : Int)) l0_0 l0_1 l1_0 l1_1) else (sextonref04_Same.j0 k true l0_0 l0_1 l1_0 l1_1)) = some r := H
    have A6 := Aside0.mk A60
    clear A60
    by_cases c7 : t186 = true
    · subst c7
      have H1 : (sextonref04_Same.j0 k ((l0_1.length : Int) != (l1_1.length : Int)) l0_0 l0_1 l1_0 l1_1) = some r := by rw [if_pos rfl] at H; exact H
      clear H
      have H := H1
      clear H1
      have H' := Aside0.mk H
      clear H
      have hnb8 := NB184_185.out
      have hnc8 := NB185_184.out
      have hcz9_0 : w5.cell? ⟨gb184, 0, none⟩ = some (.slice A0_0 l0_0.length c0_0) := (blk_cell BK184.out 0).trans rfl
      have hcz9_1 : w5.cell? ⟨gb184, 1, none⟩ = some (.slice A0_1 l0_1.length c0_1) := (blk_cell BK184.out 1).trans rfl
      have hfz9_0 := blk_frozen BK184.out 0
      have hfz9_1 := blk_frozen BK184.out 1
      have hcz10_0 : w5.cell? ⟨gb185, 0, none⟩ = some (.slice A1_0 l1_0.length c1_0) := (blk_cell BK185.out 0).trans rfl
      have hcz10_1 : w5.cell? ⟨gb185, 1, none⟩ = some (.slice A1_1 l1_1.length c1_1) := (blk_cell BK185.out 1).trans rfl
      have hfz10_0 := blk_frozen BK185.out 0
      have hfz10_1 := blk_frozen BK185.out 1
      go_wp2_with (first | (go_at_call 38; (with_reducible refine (sextonref01_Texts.calls k _ _ l0_0 _ _ l1_0 true _ ?side1 ?side2 ?side3 ?side4 A6.out).mono ?_); (case side1 => repeat (first | exact (Kd.C_below HR0_0.out HB.out) | (with_reducible refine Kd.C_alloc ?_ _) | (with_reducible refine Kd.C_drewN ?_ _) | (with_reducible refine Kd.C_drew ?_))); (case side2 => exact HC0_0.out); (case side3 => repeat (first | exact (Kd.C_below HR1_0.out HB.out) | (with_reducible refine Kd.C_alloc ?_ _) | (with_reducible refine Kd.C_drewN ?_ _) | (with_reducible refine Kd.C_drew ?_))); (case side4 => exact HC1_0.out); rintro e w' ⟨rfl, ⟨nd, rfl⟩⟩; (try first | exact ⟨rfl, _, World.drewN_drewN _ _ _⟩ | exact ⟨rfl, _, Eq.trans (World.drewN_drewN _ _ _) (congrArg (World.drewN _) (Nat.add_assoc _ _ _))⟩)))
      repeat (go_quiet (first | (go_at_call 38; (with_reducible refine (sextonref01_Texts.calls k _ _ l0_0 _ _ l1_0 true _ ?side1 ?side2 ?side3 ?side4 A6.out).mono ?_); (case side1 => repeat (first | exact (Kd.C_below HR0_0.out HB.out) | (with_reducible refine Kd.C_alloc ?_ _) | (with_reducible refine Kd.C_drewN ?_ _) | (with_reducible refine Kd.C_drew ?_))); (case side2 => exact HC0_0.out); (case side3 => repeat (first | exact (Kd.C_below HR1_0.out HB.out) | (with_reducible refine Kd.C_alloc ?_ _) | (with_reducible refine Kd.C_drewN ?_ _) | (with_reducible refine Kd.C_drew ?_))); (case side4 => exact HC1_0.out); rintro e w' ⟨rfl, ⟨nd, rfl⟩⟩; (try first | exact ⟨rfl, _, World.drewN_drewN _ _ _⟩ | exact ⟨rfl, _, Eq.trans (World.drewN_drewN _ _ _) (congrArg (World.drewN _) (Nat.add_assoc _ _ _))⟩))); try go_wp2_with (first | (go_at_call 38; (with_reducible refine (sextonref01_Texts.calls k _ _ l0_0 _ _ l1_0 true _ ?side1 ?side2 ?side3 ?side4 A6.out).mono ?_); (case side1 => repeat (first | exact (Kd.C_below HR0_0.out HB.out) | (with_reducible refine Kd.C_alloc ?_ _) | (with_reducible refine Kd.C_drewN ?_ _) | (with_reducible refine Kd.C_drew ?_))); (case side2 => exact HC0_0.out); (case side3 => repeat (first | exact (Kd.C_below HR1_0.out HB.out) | (with_reducible refine Kd.C_alloc ?_ _) | (with_reducible refine Kd.C_drewN ?_ _) | (with_reducible refine Kd.C_drew ?_))); (case side4 => exact HC1_0.out); rintro e w' ⟨rfl, ⟨nd, rfl⟩⟩; (try first | exact ⟨rfl, _, World.drewN_drewN _ _ _⟩ | exact ⟨rfl, _, Eq.trans (World.drewN_drewN _ _ _) (congrArg (World.drewN _) (Nat.add_assoc _ _ _))⟩))))
      go_meet
      case rel => exact ⟨_, (((l0_1.length : Int) != (l1_1.length : Int))), (by first | rfl | (simp; done) | (simp [*]; done)), H', ⟨by first | omega | exact Nat.le_refl _⟩, ⟨by (with_reducible repeat (first | refine blk_drewN ?_ _ | refine blk_drew ?_ | refine blk_alloc ?_ _)); exact BK184.out⟩, ⟨by (with_reducible repeat (first | refine blk_drewN ?_ _ | refine blk_drew ?_ | refine blk_alloc ?_ _)); exact BK185.out⟩, ⟨by repeat (first | (with_reducible first | exact HB.out | apply below_alloc | apply pw_below_drewN | apply below_drew1 | refine below_set ?_ GE184.out | refine below_set ?_ GE185.out) | exact HB.out)⟩⟩
    · replace c7 := Bool.eq_false_iff.mpr c7
      subst c7
      have H1 : (sextonref04_Same.j0 k true l0_0 l0_1 l1_0 l1_1) = some r := by rw [if_neg (show ¬ (false = true) by decide)] at H; exact H
      clear H
      have H := H1
      clear H1
      have H' := Aside0.mk H
      clear H
      have hnb11 := NB184_185.out
      have hnc11 := NB185_184.out
      have hcz12_0 : w5.cell? ⟨gb184, 0, none⟩ = some (.slice A0_0 l0_0.length c0_0) := (blk_cell BK184.out 0).trans rfl
      have hcz12_1 : w5.cell? ⟨gb184, 1, none⟩ = some (.slice A0_1 l0_1.length c0_1) := (blk_cell BK184.out 1).trans rfl
      have hfz12_0 := blk_frozen BK184.out 0
      have hfz12_1 := blk_frozen BK184.out 1
      have hcz13_0 : w5.cell? ⟨gb185, 0, none⟩ = some (.slice A1_0 l1_0.length c1_0) := (blk_cell BK185.out 0).trans rfl
      have hcz13_1 : w5.cell? ⟨gb185, 1, none⟩ = some (.slice A1_1 l1_1.length c1_1) := (blk_cell BK185.out 1).trans rfl
      have hfz13_0 := blk_frozen BK185.out 0
      have hfz13_1 := blk_frozen BK185.out 1
      go_wp2_with (first | (go_at_call 38; (with_reducible refine (sextonref01_Texts.calls k _ _ l0_0 _ _ l1_0 false _ ?side1 ?side2 ?side3 ?side4 A6.out).mono ?_); (case side1 => repeat (first | exact (Kd.C_below HR0_0.out HB.out) | (with_reducible refine Kd.C_alloc ?_ _) | (with_reducible refine Kd.C_drewN ?_ _) | (with_reducible refine Kd.C_drew ?_))); (case side2 => exact HC0_0.out); (case side3 => repeat (first | exact (Kd.C_below HR1_0.out HB.out) | (with_reducible refine Kd.C_alloc ?_ _) | (with_reducible refine Kd.C_drewN ?_ _) | (with_reducible refine Kd.C_drew ?_))); (case side4 => exact HC1_0.out); rintro e w' ⟨rfl, ⟨nd, rfl⟩⟩; (try first | exact ⟨rfl, _, World.drewN_drewN _ _ _⟩ | exact ⟨rfl, _, Eq.trans (World.drewN_drewN _ _ _) (congrArg (World.drewN _) (Nat.add_assoc _ _ _))⟩)))
      repeat (go_quiet (first | (go_at_call 38; (with_reducible refine (sextonref01_Texts.calls k _ _ l0_0 _ _ l1_0 false _ ?side1 ?side2 ?side3 ?side4 A6.out).mono ?_); (case side1 => repeat (first | exact (Kd.C_below HR0_0.out HB.out) | (with_reducible refine Kd.C_alloc ?_ _) | (with_reducible refine Kd.C_drewN ?_ _) | (with_reducible refine Kd.C_drew ?_))); (case side2 => exact HC0_0.out); (case side3 => repeat (first | exact (Kd.C_below HR1_0.out HB.out) | (with_reducible refine Kd.C_alloc ?_ _) | (with_reducible refine Kd.C_drewN ?_ _) | (with_reducible refine Kd.C_drew ?_))); (case side4 => exact HC1_0.out); rintro e w' ⟨rfl, ⟨nd, rfl⟩⟩; (try first | exact ⟨rfl, _, World.drewN_drewN _ _ _⟩ | exact ⟨rfl, _, Eq.trans (World.drewN_drewN _ _ _) (congrArg (World.drewN _) (Nat.add_assoc _ _ _))⟩))); try go_wp2_with (first | (go_at_call 38; (with_reducible refine (sextonref01_Texts.calls k _ _ l0_0 _ _ l1_0 false _ ?side1 ?side2 ?side3 ?side4 A6.out).mono ?_); (case side1 => repeat (first | exact (Kd.C_below HR0_0.out HB.out) | (with_reducible refine Kd.C_alloc ?_ _) | (with_reducible refine Kd.C_drewN ?_ _) | (with_reducible refine Kd.C_drew ?_))); (case side2 => exact HC0_0.out); (case side3 => repeat (first | exact (Kd.C_below HR1_0.out HB.out) | (with_reducible refine Kd.C_alloc ?_ _) | (with_reducible refine Kd.C_drewN ?_ _) | (with_reducible refine Kd.C_drew ?_))); (case side4 => exact HC1_0.out); rintro e w' ⟨rfl, ⟨nd, rfl⟩⟩; (try first | exact ⟨rfl, _, World.drewN_drewN _ _ _⟩ | exact ⟨rfl, _, Eq.trans (World.drewN_drewN _ _ _) (congrArg (World.drewN _) (Nat.add_assoc _ _ _))⟩))))
      go_meet
      case rel => exact ⟨_, (true), (by first | rfl | (simp; done) | (simp [*]; done)), H', ⟨by first | omega | exact Nat.le_refl _⟩, ⟨by (with_reducible repeat (first | refine blk_drewN ?_ _ | refine blk_drew ?_ | refine blk_alloc ?_ _)); exact BK184.out⟩, ⟨by (with_reducible repeat (first | refine blk_drewN ?_ _ | refine blk_drew ?_ | refine blk_alloc ?_ _)); exact BK185.out⟩, ⟨by repeat (first | (with_reducible first | exact HB.out | apply below_alloc | apply pw_below_drewN | apply below_drew1 | refine below_set ?_ GE184.out | refine below_set ?_ GE185.out) | exact HB.out)⟩⟩
  case rest =>
    clear HC3
    try clear c1
    try clear c2
    try clear p2
    try clear c7
    try clear c8
    try clear c11
    try clear hcz10_0
    try clear hcz10_1
    try clear hcz12_0
    try clear hcz12_1
    try clear hcz13_0
    try clear hcz13_1
    try clear hcz9_0
    try clear hcz9_1
    try clear hfz10_0
    try clear hfz10_1
    try clear hfz12_0
    try clear hfz12_1
    try clear hfz13_0
    try clear hfz13_1
    try clear hfz9_0
    try clear hfz9_1
    obtain ⟨kq, x20_2, rfl, HA, HJ2, BK184, BK185, HB⟩ := hcut
    cases kq with
    | zero => exact absurd HA.out (by simp [sextonref04_Same.j0])
    | succ kj2 =>
      have H := HA.out
      clear HA
      simp only [sextonref04_Same.j0] at H
      by_cases c14 : x20_2 = true
      · subst c14
        have H1 : (some false) = some r := by rw [if_pos rfl] at H; exact H
        clear H
        have H := H1
        clear H1
        obtain rfl := Option.some.inj H
        go_wp2
        repeat (go_quiet (fail); try go_wp2)
        go_ret
        exact ⟨by first | rfl | (simp [errW_none, errW_some] <;> rfl) | (simp [*, errW_none, errW_some] <;> rfl), by repeat (first | (with_reducible first | exact HB.out | apply below_alloc | apply pw_below_drewN | apply below_drew1 | refine below_set ?_ GE184.out | refine below_set ?_ GE185.out) | exact HB.out)⟩
      · replace c14 := Bool.eq_false_iff.mpr c14
        subst c14
        have H1 : (sextonref04_Same.l0 kj2 0 l0_0 l0_1 l1_0 l1_1) = some r := by rw [if_neg (show ¬ (false = true) by decide)] at H; exact H
        clear H
        have H := H1
        clear H1
        have H' := Aside0.mk H
        clear H
        go_wp2
        repeat (go_quiet (fail); try go_wp2)
        go_loopg [5] kj2 (fun kq v5 w' => ∃ (x5_2 : Int), v5 = .int .i64 x5_2 ∧ Aside0 (sextonref04_Same.l0 kq x5_2 l0_0 l0_1 l1_0 l1_1 = some r) ∧ Aside0 (kq ≤ kj2) ∧ Aside0 (w'.heap[gb184]? = some (.cells #[(.slice A0_0 l0_0.length c0_0), (.slice A0_1 l0_1.length c0_1)] 25 (0, 0))) ∧ Aside0 (w'.heap[gb185]? = some (.cells #[(.slice A1_0 l1_0.length c1_0), (.slice A1_1 l1_1.length c1_1)] 25 (0, 0))) ∧ Aside0 (Below w.heap.size w w'))
        case atStart => exact ⟨(0), (by first | rfl | (simp; done) | (simp [*]; done)), H', ⟨Nat.le_refl _⟩, ⟨by (with_reducible repeat (first | refine blk_drewN ?_ _ | refine blk_drew ?_ | refine blk_alloc ?_ _)); exact BK184.out⟩, ⟨by (with_reducible repeat (first | refine blk_drewN ?_ _ | refine blk_drew ?_ | refine blk_alloc ?_ _)); exact BK185.out⟩, ⟨by repeat (first | (with_reducible first | exact HB.out | apply below_alloc | apply pw_below_drewN | apply below_drew1 | refine below_set ?_ GE184.out | refine below_set ?_ GE185.out) | exact HB.out)⟩⟩
        case round =>
          clear H'
          try clear c1
          try clear c2
          try clear p2
          try clear c7
          try clear c8
          try clear c11
          try clear c14
          try clear hcz10_0
          try clear hcz10_1
          try clear hcz12_0
          try clear hcz12_1
          try clear hcz13_0
          try clear hcz13_1
          try clear hcz9_0
          try clear hcz9_1
          try clear hfz10_0
          try clear hfz10_1
          try clear hfz12_0
          try clear hfz12_1
          try clear hfz13_0
          try clear hfz13_1
          try clear hfz9_0
          try clear hfz9_1
          try clear p2
          obtain ⟨x5_2, rfl, HA, HK2, BK184, BK185, HB⟩ := hrel
          cases gk with
          | zero => exact absurd HA.out (by simp [sextonref04_Same.l0])
          | succ k2 =>
            have H := HA.out
            clear HA
            simp only [sextonref04_Same.l0] at H
            by_cases c15 : x5_2 < (l0_1.length : Int)
            · rw [if_pos c15] at H
              have c15b0 : decide (x5_2 < (l0_1.length : Int)) = true := decide_eq_true c15
              clear c15
              by_cases c16 : 0 ≤ x5_2
              · rw [if_pos c16] at H
                have c16b0 : decide (0 ≤ x5_2) = true := decide_eq_true c16
                clear c16
                by_cases c17 : x5_2 < (l1_1.length : Int)
                · rw [if_pos c17] at H
                  have c17b0 : decide (x5_2 < (l1_1.length : Int)) = true := decide_eq_true c17
                  clear c17
                  by_cases c18 : (!(((rd_T40 l0_1 x5_2).f0) == ((rd_T40 l1_1 x5_2).f0)) || (!((((rd_T40 l0_1 x5_2).f1).toList) == (((rd_T40 l1_1 x5_2).f1).toList)))) = true
                  · rw [if_pos c18] at H
                    have c18b0 : (!(((rd_T40 l0_1 x5_2).f0) == ((rd_T40 l1_1 x5_2).f0)) || (!((((rd_T40 l0_1 x5_2).f1).toList) == (((rd_T40 l1_1 x5_2).f1).toList)))) = true := c18
                    clear c18
                    obtain rfl := Option.some.inj H
                    have hnb19 := NB184_185.out
                    have hnc19 := NB185_184.out
                    have hcz20_0 : wr.cell? ⟨gb184, 0, none⟩ = some (.slice A0_0 l0_0.length c0_0) := (blk_cell BK184.out 0).trans rfl
                    have hcz20_1 : wr.cell? ⟨gb184, 1, none⟩ = some (.slice A0_1 l0_1.length c0_1) := (blk_cell BK184.out 1).trans rfl
                    have hfz20_0 := blk_frozen BK184.out 0
                    have hfz20_1 := blk_frozen BK184.out 1
                    have p187 : 0 ≤ (x5_2 : Int) := of_decide_eq_true (by first | (with_reducible assumption) | assumption)
                    have q187 : x5_2 < (l0_1.length : Int) := of_decide_eq_true (by first | (with_reducible assumption) | assumption)
                    obtain ⟨ad187, e187, hx187_0, hx187_1⟩ := at_T40 HR0_1.out x5_2 p187 q187
                    cases e187
                    replace hx187_0 := (HB.out.cell (World.block_lt_of_cell? w _ hx187_0)).trans hx187_0
                    replace hx187_1 := (HB.out.cell (World.block_lt_of_cell? w _ hx187_1)).trans hx187_1
                    replace p187 := eq_true p187
                    replace q187 := eq_true q187
                    have hcz21_0 : wr.cell? ⟨gb185, 0, none⟩ = some (.slice A1_0 l1_0.length c1_0) := (blk_cell BK185.out 0).trans rfl
                    have hcz21_1 : wr.cell? ⟨gb185, 1, none⟩ = some (.slice A1_1 l1_1.length c1_1) := (blk_cell BK185.out 1).trans rfl
                    have hfz21_0 := blk_frozen BK185.out 0
                    have hfz21_1 := blk_frozen BK185.out 1
                    have p188 : 0 ≤ (x5_2 : Int) := of_decide_eq_true (by first | (with_reducible assumption) | assumption)
                    have q188 : x5_2 < (l1_1.length : Int) := of_decide_eq_true (by first | (with_reducible assumption) | assumption)
                    obtain ⟨ad188, e188, hx188_0, hx188_1⟩ := at_T40 HR1_1.out x5_2 p188 q188
                    cases e188
                    replace hx188_0 := (HB.out.cell (World.block_lt_of_cell? w _ hx188_0)).trans hx188_0
                    replace hx188_1 := (HB.out.cell (World.block_lt_of_cell? w _ hx188_1)).trans hx188_1
                    replace p188 := eq_true p188
                    replace q188 := eq_true q188
                    go_wp2
                    repeat (go_quiet (fail); try go_wp2)
                    go_ret
                    exact ⟨by first | rfl | (simp [errW_none, errW_some] <;> rfl) | (simp [*, errW_none, errW_some] <;> rfl), by repeat (first | (with_reducible first | exact HB.out | apply below_alloc | apply pw_below_drewN | apply below_drew1 | refine below_set ?_ GE184.out | refine below_set ?_ GE185.out) | exact HB.out)⟩
                  · rw [if_neg c18] at H
                    have c18b0 : (!(((rd_T40 l0_1 x5_2).f0) == ((rd_T40 l1_1 x5_2).f0)) || (!((((rd_T40 l0_1 x5_2).f1).toList) == (((rd_T40 l1_1 x5_2).f1).toList)))) = false := by simpa using c18
                    clear c18
                    have H' := Aside0.mk H
                    clear H
                    have hnb22 := NB184_185.out
                    have hnc22 := NB185_184.out
                    have hcz23_0 : wr.cell? ⟨gb184, 0, none⟩ = some (.slice A0_0 l0_0.length c0_0) := (blk_cell BK184.out 0).trans rfl
                    have hcz23_1 : wr.cell? ⟨gb184, 1, none⟩ = some (.slice A0_1 l0_1.length c0_1) := (blk_cell BK184.out 1).trans rfl
                    have hfz23_0 := blk_frozen BK184.out 0
                    have hfz23_1 := blk_frozen BK184.out 1
                    have p187 : 0 ≤ (x5_2 : Int) := of_decide_eq_true (by first | (with_reducible assumption) | assumption)
                    have q187 : x5_2 < (l0_1.length : Int) := of_decide_eq_true (by first | (with_reducible assumption) | assumption)
                    obtain ⟨ad187, e187, hx187_0, hx187_1⟩ := at_T40 HR0_1.out x5_2 p187 q187
                    cases e187
                    replace hx187_0 := (HB.out.cell (World.block_lt_of_cell? w _ hx187_0)).trans hx187_0
                    replace hx187_1 := (HB.out.cell (World.block_lt_of_cell? w _ hx187_1)).trans hx187_1
                    replace p187 := eq_true p187
                    replace q187 := eq_true q187
                    have hcz24_0 : wr.cell? ⟨gb185, 0, none⟩ = some (.slice A1_0 l1_0.length c1_0) := (blk_cell BK185.out 0).trans rfl
                    have hcz24_1 : wr.cell? ⟨gb185, 1, none⟩ = some (.slice A1_1 l1_1.length c1_1) := (blk_cell BK185.out 1).trans rfl
                    have hfz24_0 := blk_frozen BK185.out 0
                    have hfz24_1 := blk_frozen BK185.out 1
                    have p188 : 0 ≤ (x5_2 : Int) := of_decide_eq_true (by first | (with_reducible assumption) | assumption)
                    have q188 : x5_2 < (l1_1.length : Int) := of_decide_eq_true (by first | (with_reducible assumption) | assumption)
                    obtain ⟨ad188, e188, hx188_0, hx188_1⟩ := at_T40 HR1_1.out x5_2 p188 q188
                    cases e188
                    replace hx188_0 := (HB.out.cell (World.block_lt_of_cell? w _ hx188_0)).trans hx188_0
                    replace hx188_1 := (HB.out.cell (World.block_lt_of_cell? w _ hx188_1)).trans hx188_1
                    replace p188 := eq_true p188
                    replace q188 := eq_true q188
                    go_wp2
                    repeat (go_quiet (fail); try go_wp2)
                    go_roundg k2
                    case measure => have := HJ2.out; have := HK2.out; omega
                    case rel => exact ⟨(wrap64 (x5_2 + 1)), (by first | rfl | (simp; done) | (simp [*]; done)), H', ⟨by have := HJ2.out; have := HK2.out; omega⟩, ⟨by (with_reducible repeat (first | refine blk_drewN ?_ _ | refine blk_drew ?_ | refine blk_alloc ?_ _)); exact BK184.out⟩, ⟨by (with_reducible repeat (first | refine blk_drewN ?_ _ | refine blk_drew ?_ | refine blk_alloc ?_ _)); exact BK185.out⟩, ⟨by repeat (first | (with_reducible first | exact HB.out | apply below_alloc | apply pw_below_drewN | apply below_drew1 | refine below_set ?_ GE184.out | refine below_set ?_ GE185.out) | exact HB.out)⟩⟩
                · rw [if_neg c17] at H
                  exact absurd H (by simp)
              · rw [if_neg c16] at H
                exact absurd H (by simp)
            · rw [if_neg c15] at H
              have c15b0 : decide (x5_2 < (l0_1.length : Int)) = false := decide_eq_false c15
              clear c15
              obtain rfl := Option.some.inj H
              have hnb25 := NB184_185.out
              have hnc25 := NB185_184.out
              have hcz26_0 : wr.cell? ⟨gb184, 0, none⟩ = some (.slice A0_0 l0_0.length c0_0) := (blk_cell BK184.out 0).trans rfl
              have hcz26_1 : wr.cell? ⟨gb184, 1, none⟩ = some (.slice A0_1 l0_1.length c0_1) := (blk_cell BK184.out 1).trans rfl
              have hfz26_0 := blk_frozen BK184.out 0
              have hfz26_1 := blk_frozen BK184.out 1
              go_wp2
              repeat (go_quiet (fail); try go_wp2)
              go_ret
              exact ⟨by first | rfl | (simp [errW_none, errW_some] <;> rfl) | (simp [*, errW_none, errW_some] <;> rfl), by repeat (first | (with_reducible first | exact HB.out | apply below_alloc | apply pw_below_drewN | apply below_drew1 | refine below_set ?_ GE184.out | refine below_set ?_ GE185.out) | exact HB.out)⟩

end Go.Proofs.Ytoibofhmlokglaa.P
/-
  What disk.Read and disk.Write tell, plainly.
-/
namespace Go.Proofs.Ytoibofhmlokglaa.P
open Go.RowKit Go.Proofs.YtoibofhmlokglaaW.PrintWords Go.Proofs.YtoibofhmlokglaaW.PrintLast Go.Proofs.Plain

theorem wrap_at {x : Int} (h0 : -9223372036854775808 ≤ x) (h1 : x ≤ 9223372036854775807) : wrap64 x = x := by unfold wrap64; omega

/-- What disk.Read answers. -/
def readV (l0 : List ByteArray) (l1 : List S40) (at_ : Int) : ByteArray × Int :=
  if checkB l0 l1 = false then (⟨#[]⟩, 1) else if at_ < 0 ∨ at_ ≥ (l0.length : Int) then (⟨#[]⟩, 40) else (rdOf ByteArray.empty (applyW (fun _ => true) 0 l1 l0) at_, 0)

theorem read_f (l0 : List ByteArray) (l1 : List S40) (at_ : Int) : disk_Read.f l0 l1 at_ = some (readV l0 l1 at_) := by
  unfold disk_Read.f readV
  rw [open_f]
  simp only [Option.bind_some]
  by_cases h1 : checkB l0 l1 = false
  · simp [h1]
  · rw [if_neg h1, if_neg h1]
    by_cases h2 : at_ < 0 ∨ at_ ≥ (l0.length : Int)
    · simp [h2]
    · rw [if_neg h2, if_neg h2, if_pos rfl]
      have h1' : checkB l0 l1 = true := by simpa using h1
      unfold disk_Sync.f doneV
      rw [if_pos h1']
      simp only [Option.bind_some]
      rw [if_pos trivial, if_pos (by omega), if_pos (by rw [applyW_length]; omega)]

theorem check_write {l0 : List ByteArray} {l1 : List S40} {at_ : Int} {s : ByteArray} (h : checkB l0 l1 = true) (ha : ¬ (at_ < 0 ∨ at_ ≥ (l0.length : Int))) (hs : longS s = false) (hl : ¬ l1.length = 100) :
    checkB l0 (l1 ++ [⟨at_, s⟩]) = true := by
  unfold checkB at h ⊢
  simp only [Bool.and_eq_true, decide_eq_true_eq, Bool.not_eq_true'] at h ⊢
  obtain ⟨⟨⟨⟨h1, h2⟩, h3⟩, h4⟩, h5⟩ := h
  refine ⟨⟨⟨⟨h1, h2⟩, by simp; omega⟩, h4⟩, ?_⟩
  rw [List.any_append, h5]
  simp only [List.any_cons, List.any_nil, Bool.or_false, Bool.false_or]
  unfold oddW
  rw [hs]
  simp only [Bool.or_false, Bool.or_eq_false_iff, decide_eq_false_iff_not]
  omega

theorem rdOf_set (l : List ByteArray) (i : Int) (s : ByteArray) (k : Int) (hi : 0 ≤ i) (hil : i < (l.length : Int)) (hk : 0 ≤ k) : rdOf ByteArray.empty (l.set i.toNat s) k = if k = i then s else rdOf ByteArray.empty l k := by
  unfold rdOf
  rw [List.getD_eq_getElem?_getD, List.getD_eq_getElem?_getD, List.getElem?_set]
  by_cases h : k = i
  · subst h
    rw [if_pos rfl, if_pos rfl, if_pos (by omega)]; rfl
  · rw [if_neg h, if_neg (by omega)]
end Go.Proofs.Ytoibofhmlokglaa.P
/-
  What a crash leaves, plainly.
-/
namespace Go.Proofs.Ytoibofhmlokglaa.P
open Go.RowKit Go.Proofs.YtoibofhmlokglaaW.PrintWords Go.Proofs.YtoibofhmlokglaaW.PrintLast Go.Proofs.Plain

theorem apply_from (p : Int → Bool) : ∀ (l : List S40) (i : Nat) (b : List ByteArray) (k : Nat), k < b.length →
    (applyW p i l b)[k]? = b[k]? ∨ ∃ x ∈ l, x.f0.toNat = k ∧ (applyW p i l b)[k]? = some x.f1
  | [], i, b, k, h => .inl rfl
  | y :: l, i, b, k, h => by
    simp only [applyW]
    by_cases hp : p (i : Int) = true
    · rw [if_pos hp]
      rcases apply_from p l (i + 1) (b.set y.f0.toNat y.f1) k (by simpa using h) with h1 | ⟨x, hx, h2, h3⟩
      · by_cases hk : y.f0.toNat = k
        · right
          refine ⟨y, List.mem_cons_self, hk, ?_⟩
          rw [h1, List.getElem?_set, if_pos hk, if_pos (by omega)]
        · left
          rw [h1, List.getElem?_set, if_neg hk]
      · exact .inr ⟨x, List.mem_cons_of_mem _ hx, h2, h3⟩
    · rw [if_neg hp]
      rcases apply_from p l (i + 1) b k h with h1 | ⟨x, hx, h2, h3⟩
      · exact .inl h1
      · exact .inr ⟨x, List.mem_cons_of_mem _ hx, h2, h3⟩


theorem crash_parts (p : Int → Bool) {l0 : List ByteArray} {l1 : List S40} (h : checkB l0 l1 = true) (k : Nat) (hk : k < (applyW p 0 l1 l0).length) (hk' : k < l0.length) :
    (applyW p 0 l1 l0)[k] = l0[k] ∨ ∃ x ∈ l1, x.f0 = (k : Int) ∧ x.f1 = (applyW p 0 l1 l0)[k] := by
  obtain ⟨_, _, _, _, hx⟩ := check_len h
  rcases apply_from p l1 0 l0 k hk' with h1 | ⟨x, hm, h2, h3⟩
  · left
    rw [List.getElem?_eq_getElem hk, List.getElem?_eq_getElem hk'] at h1
    exact Option.some.inj h1
  · right
    rw [List.getElem?_eq_getElem hk] at h3
    have := hx x hm
    exact ⟨x, hm, by omega, (Option.some.inj h3).symm⟩

theorem crash_right (p : Int → Bool) {l0 : List ByteArray} {l1 : List S40} (h : checkB l0 l1 = true) : checkB (applyW p 0 l1 l0) [] = true := by
  obtain ⟨h1, h2, h3, h4, h5⟩ := check_len h
  unfold checkB
  have hany : (applyW p 0 l1 l0).any longS = false := by
    rw [List.any_eq_false]
    intro s hs
    obtain ⟨k, hk, rfl⟩ := List.getElem_of_mem hs
    have hsz : (applyW p 0 l1 l0)[k].size ≤ 256 := by
      rcases crash_parts p h k hk (by rw [applyW_length] at hk; exact hk) with e | ⟨x, hx, _, e⟩
      · rw [e]; exact h4 _ (List.getElem_mem _)
      · rw [← e]; exact (h5 x hx).2.2
    unfold longS
    simp
    omega
  rw [hany, applyW_length]
  simp
  omega

theorem apply_congr {p q : Int → Bool} : ∀ (l : List S40) (i : Nat) (b : List ByteArray), (∀ j : Nat, i ≤ j → j < i + l.length → p (j : Int) = q (j : Int)) → applyW p i l b = applyW q i l b
  | [], i, b, _ => rfl
  | y :: l, i, b, h => by
    simp only [applyW]
    rw [h i (Nat.le_refl _) (by simp)]
    exact apply_congr l (i + 1) _ (fun j h1 h2 => h j (by omega) (by simp; omega))

theorem apply_none {p : Int → Bool} (hp : ∀ j : Nat, p (j : Int) = false) : ∀ (l : List S40) (i : Nat) (b : List ByteArray), applyW p i l b = b
  | [], i, b => rfl
  | y :: l, i, b => by
    simp only [applyW]
    rw [hp i, if_neg (by decide)]
    exact apply_none hp l (i + 1) b
end Go.Proofs.Ytoibofhmlokglaa.P
/-
  Plain laws on a number's bytes, highest first, without the leading zeros: no program in sight.
-/
namespace Go.Proofs.CodecPlain

/-- A fact that the walk is not to see. -/
structure As (p : Prop) : Prop where mk :: (out : p)

/-- The byte of n at place k. -/
def nbyte (n : Int) (k : Nat) : Int := n / 256 ^ k % 256
/-- Without the zeros at its head. -/
def lead : List Int → List Int
  | [] => []
  | b :: l => if b = 0 then lead l else b :: l
/-- The first j of the four bytes, the highest first. -/
def tops (n : Int) : Nat → List Int
  | 0 => []
  | j + 1 => tops n j ++ [nbyte n (3 - j)]
/-- A number's bytes. -/
def nbytes (n : Int) : List Int := lead (tops n 4)

/-- A number's text: how many bytes, and the bytes. -/
def numStr (n : Int) : ByteArray := Go.strOfNums (((nbytes n).length : Int) :: nbytes n)

theorem lead_snoc_nil {l : List Int} (h : lead l = []) (b : Int) : lead (l ++ [b]) = if b = 0 then [] else [b] := by
  induction l with
  | nil => by_cases e : b = 0 <;> simp [lead, e]
  | cons c l ih =>
    unfold lead at h
    split at h
    · rename_i e; subst e; simp [lead, ih h]
    · cases h
theorem lead_snoc {l : List Int} (h : lead l ≠ []) (b : Int) : lead (l ++ [b]) = lead l ++ [b] := by
  induction l with
  | nil => exact absurd rfl h
  | cons c l ih =>
    by_cases e : c = 0
    · subst e
      have : lead l ≠ [] := by intro e'; exact h (by simp [lead, e'])
      simp [lead, ih this]
    · simp [lead, e]
theorem tops_length (n : Int) (j : Nat) : (tops n j).length = j := by
  induction j with
  | zero => rfl
  | succ j ih => simp [tops, ih]
theorem lead_length (l : List Int) : (lead l).length ≤ l.length := by
  induction l with
  | nil => simp [lead]
  | cons c l ih => unfold lead; split <;> simp <;> omega
theorem nbytes_length (n : Int) : (nbytes n).length ≤ 4 := by
  have := lead_length (tops n 4); rw [tops_length] at this; exact this
theorem nbyte_lt (n : Int) (k : Nat) : 0 ≤ nbyte n k ∧ nbyte n k < 256 := by unfold nbyte; omega
theorem numStr_size (n : Int) : 1 ≤ (numStr n).size ∧ (numStr n).size ≤ 5 := by
  have := nbytes_length n
  have h : (numStr n).size = (nbytes n).length + 1 := by simp [numStr, Go.strOfNums, ByteArray.size]
  omega
/-- A text's text. -/
def textStr (s : ByteArray) : ByteArray := numStr (s.size : Int) ++ s
/-- Texts one behind the other. -/
def catStr : List ByteArray → ByteArray
  | [] => ⟨#[]⟩
  | s :: l => s ++ catStr l
/-- A row's text. -/
def rowStr (l : List ByteArray) : ByteArray := numStr (l.length : Int) ++ catStr (l.map textStr)
theorem size_append (a b : ByteArray) : (a ++ b).size = a.size + b.size := ByteArray.size_append
theorem textStr_size (s : ByteArray) : (textStr s).size ≤ s.size + 5 := by
  have := numStr_size (s.size : Int); unfold textStr; rw [size_append]; omega
theorem catStr_append (a b : List ByteArray) : catStr (a ++ b) = catStr a ++ catStr b := by
  induction a with
  | nil => simp [catStr]; rfl
  | cons x a ih => simp [catStr, ih, ByteArray.append_assoc]
theorem catStr_size (l : List ByteArray) (h : ∀ s ∈ l, s.size ≤ 4000) : (catStr (l.map textStr)).size ≤ l.length * 4005 := by
  induction l with
  | nil => simp [catStr, ByteArray.size]
  | cons x l ih =>
    have h1 := ih (fun s hs => h s (List.mem_cons_of_mem _ hs))
    have h2 := textStr_size x
    have h3 := h x List.mem_cons_self
    simp only [List.map_cons, catStr, size_append, List.length_cons]
    omega
theorem row_next (l : List ByteArray) (k : Nat) (h : k < l.length) :
    (numStr l.length ++ catStr ((l.take k).map textStr)).data.toList ++ (textStr l[k]).data.toList = (numStr l.length ++ catStr ((l.take (k + 1)).map textStr)).data.toList := by
  rw [List.take_succ_eq_append_getElem h, List.map_append, catStr_append]
  simp [catStr]

end Go.Proofs.CodecPlain
/-
  Plain laws on reading a number's bytes: no program in sight.
-/
namespace Go.Proofs.CodecPlain

/-- The number that bytes say, the highest first. -/
def accB (l : List UInt8) : Int := l.foldl (fun a b => a * 256 + (b.toNat : Int)) 0
theorem accB_snoc (l : List UInt8) (b : UInt8) : accB (l ++ [b]) = accB l * 256 + (b.toNat : Int) := by simp [accB]
theorem accB_from (l : List UInt8) : ∀ a : Int, 0 ≤ a → 0 ≤ l.foldl (fun a b => a * 256 + (b.toNat : Int)) a ∧ l.foldl (fun a b => a * 256 + (b.toNat : Int)) a < (a + 1) * 256 ^ l.length := by
  induction l with
  | nil => intro a h; simp; omega
  | cons b l ih =>
    intro a h
    have hb := b.toNat_lt
    have h1 := ih (a * 256 + (b.toNat : Int)) (by omega)
    rw [List.foldl_cons, List.length_cons, Int.pow_succ]
    refine ⟨h1.1, Int.lt_of_lt_of_le h1.2 ?_⟩
    rw [Int.mul_comm (256 ^ l.length) 256, ← Int.mul_assoc]
    exact Int.mul_le_mul_of_nonneg_right (by omega) (Int.le_of_lt (Int.pow_pos (by omega)))
theorem accB_bd (l : List UInt8) : 0 ≤ accB l ∧ accB l < 256 ^ l.length := by
  have := accB_from l 0 (by omega)
  simpa [accB] using this

/-- The first byte of bytes. -/
def hd (s : ByteArray) : Nat := if h : 0 < s.size then (s[0]'h).toNat else 0

/-- What reads as a number at the begin of bytes: it, what stands behind, and whether there is one. -/
def getNum (s : ByteArray) : Int × ByteArray × Bool :=
  if s.size = 0 ∨ 4 < hd s ∨ s.size ≤ hd s then (0, ⟨#[]⟩, false)
  else if hd s ≠ 0 ∧ hd (s.extract 1 (1 + hd s)) = 0 then (0, ⟨#[]⟩, false)
  else (accB (s.extract 1 (1 + hd s)).data.toList, s.extract (1 + hd s) s.size, true)

end Go.Proofs.CodecPlain
/-
  Plain laws on reading texts and rows: no program in sight.
-/
namespace Go.Proofs.CodecPlain

/-- What reads as a text at the begin of bytes. -/
def getText (s : ByteArray) : ByteArray × ByteArray × Bool :=
  if (getNum s).2.2 = true ∧ (getNum s).1 ≤ 4000 ∧ (getNum s).1 ≤ ((getNum s).2.1.size : Int) then
    ((getNum s).2.1.extract 0 (getNum s).1.toNat, (getNum s).2.1.extract (getNum s).1.toNat (getNum s).2.1.size, true)
  else (⟨#[]⟩, ⟨#[]⟩, false)
/-- What reads as n texts, one behind the other. -/
def getTexts : Nat → ByteArray → List ByteArray × ByteArray × Bool
  | 0, s => ([], s, true)
  | n + 1, s => if (getText s).2.2 = true then
      (if (getTexts n (getText s).2.1).2.2 = true then ((getText s).1 :: (getTexts n (getText s).2.1).1, (getTexts n (getText s).2.1).2.1, true) else ([], ⟨#[]⟩, false))
    else ([], ⟨#[]⟩, false)
/-- What reads as a row at the begin of bytes. -/
def getRow (s : ByteArray) : List ByteArray × ByteArray × Bool :=
  if (getNum s).2.2 = true ∧ (getNum s).1 ≤ 1000 then getTexts (getNum s).1.toNat (getNum s).2.1 else ([], ⟨#[]⟩, false)
/-- What is told where some have been read. -/
def withL (l : List ByteArray) (r : List ByteArray × ByteArray × Bool) : List ByteArray × ByteArray × Bool := if r.2.2 = true then (l ++ r.1, r.2.1, true) else ([], ⟨#[]⟩, false)

theorem getNum_bd (s : ByteArray) : 0 ≤ (getNum s).1 ∧ (getNum s).1 < 4294967296 := by
  unfold getNum
  split
  · exact ⟨by decide, by decide⟩
  · split
    · exact ⟨by decide, by decide⟩
    · rename_i h _
      have h1 := accB_bd (s.extract 1 (1 + hd s)).data.toList
      have hl : (s.extract 1 (1 + hd s)).data.toList.length = hd s := by
        rw [Array.length_toList]
        show (s.extract 1 (1 + hd s)).size = _
        rw [ByteArray.size_extract]; omega
      rw [hl] at h1
      refine ⟨h1.1, Int.lt_of_lt_of_le h1.2 ?_⟩
      have : hd s ≤ 4 := by omega
      match hd s, this with
      | 0, _ => decide
      | 1, _ => decide
      | 2, _ => decide
      | 3, _ => decide
      | 4, _ => decide
theorem getTexts_len : ∀ (n : Nat) (s : ByteArray), (getTexts n s).2.2 = true → (getTexts n s).1.length = n
  | 0, s, _ => rfl
  | n + 1, s, h => by
    unfold getTexts at h ⊢
    split at h
    · rename_i h1
      rw [if_pos h1]
      split at h
      · rename_i h2
        rw [if_pos h2]
        simp [getTexts_len n _ h2]
      · cases h
    · cases h
theorem withL_stop (l : List ByteArray) (n : Nat) (s : ByteArray) (h : (getText s).2.2 = false) : withL l (getTexts (n + 1) s) = ([], ⟨#[]⟩, false) := by
  simp [getTexts, h, withL]
theorem withL_step (l : List ByteArray) (n : Nat) (s : ByteArray) (h : (getText s).2.2 = true) : withL l (getTexts (n + 1) s) = withL (l ++ [(getText s).1]) (getTexts n (getText s).2.1) := by
  by_cases h2 : (getTexts n (getText s).2.1).2.2 = true <;> simp [getTexts, h, withL, h2]
theorem withL_nil (n : Nat) (s : ByteArray) : withL [] (getTexts n s) = getTexts n s := by
  cases n with
  | zero => simp [withL, getTexts]
  | succ n =>
    unfold getTexts
    split
    · split <;> simp [withL]
    · simp [withL]

end Go.Proofs.CodecPlain
/-
  Plain laws on numbers', texts' and rows' bytes: what is laid is read, what is read is laid. No program in sight.
-/
namespace Go.Proofs.CodecPlain

theorem ba_ext {a b : ByteArray} (h : a.data.toList = b.data.toList) : a = b := by
  cases a; cases b
  rename_i x y
  have : x = y := by cases x; cases y; simpa using h
  rw [this]
theorem ext_list (s : ByteArray) (a b : Nat) : (s.extract a b).data.toList = (s.data.toList.drop a).take (b - a) := by
  rw [ByteArray.data_extract, Array.toList_extract]
theorem app_list (a b : ByteArray) : (a ++ b).data.toList = a.data.toList ++ b.data.toList := by
  rw [ByteArray.data_append, Array.toList_append]
theorem len_list (a : ByteArray) : a.data.toList.length = a.size := by rw [Array.length_toList]; rfl

/-! ### a number's bytes -/
theorem nbytes_zero : nbytes 0 = [] := by decide
theorem tops4 (x : Int) : tops x 4 = [nbyte x 3, nbyte x 2, nbyte x 1, nbyte x 0] := rfl
theorem nbytes_rec (x : Int) (h0 : 0 < x) (h1 : x < 4294967296) : nbytes x = nbytes (x / 256) ++ [x % 256] := by
  have e3 : nbyte (x / 256) 3 = 0 := by unfold nbyte; omega
  have e2 : nbyte (x / 256) 2 = nbyte x 3 := by unfold nbyte; omega
  have e1 : nbyte (x / 256) 1 = nbyte x 2 := by unfold nbyte; omega
  have e0 : nbyte (x / 256) 0 = nbyte x 1 := by unfold nbyte; omega
  have e : nbyte x 0 = x % 256 := by unfold nbyte; omega
  have hl : nbytes (x / 256) = lead [nbyte x 3, nbyte x 2, nbyte x 1] := by
    unfold nbytes; rw [tops4, e3, e2, e1, e0]; simp [lead]
  have hr : nbytes x = lead ([nbyte x 3, nbyte x 2, nbyte x 1] ++ [x % 256]) := by
    unfold nbytes; rw [tops4, e]; rfl
  rw [hr, hl]
  by_cases hn : lead [nbyte x 3, nbyte x 2, nbyte x 1] = []
  · rw [lead_snoc_nil hn, hn]
    have : x % 256 ≠ 0 := by
      have z3 : nbyte x 3 = 0 := by
        by_cases z : nbyte x 3 = 0
        · exact z
        · simp [lead, z] at hn
      have z2 : nbyte x 2 = 0 := by
        by_cases z : nbyte x 2 = 0
        · exact z
        · simp [lead, z, z3] at hn
      have z1 : nbyte x 1 = 0 := by
        by_cases z : nbyte x 1 = 0
        · exact z
        · simp [lead, z, z2, z3] at hn
      unfold nbyte at z1 z2 z3
      omega
    rw [if_neg this]; rfl
  · rw [lead_snoc hn]
/-- A byte's number as a byte. -/
def u8 (n : Int) : UInt8 := UInt8.ofNat n.toNat
theorem u8_toNat {n : Int} (h0 : 0 ≤ n) (h1 : n < 256) : ((u8 n).toNat : Int) = n := by
  have : (u8 n).toNat = n.toNat % 256 := by simp [u8, UInt8.toNat_ofNat']
  omega
theorem u8_of (b : UInt8) : u8 (b.toNat : Int) = b := by
  apply UInt8.toNat_inj.1
  have h := b.toNat_lt
  have := u8_toNat (n := (b.toNat : Int)) (by omega) (by omega)
  omega
theorem nat_ind {P : Int → Prop} (h : ∀ x, 0 ≤ x → (∀ y, 0 ≤ y → y < x → P y) → P x) : ∀ x, 0 ≤ x → P x := by
  have key : ∀ n : Nat, ∀ x : Int, 0 ≤ x → x.toNat < n → P x := by
    intro n
    induction n with
    | zero => intro x _ hx; omega
    | succ n ih => intro x h0 hx; exact h x h0 (fun y hy hlt => ih y hy (by omega))
  exact fun x hx => key (x.toNat + 1) x hx (by omega)
theorem accB_nbytes : ∀ x : Int, 0 ≤ x → x < 4294967296 → accB ((nbytes x).map u8) = x := by
  apply nat_ind
  intro x h0 ih h1
  by_cases hz : x = 0
  · subst hz; rw [nbytes_zero]; rfl
  · rw [nbytes_rec x (by omega) h1, List.map_append, List.map_singleton, accB_snoc, ih (x / 256) (by omega) (by omega) (by omega), u8_toNat (by omega) (by omega)]
    omega
theorem nbytes_head : ∀ x : Int, 0 ≤ x → x < 4294967296 → ∀ b l, nbytes x = b :: l → 0 < b ∧ b < 256 := by
  apply nat_ind
  intro x h0 ih h1 b l hb
  by_cases hz : x = 0
  · subst hz; rw [nbytes_zero] at hb; cases hb
  · rw [nbytes_rec x (by omega) h1] at hb
    cases hc : nbytes (x / 256) with
    | nil =>
      rw [hc] at hb
      simp at hb
      by_cases hy : x / 256 = 0
      · omega
      · exfalso
        rw [nbytes_rec (x / 256) (by omega) (by omega)] at hc
        simp at hc
    | cons c m =>
      rw [hc] at hb
      simp at hb
      have := ih (x / 256) (by omega) (by omega) (by omega) c m hc
      omega
theorem nbytes_pos (x : Int) (h0 : 0 ≤ x) (h1 : x < 4294967296) (h : nbytes x = []) : x = 0 := by
  by_cases hz : x = 0
  · exact hz
  · rw [nbytes_rec x (by omega) h1] at h; simp at h
theorem nbytes_accB : ∀ (n : Nat) (l : List UInt8), l.length = n → n ≤ 4 → (∀ b m, l = b :: m → b.toNat ≠ 0) → (nbytes (accB l)).map u8 = l ∧ (l ≠ [] → 0 < accB l) := by
  intro n
  induction n with
  | zero => intro l hl _ _; cases l with | nil => exact ⟨rfl, fun h => absurd rfl h⟩ | cons _ _ => simp at hl
  | succ n ih =>
    intro l hl h4 hh
    have hne : l ≠ [] := by intro e; rw [e] at hl; simp at hl
    have hsp := List.dropLast_concat_getLast hne
    generalize l.dropLast = m at hsp
    generalize l.getLast hne = b at hsp
    subst hsp
    have hm : m.length = n := by simp at hl; exact hl
    have hb := b.toNat_lt
    have hbd := accB_bd (m ++ [b])
    have hbm := accB_bd m
    have h256 : accB (m ++ [b]) < 4294967296 := Int.lt_of_lt_of_le hbd.2 (by
      rw [hl]
      match n, h4 with
      | 0, _ => decide
      | 1, _ => decide
      | 2, _ => decide
      | 3, _ => decide)
    have hsn := accB_snoc m b
    have ih' := ih m hm (by omega) (fun c k e => hh c (k ++ [b]) (by rw [e]; rfl))
    have hpos : 0 < accB (m ++ [b]) := by
      cases m with
      | nil => have := hh b [] rfl; rw [hsn]; simp [accB]; omega
      | cons c k => have := ih'.2 (by simp); omega
    refine ⟨?_, fun _ => hpos⟩
    rw [nbytes_rec _ hpos h256]
    have e1 : accB (m ++ [b]) / 256 = accB m := by omega
    have e2 : accB (m ++ [b]) % 256 = (b.toNat : Int) := by omega
    rw [e1, e2, List.map_append, ih'.1, List.map_singleton, u8_of]

theorem numStr_list (n : Int) : (numStr n).data.toList = u8 ((nbytes n).length : Int) :: (nbytes n).map u8 := by
  simp [numStr, Go.strOfNums, u8]
theorem numStr_sz (n : Int) : (numStr n).size = 1 + (nbytes n).length := by rw [← len_list, numStr_list]; simp; omega
theorem hd_list (s : ByteArray) : hd s = match s.data.toList with | [] => 0 | b :: _ => b.toNat := by
  cases s with | mk d => cases d with | mk l =>
    cases l with
    | nil => unfold hd; rw [dif_neg (by show ¬ 0 < 0; omega)]
    | cons b l => unfold hd; rw [dif_pos (by show 0 < l.length + 1; omega)]; rfl

/-- What is laid is read. -/
theorem getNum_put (n : Int) (h0 : 0 ≤ n) (h1 : n ≤ 4294967295) (rest : ByteArray) : getNum (numStr n ++ rest) = (n, rest, true) := by
  have hl := nbytes_length n
  have hlist : (numStr n ++ rest).data.toList = u8 ((nbytes n).length : Int) :: ((nbytes n).map u8 ++ rest.data.toList) := by rw [app_list, numStr_list]; rfl
  have hhd : hd (numStr n ++ rest) = (nbytes n).length := by
    rw [hd_list, hlist]
    have := u8_toNat (n := ((nbytes n).length : Int)) (by omega) (by omega)
    show (u8 _).toNat = _
    omega
  have hsz : (numStr n ++ rest).size = 1 + (nbytes n).length + rest.size := by rw [size_append, numStr_sz]
  have hb : ((numStr n ++ rest).extract 1 (1 + (nbytes n).length)).data.toList = (nbytes n).map u8 := by
    rw [ext_list, hlist, Nat.add_sub_cancel_left, List.drop_one, List.tail_cons]
    rw [List.take_append_of_le_length (by simp)]
    rw [List.take_of_length_le (by simp)]
  have hr : (numStr n ++ rest).extract (1 + (nbytes n).length) (numStr n ++ rest).size = rest := by
    apply ba_ext
    rw [ext_list, hlist, Nat.add_comm 1, List.drop_succ_cons, List.drop_append_of_le_length (by simp), List.drop_of_length_le (by simp), List.nil_append]
    rw [List.take_of_length_le]
    rw [len_list]; omega
  unfold getNum
  rw [hhd, if_neg (by omega), if_neg, hb, hr, accB_nbytes n h0 (by omega)]
  rintro ⟨hne, hz⟩
  rw [hd_list, hb] at hz
  cases hc : nbytes n with
  | nil => rw [hc] at hne; simp at hne
  | cons b l =>
    rw [hc] at hz
    have := nbytes_head n h0 (by omega) b l hc
    have h2 := u8_toNat (n := b) (by omega) this.2
    simp at hz
    omega
/-- What is read is laid. -/
theorem getNum_got {s : ByteArray} {n : Int} {rest : ByteArray} (h : getNum s = (n, rest, true)) : 0 ≤ n ∧ n ≤ 4294967295 ∧ s = numStr n ++ rest := by
  have hbd := getNum_bd s
  rw [h] at hbd
  refine ⟨hbd.1, by have := hbd.2; simp only at this; omega, ?_⟩
  unfold getNum at h
  split at h
  · simp at h
  · rename_i h1
    split at h
    · simp at h
    · rename_i h2
      simp only [Prod.mk.injEq, and_true] at h
      obtain ⟨rfl, rfl⟩ := h
      have hbl : ((s.extract 1 (1 + hd s)).data.toList).length = hd s := by rw [len_list, ByteArray.size_extract]; omega
      have hk := nbytes_accB (hd s) _ hbl (by omega) (by
        intro b m e hz
        apply h2
        refine ⟨fun h0 => by rw [e] at hbl; simp at hbl; omega, ?_⟩
        rw [hd_list, e]; exact hz)
      apply ba_ext
      have hlen : (nbytes (accB (s.extract 1 (1 + hd s)).data.toList)).length = hd s := by
        have := congrArg List.length hk.1
        rw [List.length_map, hbl] at this
        exact this
      rw [app_list, numStr_list, hk.1, hlen, ext_list, ext_list]
      cases hs : s.data.toList with
      | nil => have := len_list s; rw [hs] at this; simp at this; omega
      | cons b l =>
        have hb : hd s = b.toNat := by rw [hd_list, hs]
        have hsz : s.size = l.length + 1 := by rw [← len_list, hs]; rfl
        rw [hb, u8_of, Nat.add_comm 1, Nat.add_sub_cancel, List.drop_one, List.tail_cons, List.drop_succ_cons, List.cons_append]
        rw [List.take_of_length_le (l := l.drop b.toNat) (by rw [List.length_drop]; omega), List.take_append_drop]

/-! ### texts -/
theorem getText_put (t : ByteArray) (h : t.size ≤ 4000) (rest : ByteArray) : getText (textStr t ++ rest) = (t, rest, true) := by
  have hg : getNum (textStr t ++ rest) = ((t.size : Int), t ++ rest, true) := by
    unfold textStr
    rw [ByteArray.append_assoc]
    exact getNum_put _ (by omega) (by omega) _
  unfold getText
  rw [hg]
  simp only
  rw [if_pos ⟨trivial, by omega, by rw [size_append]; omega⟩]
  have e1 : (t ++ rest).extract 0 (t.size : Int).toNat = t := by
    apply ba_ext; rw [ext_list, app_list, Int.toNat_natCast, List.drop_zero, Nat.sub_zero, List.take_append_of_le_length (by rw [len_list]; exact Nat.le_refl _), List.take_of_length_le (by rw [len_list]; exact Nat.le_refl _)]
  have e2 : (t ++ rest).extract (t.size : Int).toNat (t ++ rest).size = rest := by
    apply ba_ext
    rw [ext_list, app_list, Int.toNat_natCast, List.drop_append_of_le_length (by rw [len_list]; exact Nat.le_refl _), List.drop_of_length_le (by rw [len_list]; exact Nat.le_refl _), List.nil_append, size_append, Nat.add_sub_cancel_left]
    rw [List.take_of_length_le (by rw [len_list]; exact Nat.le_refl _)]
  rw [e1, e2]
theorem getText_got {s t rest : ByteArray} (h : getText s = (t, rest, true)) : t.size ≤ 4000 ∧ s = textStr t ++ rest := by
  unfold getText at h
  split at h
  · rename_i hc
    obtain ⟨n, r, ok, hn⟩ : ∃ n r ok, getNum s = (n, r, ok) := ⟨_, _, _, rfl⟩
    rw [hn] at h hc
    simp only at h hc
    obtain ⟨rfl, hc1, hc2⟩ := hc
    obtain ⟨h0, h1, hs⟩ := getNum_got hn
    simp only [Prod.mk.injEq, and_true] at h
    obtain ⟨rfl, rfl⟩ := h
    have hsz : ((r.extract 0 n.toNat).size : Int) = n := by rw [ByteArray.size_extract]; omega
    refine ⟨by omega, ?_⟩
    unfold textStr
    rw [hsz, ByteArray.append_assoc, hs]
    congr 1
    apply ba_ext
    rw [app_list, ext_list, ext_list, List.drop_zero, Nat.sub_zero]
    rw [List.take_of_length_le (l := r.data.toList.drop n.toNat) (by rw [List.length_drop, len_list]; omega), List.take_append_drop]
  · simp at h
theorem getText_no {s : ByteArray} (h : (getText s).2.2 = false) : getText s = (⟨#[]⟩, ⟨#[]⟩, false) := by
  unfold getText at h ⊢
  split
  · rename_i hc; rw [if_pos hc] at h; simp at h
  · rfl
theorem getNum_no' {s : ByteArray} (h : (getNum s).2.2 = false) : getNum s = (0, ⟨#[]⟩, false) := by
  unfold getNum at h ⊢
  split
  · rfl
  · split
    · rfl
    · rename_i h1 h2; rw [if_neg h1, if_neg h2] at h; simp at h

/-! ### rows -/
theorem getTexts_put : ∀ (l : List ByteArray) (_ : ∀ t ∈ l, t.size ≤ 4000) (rest : ByteArray), getTexts l.length (catStr (l.map textStr) ++ rest) = (l, rest, true)
  | [], _, rest => by
    have : (⟨#[]⟩ : ByteArray) ++ rest = rest := ba_ext (by rw [app_list]; rfl)
    simp [getTexts, catStr, this]
  | t :: l, h, rest => by
    have hg : getText (catStr ((t :: l).map textStr) ++ rest) = (t, catStr (l.map textStr) ++ rest, true) := by
      rw [List.map_cons, catStr, ByteArray.append_assoc]
      exact getText_put t (h t List.mem_cons_self) _
    have ih := getTexts_put l (fun x hx => h x (List.mem_cons_of_mem _ hx)) rest
    rw [List.length_cons, getTexts, hg]
    simp [ih]
theorem getTexts_got : ∀ (n : Nat) (s : ByteArray) (l : List ByteArray) (rest : ByteArray), getTexts n s = (l, rest, true) → l.length = n ∧ (∀ t ∈ l, t.size ≤ 4000) ∧ s = catStr (l.map textStr) ++ rest
  | 0, s, l, rest, h => by
    simp [getTexts] at h
    obtain ⟨rfl, rfl⟩ := h
    exact ⟨rfl, by simp, ba_ext (by rw [app_list]; rfl)⟩
  | n + 1, s, l, rest, h => by
    unfold getTexts at h
    obtain ⟨t, r, ok, ht⟩ : ∃ t r ok, getText s = (t, r, ok) := ⟨_, _, _, rfl⟩
    rw [ht] at h
    simp only at h
    split at h
    · rename_i hok
      subst hok
      obtain ⟨m, q, k, hm⟩ : ∃ m q k, getTexts n r = (m, q, k) := ⟨_, _, _, rfl⟩
      rw [hm] at h
      simp only at h
      split at h
      · rename_i hk
        subst hk
        simp only [Prod.mk.injEq, and_true] at h
        obtain ⟨rfl, rfl⟩ := h
        obtain ⟨h1, h2, h3⟩ := getTexts_got n r m q hm
        obtain ⟨h4, h5⟩ := getText_got ht
        refine ⟨by simp [h1], fun x hx => ?_, ?_⟩
        · rcases List.mem_cons.1 hx with rfl | hx
          · exact h4
          · exact h2 x hx
        · rw [List.map_cons, catStr, ByteArray.append_assoc, ← h3, h5]
      · simp at h
    · simp at h
theorem getRow_put (l : List ByteArray) (hl : l.length ≤ 1000) (h : ∀ t ∈ l, t.size ≤ 4000) (rest : ByteArray) : getRow (rowStr l ++ rest) = (l, rest, true) := by
  have hg : getNum (rowStr l ++ rest) = ((l.length : Int), catStr (l.map textStr) ++ rest, true) := by
    unfold rowStr
    rw [ByteArray.append_assoc]
    exact getNum_put _ (by omega) (by omega) _
  unfold getRow
  rw [hg]
  simp only
  rw [if_pos ⟨trivial, by omega⟩, Int.toNat_natCast]
  exact getTexts_put l h rest
theorem getRow_got {s : ByteArray} {l : List ByteArray} {rest : ByteArray} (h : getRow s = (l, rest, true)) : l.length ≤ 1000 ∧ (∀ t ∈ l, t.size ≤ 4000) ∧ s = rowStr l ++ rest := by
  unfold getRow at h
  split at h
  · rename_i hc
    obtain ⟨n, r, ok, hn⟩ : ∃ n r ok, getNum s = (n, r, ok) := ⟨_, _, _, rfl⟩
    rw [hn] at h hc
    simp only at h hc
    obtain ⟨rfl, hc1⟩ := hc
    obtain ⟨h0, h1, hs⟩ := getNum_got hn
    obtain ⟨h2, h3, h4⟩ := getTexts_got _ _ _ _ h
    refine ⟨by omega, h3, ?_⟩
    unfold rowStr
    rw [h2, ByteArray.append_assoc, ← h4, hs]
    congr 2
    omega
  · simp at h
theorem getTexts_no : ∀ (n : Nat) (s : ByteArray), (getTexts n s).2.2 = false → getTexts n s = ([], ⟨#[]⟩, false)
  | 0, s, h => by simp [getTexts] at h
  | n + 1, s, h => by
    unfold getTexts at h ⊢
    split
    · rename_i h1
      rw [if_pos h1] at h
      split
      · rename_i h2; rw [if_pos h2] at h; simp at h
      · rfl
    · rfl
theorem getRow_no {s : ByteArray} (h : (getRow s).2.2 = false) : getRow s = ([], ⟨#[]⟩, false) := by
  unfold getRow at h ⊢
  split
  · rename_i hc; rw [if_pos hc] at h; exact getTexts_no _ _ h
  · rfl

end Go.Proofs.CodecPlain
/-
  Words for the references, told plainly.
-/
namespace Go.Proofs.Ytoibofhmlokglaa.P
open Go.RowKit Go.Proofs.CodecPlain Go.Proofs.YtoibofhmlokglaaW.PrintWords Go.Proofs.YtoibofhmlokglaaW.PrintLast

theorem ev_if_pos {α : Type} {p : Nat → Prop} [∀ k, Decidable (p k)] {a b : Nat → Option α} {r : α} (h : ∀ k, p k) (k : Ev a r) : Ev (fun n => if p n then a n else b n) r :=
  k.congr (fun n => if_pos (h n))

theorem toList_inj {a b : ByteArray} (h : a.toList = b.toList) : a = b := by
  rw [ByteArray.toList_eq, ByteArray.toList_eq] at h; exact ba_ext h

theorem wrap_id {x : Int} (h0 : -9223372036854775808 ≤ x) (h1 : x ≤ 9223372036854775807) : wrap64 x = x := by unfold wrap64; omega

theorem strOfNums_size (l : List Int) : (strOfNums l).size = l.length := by simp [strOfNums, ByteArray.size]

theorem strOfNums_list (l : List Int) : (strOfNums l).data.toList = l.map u8 := by simp [strOfNums, u8]

theorem rd_str (l : List ByteArray) (k : Nat) (h : k < l.length) : rdOf ByteArray.empty l (k : Int) = l[k] := by
  simp [rdOf, List.getD_eq_getElem?_getD, h]
end Go.Proofs.Ytoibofhmlokglaa.P
/-
  sextonref01.Own, told plainly.
-/
namespace Go.Proofs.Ytoibofhmlokglaa.P
open Go.RowKit Go.Proofs.CodecPlain Go.Proofs.YtoibofhmlokglaaW.PrintWords Go.Proofs.YtoibofhmlokglaaW.PrintLast

theorem refOwn (l : List ByteArray) (h : l.length < 8796093022208) : sextonref01_Own.f l = some l := by
  unfold sextonref01_Own.f
  rw [if_pos (by simpa using h)]
  rfl
end Go.Proofs.Ytoibofhmlokglaa.P
/-
  sextonref01.Texts, told plainly.
-/
namespace Go.Proofs.Ytoibofhmlokglaa.P
open Go.RowKit Go.Proofs.CodecPlain Go.Proofs.YtoibofhmlokglaaW.PrintWords Go.Proofs.YtoibofhmlokglaaW.PrintLast

theorem refTexts_l0 (a b : List ByteArray) (hl : a.length = b.length) (hm : a.length ≤ 9223372036854775806) (d : Nat) : ∀ k : Nat, k + d = a.length → Ev (fun r => sextonref01_Texts.l0 r a b (k : Int)) (decide (a.drop k = b.drop k)) := by
  induction d with
  | zero =>
    intro k hk
    have h1 : a.drop k = [] := List.drop_of_length_le (by omega)
    have h2 : b.drop k = [] := List.drop_of_length_le (by omega)
    rw [h1, h2]
    exact Ev.step (f := fun _ => some true) (fun r => by simp only [sextonref01_Texts.l0]; rw [if_neg (by omega)]) (Ev.now _)
  | succ d ih =>
    intro k hk
    have ha : k < a.length := by omega
    have hb : k < b.length := by omega
    have e1 : a.drop k = a[k] :: a.drop (k + 1) := List.drop_eq_getElem_cons ha
    have e2 : b.drop k = b[k] :: b.drop (k + 1) := List.drop_eq_getElem_cons hb
    by_cases he : a[k] = b[k]
    · refine Ev.step (f := fun r => sextonref01_Texts.l0 r a b ((k + 1 : Nat) : Int)) (fun r => ?_) ?_
      · simp only [sextonref01_Texts.l0]
        rw [if_pos (by omega), if_pos (by omega), if_pos (by omega), rd_str a k ha, rd_str b k hb, if_pos (by rw [he]), wrap_id (by omega) (by omega)]
        rfl
      · have := ih (k + 1) (by omega)
        rw [e1, e2, he]
        simp only [List.cons.injEq, true_and]
        exact this
    · refine Ev.step (f := fun _ => some false) (fun r => ?_) ?_
      · simp only [sextonref01_Texts.l0]
        rw [if_pos (by omega), if_pos (by omega), if_pos (by omega), rd_str a k ha, rd_str b k hb, if_neg (fun h => he (toList_inj h))]
      · rw [e1, e2, decide_eq_false (fun h => he (List.cons.inj h).1)]
        exact Ev.now _

theorem refTexts (a b : List ByteArray) (hm : a.length ≤ 9223372036854775806) : Ev (fun r => sextonref01_Texts.f r a b) (decide (a = b)) := by
  by_cases hl : a.length = b.length
  · refine Ev.congr (f := fun r => sextonref01_Texts.l0 r a b 0) (fun r => by unfold sextonref01_Texts.f; rw [if_pos (by omega)]) ?_
    have := refTexts_l0 a b hl hm a.length 0 (by omega)
    simpa using this
  · rw [decide_eq_false (fun h => hl (by rw [h]))]
    exact Ev.congr (f := fun _ => some false) (fun r => by unfold sextonref01_Texts.f; rw [if_neg (by omega)]) (Ev.now _)
end Go.Proofs.Ytoibofhmlokglaa.P
/-
  What 'Same' of layer 4 tells, plainly.
-/
namespace Go.Proofs.Ytoibofhmlokglaa.P
open Go.RowKit Go.Proofs.CodecPlain Go.Proofs.YtoibofhmlokglaaW.PrintWords Go.Proofs.YtoibofhmlokglaaW.PrintLast Go.Proofs.Plain

theorem rd_W (l : List S40) (k : Nat) (h : k < l.length) : rd_T40 l (k : Int) = l[k] := by
  simp [rd_T40, List.getD_eq_getElem?_getD, h]
instance : DecidableEq S40 := fun a b => if h : a.f0 = b.f0 ∧ a.f1 = b.f1 then .isTrue (by cases a; cases b; simp_all) else .isFalse (fun e => h ⟨by rw [e], by rw [e]⟩)
theorem same_l0 (p q : List ByteArray) (a b : List S40) (hl : a.length = b.length) (hm : a.length ≤ 9223372036854775806) (d : Nat) : ∀ k : Nat, k + d = a.length → Ev (fun r => sextonref04_Same.l0 r (k : Int) p a q b) (decide (a.drop k = b.drop k)) := by
  induction d with
  | zero =>
    intro k hk
    have h1 : a.drop k = [] := List.drop_of_length_le (by omega)
    have h2 : b.drop k = [] := List.drop_of_length_le (by omega)
    rw [h1, h2]
    exact Ev.step (f := fun _ => some true) (fun r => by simp only [sextonref04_Same.l0]; rw [if_neg (by omega)]) (Ev.now _)
  | succ d ih =>
    intro k hk
    have ha : k < a.length := by omega
    have hb : k < b.length := by omega
    have e1 : a.drop k = a[k] :: a.drop (k + 1) := List.drop_eq_getElem_cons ha
    have e2 : b.drop k = b[k] :: b.drop (k + 1) := List.drop_eq_getElem_cons hb
    by_cases he : a[k] = b[k]
    · refine Ev.step (f := fun r => sextonref04_Same.l0 r ((k + 1 : Nat) : Int) p a q b) (fun r => ?_) ?_
      · simp only [sextonref04_Same.l0]
        rw [if_pos (by omega), if_pos (by omega), if_pos (by omega), rd_W a k ha, rd_W b k hb, he, if_neg (by simp), wrap_at (by omega) (by omega)]
        rfl
      · have := ih (k + 1) (by omega)
        rw [e1, e2, he]
        simp only [List.cons.injEq, true_and]
        exact this
    · refine Ev.step (f := fun _ => some false) (fun r => ?_) ?_
      · simp only [sextonref04_Same.l0]
        rw [if_pos (by omega), if_pos (by omega), if_pos (by omega), rd_W a k ha, rd_W b k hb, if_pos ?_]
        by_cases h0 : a[k].f0 = b[k].f0
        · have h1 : ¬ a[k].f1.toList = b[k].f1.toList := fun h => he (by
            have := toList_inj h
            revert h0 this
            generalize a[k] = x; generalize b[k] = y
            intro h0 h1; cases x; cases y; simp_all)
          simp [h0, h1]
        · simp [h0]
      · rw [e1, e2, decide_eq_false (fun h => he (List.cons.inj h).1)]
        exact Ev.now _
theorem same_ev (p q : List ByteArray) (a b : List S40) (hp : p.length ≤ 9223372036854775806) (ha : a.length ≤ 9223372036854775806) : Ev (fun r => sextonref04_Same.f r p a q b) (decide (p = q ∧ a = b)) := by
  have ht := refTexts p q hp
  unfold sextonref04_Same.f
  refine Ev.bind ht ?_
  by_cases h1 : p = q
  · refine Ev.congr (f := fun r => sextonref04_Same.j0 r ((a.length : Int) != (b.length : Int)) p a q b) (fun r => by rw [if_pos (by simp [h1])]) ?_
    by_cases h2 : a.length = b.length
    · refine Ev.step (f := fun r => sextonref04_Same.l0 r ((0 : Nat) : Int) p a q b) (fun r => by simp only [sextonref04_Same.j0]; rw [if_neg (by simp [h2])]; rfl) ?_
      have := same_l0 p q a b h2 ha a.length 0 (by omega)
      simpa [h1] using this
    · rw [decide_eq_false (fun h => h2 (by rw [h.2]))]
      exact Ev.step (f := fun _ => some false) (fun r => by simp only [sextonref04_Same.j0]; rw [if_pos (by simp; omega)]) (Ev.now _)
  · rw [decide_eq_false (fun h : p = q ∧ a = b => h1 h.1)]
    refine Ev.congr (f := fun r => sextonref04_Same.j0 r true p a q b) (fun r => by rw [if_neg (by simp [h1])]) ?_
    exact Ev.step (f := fun _ => some false) (fun r => by simp only [sextonref04_Same.j0]; rw [if_pos trivial]) (Ev.now _)
theorem same_yes (p : List ByteArray) (a : List S40) (hp : p.length ≤ 9223372036854775806) (ha : a.length ≤ 9223372036854775806) : Ev (fun r => sextonref04_Same.f r p a p a) true := by
  have := same_ev p p a a hp ha
  simpa using this

end Go.Proofs.Ytoibofhmlokglaa.P
/-
  Layer 4's reference, told plainly: Check, Read, Write, Sync, Own.
-/
namespace Go.Proofs.Ytoibofhmlokglaa.P
open Go.RowKit Go.Proofs.CodecPlain Go.Proofs.YtoibofhmlokglaaW.PrintWords Go.Proofs.YtoibofhmlokglaaW.PrintLast Go.Proofs.Plain

theorem any_drop {α : Type} (p : α → Bool) (l : List α) (k : Nat) (h : k < l.length) : (l.drop k).any p = (p l[k] || (l.drop (k + 1)).any p) := by
  rw [List.drop_eq_getElem_cons h, List.any_cons]
theorem check_l1 (l0 : List ByteArray) (l1 : List S40) (hl : l1.length ≤ 100) (d : Nat) : ∀ k : Nat, k + d = l1.length → Ev (fun r => sextonref04_Check.l1 r (k : Int) l0 l1) (!((l1.drop k).any (oddW l0.length))) := by
  induction d with
  | zero =>
    intro k hk
    rw [List.drop_of_length_le (by omega)]
    exact Ev.step (f := fun _ => some true) (fun r => by simp only [sextonref04_Check.l1]; rw [if_neg (by omega)]) (Ev.now _)
  | succ d ih =>
    intro k hk
    have h : k < l1.length := by omega
    rw [any_drop _ _ _ h]
    by_cases h1 : l1[k].f0 < 0
    · rw [show oddW l0.length l1[k] = true by unfold oddW; rw [decide_eq_true h1]; rfl]
      exact Ev.step (f := fun _ => some false) (fun r => by simp only [sextonref04_Check.l1]; rw [if_pos (by omega), if_pos (by omega), rd_W l1 k h, if_pos h1]) (Ev.now _)
    by_cases h2 : l1[k].f0 ≥ (l0.length : Int)
    · rw [show oddW l0.length l1[k] = true by unfold oddW; rw [decide_eq_true h2]; simp]
      exact Ev.step (f := fun _ => some false) (fun r => by simp only [sextonref04_Check.l1]; rw [if_pos (by omega), if_pos (by omega), rd_W l1 k h, if_neg h1, if_pos h2]) (Ev.now _)
    by_cases h3 : (l1[k].f1.size : Int) > 256
    · rw [show oddW l0.length l1[k] = true by unfold oddW longS; rw [decide_eq_true (show 256 < l1[k].f1.size by omega)]; simp]
      exact Ev.step (f := fun _ => some false) (fun r => by simp only [sextonref04_Check.l1]; rw [if_pos (by omega), if_pos (by omega), rd_W l1 k h, if_neg h1, if_neg h2, if_pos h3]) (Ev.now _)
    rw [show oddW l0.length l1[k] = false by unfold oddW longS; rw [decide_eq_false h1, decide_eq_false h2, decide_eq_false (show ¬ 256 < l1[k].f1.size by omega)]; rfl, Bool.false_or]
    refine Ev.step (f := fun r => sextonref04_Check.l1 r ((k + 1 : Nat) : Int) l0 l1) (fun r => ?_) (ih (k + 1) (by omega))
    simp only [sextonref04_Check.l1]
    rw [if_pos (by omega), if_pos (by omega), rd_W l1 k h, if_neg h1, if_neg h2, if_neg h3, wrap_at (by omega) (by omega)]
    rfl
theorem check_l0 (l0 : List ByteArray) (l1 : List S40) (hl : l1.length ≤ 100) (h0 : l0.length ≤ 200) (d : Nat) : ∀ k : Nat, k + d = l0.length → Ev (fun r => sextonref04_Check.l0 r (k : Int) l0 l1) (!((l0.drop k).any longS) && !(l1.any (oddW l0.length))) := by
  induction d with
  | zero =>
    intro k hk
    rw [List.drop_of_length_le (by omega)]
    refine Ev.step (f := fun r => sextonref04_Check.l1 r ((0 : Nat) : Int) l0 l1) (fun r => by simp only [sextonref04_Check.l0]; rw [if_neg (by omega)]; rfl) ?_
    have := check_l1 l0 l1 hl l1.length 0 (by omega)
    simpa using this
  | succ d ih =>
    intro k hk
    have h : k < l0.length := by omega
    rw [any_drop _ _ _ h]
    by_cases h3 : (l0[k].size : Int) > 256
    · rw [show longS l0[k] = true by unfold longS; exact decide_eq_true (by omega)]
      exact Ev.step (f := fun _ => some false) (fun r => by simp only [sextonref04_Check.l0]; rw [if_pos (by omega), if_pos (by omega), rd_str l0 k h, if_pos h3]) (Ev.now _)
    rw [show longS l0[k] = false by unfold longS; exact decide_eq_false (by omega), Bool.false_or]
    refine Ev.step (f := fun r => sextonref04_Check.l0 r ((k + 1 : Nat) : Int) l0 l1) (fun r => ?_) (ih (k + 1) (by omega))
    simp only [sextonref04_Check.l0]
    rw [if_pos (by omega), if_pos (by omega), rd_str l0 k h, if_neg h3, wrap_at (by omega) (by omega)]
    rfl
theorem refCheck (l0 : List ByteArray) (l1 : List S40) : Ev (fun k => sextonref04_Check.f k l0 l1) (checkB l0 l1) := by
  unfold sextonref04_Check.f checkB
  by_cases h1 : (l0.length : Int) < 1
  · rw [decide_eq_false (show ¬ 1 ≤ l0.length by omega)]
    simp only [if_pos h1, Bool.false_and]
    exact Ev.step (f := fun _ => some false) (fun r => by simp only [sextonref04_Check.j0]; rw [if_pos trivial]) (Ev.now _)
  by_cases h2 : (l0.length : Int) > 200
  · rw [decide_eq_false (show ¬ l0.length ≤ 200 by omega)]
    simp only [if_neg h1, if_pos h2, Bool.and_false, Bool.false_and]
    exact Ev.step (f := fun _ => some false) (fun r => by simp only [sextonref04_Check.j0]; rw [if_pos trivial]) (Ev.now _)
  by_cases h3 : (l1.length : Int) > 100
  · rw [decide_eq_false (show ¬ l1.length ≤ 100 by omega)]
    simp only [if_neg h1, if_neg h2, decide_eq_true h3, Bool.and_false, Bool.false_and]
    exact Ev.step (f := fun _ => some false) (fun r => by simp only [sextonref04_Check.j0]; rw [if_pos trivial]) (Ev.now _)
  rw [decide_eq_true (show 1 ≤ l0.length by omega), decide_eq_true (show l0.length ≤ 200 by omega), decide_eq_true (show l1.length ≤ 100 by omega)]
  simp only [if_neg h1, if_neg h2, decide_eq_false h3, Bool.true_and]
  refine Ev.step (f := fun r => sextonref04_Check.l0 r ((0 : Nat) : Int) l0 l1) (fun r => by simp only [sextonref04_Check.j0]; rw [if_neg (by decide)]; rfl) ?_
  have := check_l0 l0 l1 (by omega) (by omega) l0.length 0 (by omega)
  simpa using this

theorem says_l0 (l0 : List ByteArray) (l1 : List S40) (hl : l1.length ≤ 100) (a : Nat) (hx : ∀ x ∈ l1, 0 ≤ x.f0) (d : Nat) : ∀ (k : Nat) (b : List ByteArray) (i : Nat), k + d = l1.length → a < b.length → Ev (fun r => sextonref04_says.l0 r (a : Int) (rdOf ByteArray.empty b (a : Int)) (k : Int) l0 l1) (rdOf ByteArray.empty (applyW (fun _ => true) i (l1.drop k) b) (a : Int)) := by
  induction d with
  | zero =>
    intro k b i hk ha
    rw [List.drop_of_length_le (by omega)]
    exact Ev.step (f := fun _ => some (rdOf ByteArray.empty b (a : Int))) (fun r => by simp only [sextonref04_says.l0]; rw [if_neg (by omega)]) (Ev.now _)
  | succ d ih =>
    intro k b i hk ha
    have h : k < l1.length := by omega
    have h0 := hx _ (List.getElem_mem h)
    rw [List.drop_eq_getElem_cons h]
    simp only [applyW, if_true]
    have := ih (k + 1) (b.set (l1[k].f0).toNat l1[k].f1) (i + 1) (by omega) (by simpa using ha)
    by_cases he : l1[k].f0 = (a : Int)
    · have e1 : rdOf ByteArray.empty (b.set (l1[k].f0).toNat l1[k].f1) (a : Int) = l1[k].f1 := by
        rw [rdOf_set _ _ _ _ h0 (by omega) (by omega), if_pos he.symm]
      rw [e1] at this
      refine Ev.step (f := fun r => sextonref04_says.l0 r (a : Int) l1[k].f1 ((k + 1 : Nat) : Int) l0 l1) (fun r => ?_) this
      simp only [sextonref04_says.l0]
      rw [if_pos (by omega), if_pos (by omega), rd_W l1 k h, if_pos he, wrap_at (by omega) (by omega)]
      rfl
    · have e1 : rdOf ByteArray.empty (b.set (l1[k].f0).toNat l1[k].f1) (a : Int) = rdOf ByteArray.empty b (a : Int) := by
        unfold rdOf
        rw [List.getD_eq_getElem?_getD, List.getD_eq_getElem?_getD, List.getElem?_set, if_neg (by omega)]
      rw [e1] at this
      refine Ev.step (f := fun r => sextonref04_says.l0 r (a : Int) (rdOf ByteArray.empty b (a : Int)) ((k + 1 : Nat) : Int) l0 l1) (fun r => ?_) this
      simp only [sextonref04_says.l0]
      rw [if_pos (by omega), if_pos (by omega), rd_W l1 k h, if_neg he, wrap_at (by omega) (by omega)]
      rfl
theorem refSays {l0 : List ByteArray} {l1 : List S40} (h : checkB l0 l1 = true) (a : Nat) (ha : a < l0.length) : Ev (fun k => sextonref04_says.f k l0 l1 (a : Int)) (rdOf ByteArray.empty (applyW (fun _ => true) 0 l1 l0) (a : Int)) := by
  obtain ⟨_, _, h3, _, h5⟩ := check_len h
  have := says_l0 l0 l1 h3 a (fun x hx => (h5 x hx).1) l1.length 0 l0 0 (by omega) ha
  rw [List.drop_zero] at this
  refine Ev.congr (fun k => ?_) this
  unfold sextonref04_says.f
  rw [if_pos (by omega), if_pos (by omega)]
  rfl
theorem refRead (l0 : List ByteArray) (l1 : List S40) (a : Int) : Ev (fun k => sextonref04_Read.f k l0 l1 a) (readV l0 l1 a) := by
  refine Ev.bind (refCheck l0 l1) ?_
  unfold readV
  by_cases h1 : checkB l0 l1 = true
  rotate_left
  · rw [if_pos (by simpa using h1)]
    simp only [if_neg h1]
    exact Ev.now _
  rw [if_neg (by simp [h1])]
  simp only [if_pos h1]
  by_cases h2 : a < 0
  · rw [if_pos (.inl h2)]
    simp only [if_pos h2]
    exact Ev.now _
  by_cases h3 : a ≥ (l0.length : Int)
  · rw [if_pos (.inr h3)]
    simp only [if_neg h2, if_pos h3]
    exact Ev.now _
  rw [if_neg (by omega)]
  simp only [if_neg h2, if_neg h3]
  obtain ⟨n, rfl⟩ : ∃ n : Nat, a = n := ⟨a.toNat, by omega⟩
  exact Ev.bind (refSays h1 n (by omega)) (Ev.now _)
theorem refOwnD (l0 : List ByteArray) (l1 : List S40) (h0 : l0.length ≤ 1000000000) (h1 : l1.length ≤ 1000000000) : sextonref04_Own.f l0 l1 = some (l0, l1) := by
  unfold sextonref04_Own.f
  rw [refOwn l0 (by omega), Option.bind_some, if_pos (by simp; omega)]
  simp
theorem refWrite (l0 : List ByteArray) (l1 : List S40) (a : Int) (s : ByteArray) : Ev (fun k => sextonref04_Write.f k l0 l1 a s) (writeV l0 l1 a s) := by
  refine Ev.bind (refCheck l0 l1) ?_
  unfold writeV
  by_cases h1 : checkB l0 l1 = true
  rotate_left
  · rw [if_pos (by simpa using h1)]
    simp only [if_neg h1]
    exact Ev.now _
  rw [if_neg (by simp [h1])]
  simp only [if_pos h1]
  obtain ⟨c1, c2, c3, _, _⟩ := check_len h1
  by_cases h2 : a < 0 ∨ a ≥ (l0.length : Int)
  · rw [if_pos h2]
    refine Ev.congr (f := fun k => sextonref04_Write.j0 k a s true l0 l1) (fun k => ?_) (Ev.step (f := fun _ => some ([], [], 40)) (fun k => by simp only [sextonref04_Write.j0]; rw [if_pos trivial]) (Ev.now _))
    by_cases h3 : a < 0
    · rw [if_pos h3]
    · rw [if_neg h3, decide_eq_true (by omega)]
  rw [if_neg h2]
  refine Ev.congr (f := fun k => sextonref04_Write.j0 k a s false l0 l1) (fun k => by rw [if_neg (by omega), decide_eq_false (by omega)]) ?_
  by_cases h3 : (s.size : Int) > 256
  · rw [if_pos (show longS s = true by unfold longS; exact decide_eq_true (by omega))]
    exact Ev.step (f := fun _ => some ([], [], 1)) (fun k => by simp only [sextonref04_Write.j0]; rw [if_neg (by decide), if_pos h3]) (Ev.now _)
  rw [if_neg (show ¬ longS s = true by unfold longS; simp; omega)]
  by_cases h4 : (l1.length : Int) ≥ 100
  · rw [if_pos (show l1.length = 100 by omega)]
    exact Ev.step (f := fun _ => some ([], [], 41)) (fun k => by simp only [sextonref04_Write.j0]; rw [if_neg (by decide), if_neg h3, if_pos h4]) (Ev.now _)
  rw [if_neg (show ¬ l1.length = 100 by omega)]
  refine Ev.step (f := fun _ => some (l0, l1 ++ [⟨a, s⟩], 0)) (fun k => ?_) (Ev.now _)
  simp only [sextonref04_Write.j0]
  rw [if_neg (by decide), if_neg h3, if_neg h4, refOwnD l0 l1 (by omega) (by omega), Option.bind_some, if_pos (by simp; omega)]
theorem sync_l0 {l0 : List ByteArray} {l1 : List S40} (h : checkB l0 l1 = true) (d : Nat) : ∀ k : Nat, k + d = l0.length → Ev (fun r => sextonref04_Sync.l0 r (k : Int) l0 l1 ((applyW (fun _ => true) 0 l1 l0).take k)) (applyW (fun _ => true) 0 l1 l0, ([] : List S40), 0) := by
  obtain ⟨_, c2, _⟩ := check_len h
  have hlen := applyW_length (fun _ => true) l1 0 l0
  induction d with
  | zero =>
    intro k hk
    rw [List.take_of_length_le (by omega)]
    exact Ev.step (f := fun _ => some (applyW (fun _ => true) 0 l1 l0, ([] : List S40), 0)) (fun r => by simp only [sextonref04_Sync.l0]; rw [if_neg (by omega)]) (Ev.now _)
  | succ d ih =>
    intro k hk
    have hk' : k < (applyW (fun _ => true) 0 l1 l0).length := by omega
    have := ih (k + 1) (by omega)
    rw [List.take_succ_eq_append_getElem hk'] at this
    refine Ev.step (f := fun r => (sextonref04_says.f r l0 l1 (k : Int)).bind fun t => sextonref04_Sync.l0 r ((k + 1 : Nat) : Int) l0 l1 ((applyW (fun _ => true) 0 l1 l0).take k ++ [t])) (fun r => ?_) (Ev.bind (refSays h k (by omega)) ?_)
    · simp only [sextonref04_Sync.l0]
      rw [if_pos (by omega), wrap_at (by omega) (by omega)]
      congr 1
      funext t
      rw [if_pos (by rw [List.length_take]; omega)]
      rfl
    · rw [rd_str _ k hk']
      exact this
theorem refSync (l0 : List ByteArray) (l1 : List S40) : Ev (fun k => sextonref04_Sync.f k l0 l1) (doneV (fun _ => true) l0 l1) := by
  refine Ev.bind (refCheck l0 l1) ?_
  unfold doneV
  by_cases h1 : checkB l0 l1 = true
  · rw [if_pos h1]
    simp only [if_pos h1]
    have := sync_l0 h1 l0.length 0 (by omega)
    rw [List.take_zero] at this
    exact this
  · rw [if_neg h1]
    simp only [if_neg h1]
    exact Ev.now _
/-- What is not Big has few blocks and writes. -/
theorem big_small {l0 : List ByteArray} {l1 : List S40} (h : Ev (fun k => sextonref04_Big.f k l0 l1) false) : l0.length ≤ 250 ∧ l1.length ≤ 150 := by
  have tail : ∀ x : Int, (if (l0.length : Int) > 250 then (some true) else (if (l1.length : Int) > 150 then (some true) else (some (decide (x > 400))))) = some false → l0.length ≤ 250 ∧ l1.length ≤ 150 := fun x e => by
    split at e
    · cases e
    · split at e
      · cases e
      · omega
  have hl1 : ∀ (n k : Nat) (x : Int), sextonref04_Big.l1 n x (k : Int) l0 l1 = some false → l0.length ≤ 250 ∧ l1.length ≤ 150 := by
    intro n
    induction n with
    | zero => intro k x e; simp [sextonref04_Big.l1] at e
    | succ n ih =>
      intro k x e
      simp only [sextonref04_Big.l1] at e
      split at e
      · rename_i h1
        split at e
        · split at e
          · rw [wrap_at (by omega) (by omega)] at e
            exact ih (k + 1) _ (by rw [show ((k + 1 : Nat) : Int) = (k : Int) + 1 by omega]; exact e)
          · cases e
        · exact tail _ e
      · exact tail _ e
  have hl0 : ∀ (n k : Nat) (x : Int), sextonref04_Big.l0 n x (k : Int) l0 l1 = some false → l0.length ≤ 250 ∧ l1.length ≤ 150 := by
    intro n
    have hj : ∀ (n : Nat) (x : Int), sextonref04_Big.j1 n x l0 l1 = some false → l0.length ≤ 250 ∧ l1.length ≤ 150 := fun n x e => by
      cases n with
      | zero => simp [sextonref04_Big.j1] at e
      | succ n =>
        simp only [sextonref04_Big.j1] at e
        exact hl1 n 0 x e
    induction n with
    | zero => intro k x e; simp [sextonref04_Big.l0] at e
    | succ n ih =>
      intro k x e
      simp only [sextonref04_Big.l0] at e
      split at e
      · rename_i h1
        split at e
        · split at e
          · rw [wrap_at (by omega) (by omega)] at e
            exact ih (k + 1) _ (by rw [show ((k + 1 : Nat) : Int) = (k : Int) + 1 by omega]; exact e)
          · cases e
        · exact hj _ _ e
      · exact hj _ _ e
  obtain ⟨K, e⟩ := h
  exact hl0 K 0 0 (e K (Nat.le_refl _))
end Go.Proofs.Ytoibofhmlokglaa.P
/-
  'Big' of chapter 4's reference ends.
-/
namespace Go.Proofs.Ytoibofhmlokglaa.P
open Go.RowKit Go.Proofs.YtoibofhmlokglaaW.PrintWords Go.Proofs.YtoibofhmlokglaaW.PrintLast Go.Proofs.Plain

theorem big_l1 (l0 : List ByteArray) (l1 : List S40) (d : Nat) : ∀ (k : Nat) (x : Int), k + d = l1.length → ∃ b, Ev (fun r => sextonref04_Big.l1 r x (k : Int) l0 l1) b := by
  have tail : ∀ x : Int, ∃ b, (if (l0.length : Int) > 250 then (some true) else (if (l1.length : Int) > 150 then (some true) else (some (decide (x > 400))))) = some b := by
    intro x
    split
    · exact ⟨_, rfl⟩
    · split <;> exact ⟨_, rfl⟩
  induction d with
  | zero =>
    intro k x hk
    obtain ⟨b, hb⟩ := tail x
    exact ⟨b, Ev.step (f := fun _ => some b) (fun r => by simp only [sextonref04_Big.l1]; rw [if_neg (by omega)]; exact hb) (Ev.now _)⟩
  | succ d ih =>
    intro k x hk
    by_cases hl : (l1.length : Int) ≤ 150
    · obtain ⟨b, hb⟩ := ih (k + 1) (mx x (((rd_T40 l1 (k : Int)).f1).size : Int)) (by omega)
      refine ⟨b, Ev.step (f := fun r => sextonref04_Big.l1 r (mx x (((rd_T40 l1 (k : Int)).f1).size : Int)) ((k + 1 : Nat) : Int) l0 l1) (fun r => ?_) hb⟩
      simp only [sextonref04_Big.l1]
      rw [if_pos (by omega), if_pos hl, if_pos (by omega), wrap_at (by omega) (by omega)]
      rfl
    · obtain ⟨b, hb⟩ := tail x
      exact ⟨b, Ev.step (f := fun _ => some b) (fun r => by simp only [sextonref04_Big.l1]; rw [if_pos (by omega), if_neg hl]; exact hb) (Ev.now _)⟩

theorem big_l0 (l0 : List ByteArray) (l1 : List S40) (d : Nat) : ∀ (k : Nat) (x : Int), k + d = l0.length → ∃ b, Ev (fun r => sextonref04_Big.l0 r x (k : Int) l0 l1) b := by
  have tail : ∀ x : Int, ∃ b, Ev (fun r => sextonref04_Big.j1 r x l0 l1) b := by
    intro x
    obtain ⟨b, hb⟩ := big_l1 l0 l1 l1.length 0 x (by omega)
    exact ⟨b, Ev.step (f := fun r => sextonref04_Big.l1 r x ((0 : Nat) : Int) l0 l1) (fun r => by simp only [sextonref04_Big.j1]; rfl) hb⟩
  induction d with
  | zero =>
    intro k x hk
    obtain ⟨b, hb⟩ := tail x
    exact ⟨b, Ev.step (f := fun r => sextonref04_Big.j1 r x l0 l1) (fun r => by simp only [sextonref04_Big.l0]; rw [if_neg (by omega)]) hb⟩
  | succ d ih =>
    intro k x hk
    by_cases hl : (l0.length : Int) ≤ 250
    · obtain ⟨b, hb⟩ := ih (k + 1) (mx x ((rdOf ByteArray.empty l0 (k : Int)).size : Int)) (by omega)
      refine ⟨b, Ev.step (f := fun r => sextonref04_Big.l0 r (mx x ((rdOf ByteArray.empty l0 (k : Int)).size : Int)) ((k + 1 : Nat) : Int) l0 l1) (fun r => ?_) hb⟩
      simp only [sextonref04_Big.l0]
      rw [if_pos (by omega), if_pos hl, if_pos (by omega), wrap_at (by omega) (by omega)]
      rfl
    · obtain ⟨b, hb⟩ := tail x
      exact ⟨b, Ev.step (f := fun r => sextonref04_Big.j1 r x l0 l1) (fun r => by simp only [sextonref04_Big.l0]; rw [if_pos (by omega), if_neg hl]) hb⟩
theorem big_ends (l0 : List ByteArray) (l1 : List S40) : ∃ b, Ev (fun k => sextonref04_Big.f k l0 l1) b := by
  obtain ⟨b, hb⟩ := big_l0 l0 l1 l0.length 0 0 (by omega)
  exact ⟨b, Ev.congr (f := fun r => sextonref04_Big.l0 r 0 ((0 : Nat) : Int) l0 l1) (fun k => rfl) hb⟩
end Go.Proofs.Ytoibofhmlokglaa.P
/-
  What can be read as data reads as a value of its kind: kind by kind, for the rows of the statements.
-/
namespace Go.Proofs.Ytoibofhmlokglaa.Opens
open Go.ChangeShapes Go.WideShapes Go.ChangeAt Go.RowKit Go.Proofs.YtoibofhmlokglaaW.PrintWords

def Opens (P : Program) {α : Type} (kd : Kd α) (ok : α → Prop) (t : TypeId) : Prop :=
  ∀ {H : Type} (enc : TypeId × Value → H) (W : World) (base : Nat) (spare : Nat → Bool) (held : Bool) (fuel : Nat) (cs : List Value) (x : DataW H × List MemPlace),
    DataW.trod enc P W base spare held fuel t cs = some x → ∃ a, kd.K W a cs ∧ ok a
def OkInt (k : IntKind) (n : Int) : Prop := (Lit.int k n).wf = true
def OkStr (s : ByteArray) : Prop := s.size ≤ maxLen
def OkList {α : Type} (ok : α → Prop) (l : List α) : Prop := l.length ≤ maxLen ∧ ∀ a ∈ l, ok a
def OkTrue {α : Type} (_ : α) : Prop := True
def OkPair {α β : Type} (p : α → Prop) (q : β → Prop) (x : α × β) : Prop := p x.1 ∧ q x.2

section
variable {P : Program} {t e : TypeId}
theorem opens_int {k : IntKind} (ht : P.underlying t = some (.int k)) : Opens P (Kd.int k) (OkInt k) t := by
  intro H enc W base spare held fuel cs x h
  obtain ⟨n, rfl, _, hw⟩ := DataW.trod_int ht h
  exact ⟨n, rfl, hw⟩
theorem opens_bool (ht : P.underlying t = some .bool) : Opens P Kd.bool OkTrue t := by
  intro H enc W base spare held fuel cs x h
  obtain ⟨b, rfl, _⟩ := DataW.trod_bool ht h
  exact ⟨b, rfl, trivial⟩
theorem opens_string (ht : P.underlying t = some .string) : Opens P Kd.string OkStr t := by
  intro H enc W base spare held fuel cs x h
  obtain ⟨s, rfl, _, hs⟩ := DataW.trod_string ht h
  exact ⟨s, rfl, hs⟩
theorem addr_add (a : Addr) (x i : Nat) : a.add (x + i) = (a.add x).add i := by
  unfold Addr.add
  by_cases h1 : x = 0 <;> by_cases h2 : i = 0 <;> simp [h1, h2, Nat.add_assoc]
theorem opens_slice {α : Type} {kd : Kd α} {ok : α → Prop} (ht : P.underlying t = some (.slice e)) (hc : P.cellsOf e = kd.sz) (he : Opens P kd ok e) : Opens P (Kd.slice e kd) (OkList ok) t := by
  intro H enc W base spare held fuel cs x h
  rcases DataW.trod_slice ht h with ⟨rfl, _⟩ | ⟨a, len, cap, elems, rest, n, _, rfl, _, hb, hl, hm, hlen, hel, _, _⟩
  · exact ⟨[], ⟨none, 0, rfl, Nat.le_refl _, rfl, by simp, fun h0 => absurd h0 (Nat.lt_irrefl 0)⟩, by simp [maxLen], by simp⟩
  · have each : ∀ i, i < len → ∃ (y : α) (c : List Value), c.length = kd.sz ∧ kd.K W y c ∧ ok y ∧ ∀ j u, c[j]? = some u → W.cell? ((a.add (i * kd.sz)).add j) = some u := by
      intro i hi
      have h1 := hel i hi
      rw [hc, List.getElem?_eq_getElem (by omega), Option.bind_eq_some_iff] at h1
      obtain ⟨c, hcs, hy⟩ := h1
      obtain ⟨y, hK, hok⟩ := he enc W base spare held n c _ hy
      obtain ⟨_, hcl, hcell⟩ := World.cells?_some hcs
      refine ⟨y, c, kd.K_len hK, hK, hok, fun j u hj => ?_⟩
      have hjl : j < kd.sz := by have := (List.getElem?_eq_some_iff.1 hj).1; rw [kd.K_len hK] at this; exact this
      rw [hcell j hjl, hj]
    have pick : ∃ l : List α, l.length = len ∧ ∀ i y, l[i]? = some y → ∃ c : List Value, c.length = kd.sz ∧ kd.K W y c ∧ ok y ∧ ∀ j u, c[j]? = some u → W.cell? ((a.add (i * kd.sz)).add j) = some u := by
      have key : ∀ m, m ≤ len → ∃ l : List α, l.length = m ∧ ∀ i y, l[i]? = some y → ∃ c : List Value, c.length = kd.sz ∧ kd.K W y c ∧ ok y ∧ ∀ j u, c[j]? = some u → W.cell? ((a.add (i * kd.sz)).add j) = some u := by
        intro m
        induction m with
        | zero => intro _; exact ⟨[], rfl, fun i y h => by simp at h⟩
        | succ m ih =>
          intro hm
          obtain ⟨l, hl1, hl2⟩ := ih (by omega)
          obtain ⟨y, c, h1, h2, h3, h4⟩ := each m (by omega)
          refine ⟨l ++ [y], by simp [hl1], fun i z hz => ?_⟩
          rcases Nat.lt_or_ge i l.length with hi | hi
          · rw [List.getElem?_append_left hi] at hz
            exact hl2 i z hz
          · have : i = l.length := by
              have := (List.getElem?_eq_some_iff.1 hz).1
              rw [List.length_append, List.length_singleton] at this
              omega
            subst this
            have hz' : y = z := by simpa using hz
            subst hz'
            exact ⟨c, h1, h2, h3, by rw [hl1]; exact h4⟩
      exact key len (Nat.le_refl _)
    obtain ⟨l, hl1, hl2⟩ := pick
    subst hl1
    refine ⟨l, ⟨some a, cap, rfl, hl, rfl, by unfold maxLen at hm; omega, fun _ => ⟨a, rfl, fun j p hj => ?_⟩⟩, by omega, fun y hy => ?_⟩
    · obtain ⟨c, h1, h2, _, h4⟩ := hl2 j p hj
      refine ⟨c, h1, h2, fun i u hu => ?_⟩
      rw [← h4 i u hu, addr_add]
    · obtain ⟨i, hi⟩ := List.getElem?_of_mem hy
      obtain ⟨_, _, _, h3, _⟩ := hl2 i y hi
      exact h3

/-- The same of fields in line, from one place of the cells on. -/
def OpensF (P : Program) {α : Type} (kd : Kd α) (ok : α → Prop) (fs : List Field) (off len : Nat) : Prop :=
  ∀ {H : Type} (enc : TypeId × Value → H) (W : World) (base : Nat) (spare : Nat → Bool) (held : Bool) (n : Nat) (cs : List Value),
    (∀ f ∈ fs, ∃ y, DataW.trod enc P W base spare held n f.type ((cs.drop f.offset).take (P.cellsOf f.type)) = some y) → off + len ≤ cs.length → ∃ a, kd.K W a ((cs.drop off).take len) ∧ ok a
theorem opensF_one {α : Type} {kd : Kd α} {ok : α → Prop} {f : Field} {t off len : Nat} (h : Opens P kd ok t) (ht : f.type = t) (ho : f.offset = off) (hl : P.cellsOf t = len) : OpensF P kd ok [f] off len := by
  intro H enc W base spare held n cs hf _
  obtain ⟨y, hy⟩ := hf f List.mem_cons_self
  subst ht ho hl
  exact h enc W base spare held n _ y hy
theorem opensF_pair {α β : Type} {kd : Kd α} {kd' : Kd β} {ok : α → Prop} {ok' : β → Prop} {f : Field} {fs : List Field} {t off len len' : Nat} (h : Opens P kd ok t) (ht : f.type = t) (ho : f.offset = off) (hl : P.cellsOf t = len)
    (h' : OpensF P kd' ok' fs (off + len) len') : OpensF P (Kd.pair kd kd') (OkPair ok ok') (f :: fs) off (len + len') := by
  intro H enc W base spare held n cs hf hle
  obtain ⟨y, hy⟩ := hf f List.mem_cons_self
  subst ht ho hl
  obtain ⟨a, ha, hoka⟩ := h enc W base spare held n _ y hy
  obtain ⟨b, hb, hokb⟩ := h' enc W base spare held n cs (fun g hg => hf g (List.mem_cons_of_mem _ hg)) (by omega)
  refine ⟨(a, b), ⟨_, _, ?_, ha, hb⟩, hoka, hokb⟩
  rw [List.take_add, List.drop_drop]
theorem opens_struct {α β : Type} {kd : Kd α} {ok : α → Prop} {fs : Array Field} {len : Nat} (ht : P.underlying t = some (.struct fs)) (hc : P.cellsOf t = len) (h : OpensF P kd ok fs.toList 0 len) (f : β → α) (g : α → β) (hg : ∀ a, f (g a) = a) :
    Opens P (Kd.iso kd f) (fun b => ok (f b)) t := by
  intro H enc W base spare held fuel cs x hx
  obtain ⟨xs, n, _, _, hl, hlen, hf⟩ := DataW.trod_struct ht hx
  obtain ⟨a, ha, hok⟩ := h enc W base spare held n cs (fun fd hfd => by
    obtain ⟨i, hi⟩ := List.getElem?_of_mem hfd
    have h1 := hf i fd (by simpa using hi)
    have hi2 : i < xs.length := by
      have := (List.getElem?_eq_some_iff.1 hi).1
      rw [hlen]; simpa using this
    rw [List.getElem?_eq_getElem hi2] at h1
    exact ⟨_, h1⟩) (by omega)
  refine ⟨g a, ?_, by show ok (f (g a)); rw [hg]; exact hok⟩
  show kd.K W (f (g a)) cs
  rw [hg]
  have : (cs.drop 0).take len = cs := by rw [List.drop_zero]; exact List.take_of_length_le (by omega)
  rw [this] at ha
  exact ha
theorem opens_struct_id {α : Type} {kd : Kd α} {ok : α → Prop} {fs : Array Field} {len : Nat} (ht : P.underlying t = some (.struct fs)) (hc : P.cellsOf t = len) (h : OpensF P kd ok fs.toList 0 len) : Opens P kd ok t :=
  opens_struct ht hc h id id (fun _ => rfl)

/-! ### a parameter, opened -/
variable {H : Type} {enc : TypeId × Value → H} {W : World} {base : Nat} {spare : Nat → Bool} {held : Bool} {r : Reach} {b0 : Nat} {v : Value} {d : DataW H} {ps : List MemPlace}
theorem param_slice {α : Type} {kd : Kd α} {ok : List α → Prop} (ht : P.underlying t = some (.slice e)) (h : Opens P (Kd.slice e kd) ok t) (hval : Value.okWide P W r b0 t v) (hd : DataW.Trod enc P W base spare held t v d ps) :
    ∃ A c l, v = .slice A l.length c ∧ l.length ≤ c ∧ Kd.C kd W A l.length l ∧ ok l := by
  obtain ⟨a, len, cap, rfl⟩ := okWide_slice ht hval
  obtain ⟨fuel, hf⟩ := hd
  obtain ⟨l, ⟨A, c, hcs, hl, hC⟩, hok⟩ := h enc W base spare held fuel _ _ hf
  have : Value.slice a len cap = Value.slice A l.length c := by simpa [Value.cells] using hcs
  exact ⟨A, c, l, this, hl, hC, hok⟩
theorem param_struct {α : Type} {kd : Kd α} {ok : α → Prop} {fs : Array Field} (ht : P.underlying t = some (.struct fs)) (h : Opens P kd ok t) (hval : Value.okWide P W r b0 t v) (hd : DataW.Trod enc P W base spare held t v d ps) :
    ∃ cs a, v = .agg cs ∧ kd.K W a cs.toList ∧ ok a := by
  obtain ⟨cs, rfl, hsz⟩ := okWide_struct ht hval
  obtain ⟨fuel, hf⟩ := hd
  obtain ⟨a, hK, hok⟩ := h enc W base spare held fuel _ _ hf
  exact ⟨cs, a, rfl, hK, hok⟩
theorem agg_eq {cs : Array Value} {l : List Value} (h : cs.toList = l) : cs = l.toArray := by rw [← h]
end
end Go.Proofs.Ytoibofhmlokglaa.Opens
