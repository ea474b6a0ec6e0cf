/-
  Texts of the claim MsgMakes, joined.
-/
import Derived.Test.YtfejidinfcmfjaaPx0
import Derived.Test.YtfejidinfcmfjaaCMsgMakesb
import Derived.OwnWalk
import Derived.LoopTactic
import Derived.Test.YtfejidinfcmfjaaCMsgMakesc
import Derived.WalkKit
import Derived.ProofKit
import Derived.OpenShut
import Derived.ShutString
import Derived.ChangeOld
import Derived.Below
import Derived.SizedLaws
import Derived.ChangeArms
import Derived.Test.YtfejidinfcmfjaaWWords
-- Written by a program of this session (xprint.py) over the kit's print.py.
namespace Go.Proofs.Ytfejidinfcmfjaa.P
open Go.RowKit Go.Proofs.YtfejidinfcmfjaaW.PrintWords Go.Proofs.YtfejidinfcmfjaaW.PrintLast Go.Proofs.YtfejidinfcmfjaaW.PrintMore
attribute [local go_sem] max2_int min2_int max_two min_two max_three min_three max_four min_four   -- for this text's walks alone
set_option linter.unusedVariables false
set_option linter.unusedSimpArgs false

/-! ### sextonref23_Prepare: function 44 -/
def sextonref23_Prepare.f (a0 : Int) (a1 : Int) (a2 : Int) (a3 : Int) (l4 : List ByteArray) : Option (Int × Int × Int × Int × Int × Int × Int × List ByteArray) := (sextonref01_Own.f l4).bind fun t437 => (some (1, a0, a1, a2, 0, a3, 0, t437))
set_option maxHeartbeats 8000000 in
set_option maxRecDepth 100000 in
theorem sextonref23_Prepare.calls (a0 : Int) (a1 : Int) (a2 : Int) (a3 : Int) (A4 : Option Addr) (c4 : Nat) (l4 : List ByteArray) (r1 : Int) (r2 : Int) (r3 : Int) (r4 : Int) (r5 : Int) (r6 : Int) (r7 : Int) (r8 : List ByteArray) (w : World) (hr4 : Kd.C Kd.string w A4 l4.length l4) (hc4 : l4.length ≤ c4) (h : sextonref23_Prepare.f a0 a1 a2 a3 l4 = some (r1, r2, r3, r4, r5, r6, r7, r8)) :
    Calls Try.prog 44 #[.int .i64 a0, .int .i64 a1, .int .i64 a2, .int .i64 a3, .slice A4 l4.length c4] w fun e w' => ∃ v7_ : Value, e = .returned (.agg #[.int .i64 r1, .int .i64 r2, .int .i64 r3, .int .i64 r4, .int .i64 r5, .int .i64 r6, .int .i64 r7, v7_]) ∧ Kd.R Kd.string 9 w' w.heap.size (fun _ => True) v7_ r8 ∧ Below w.heap.size w w' := by
  have hu29 := Try.underlying29
  have HR4 := Aside0.mk hr4
  have HC4 := Aside0.mk hc4
  clear hr4 hc4
  have HB := Aside0.mk (Below.refl w.heap.size w)
  have H : ((sextonref01_Own.f l4).bind fun t437 => (some (1, a0, a1, a2, 0, a3, 0, t437))) = some (r1, r2, r3, r4, r5, r6, r7, r8) := h
  clear h
  replace H := Option.bind_eq_some_iff.mp H
  obtain ⟨t437, A60, H⟩ := H
  replace H : (some (1, a0, a1, a2, 0, a3, 0, t437)) = some (r1, r2, r3, r4, r5, r6, r7, r8) := H
  have A6 := Aside0.mk A60
  clear A60
  simp only [Option.some.injEq, Prod.mk.injEq] at H
  obtain ⟨rfl, rfl, rfl, rfl, rfl, rfl, rfl, rfl⟩ := H
  go_enter Try.func44, Try.ntmps44
  go_wp2_with (first | ((with_reducible refine gate_dst (N := 10) rfl ?_); refine box_event ?hg (N := 10) ?hd (cs := #[.int .i64 0, .int .i64 0, .int .i64 0, .int .i64 0, .int .i64 0, .int .i64 0, .int .i64 0, .slice none 0 0]) (t := 29) ?hr ?_; (case hd => rfl); (case hg => rfl); (case hr => first | (go_simp; done) | (go_simp; rfl)); intro gb436 hg w7 hbox hb; have n0_ := Aside0.mk (below_step (by repeat (first | (with_reducible first | exact HB.out | apply below_alloc | apply pw_below_drewN | apply below_drew1) | exact HB.out)) hb); have n1_ := Aside0.mk (hbox); have n2_ := Aside0.mk ((by rw [hg]; exact (below_size (by repeat (first | (with_reducible first | exact HB.out | apply below_alloc | apply pw_below_drewN | apply below_drew1) | exact HB.out))) : w.heap.size ≤ gb436)); have n3_ := Aside0.mk ((by rw [hg]; exact (below_size (by repeat (first | (with_reducible first | exact HB.out | apply below_alloc | apply pw_below_drewN | apply below_drew1) | exact HB.out))) : w.heap.size ≤ gb436)); clear HB; have HB := n0_; have BK436 := n1_; have GW436 := n2_; have GE436 := n3_; clear n0_ n1_ n2_ n3_; clear hb hbox hg) | ((with_reducible refine gate_callee (f := 73) rfl ?_); refine goesL_ (some 16) rfl rfl Try.func73 (by kernel_rfl) rfl #[.slice A4 l4.length c4] rfl (by (try simp only [List.map_toArray, List.map_cons, List.map_nil]); first | done | rfl | (simp only [List.length_drop, List.length_take]; rfl)) ?_; (with_reducible refine (sextonref01_Own.calls _ _ l4 t437 _ ?side1 ?side2 A6.out).mono ?_); (case side1 => repeat (first | exact (Kd.C_below HR4.out HB.out) | (with_reducible refine Kd.C_alloc ?_ _) | (with_reducible refine Kd.C_drewN ?_ _) | (with_reducible refine Kd.C_drew ?_))); (case side2 => exact HC4.out); rintro e w8 ⟨v438, rfl, ho0, hb⟩; refine ⟨_, rfl, ?_⟩; have n0_ := Aside0.mk (Kd.R_lower ho0 (below_size (by repeat (first | (with_reducible first | exact HB.out | apply below_alloc | apply pw_below_drewN | apply below_drew1 | refine below_set ?_ GE436.out) | exact HB.out)))); have n1_ := Aside0.mk (blk_below (g := gb436) (o := .cells #[.int .i64 0, .int .i64 0, .int .i64 0, .int .i64 0, .int .i64 0, .int .i64 0, .int .i64 0, .slice none 0 0] 29 (0, 0)) (by (with_reducible repeat (first | refine blk_drewN ?_ _ | refine blk_drew ?_ | refine blk_alloc ?_ _)); exact BK436.out) hb); have n2_ := Aside0.mk (below_step (by repeat (first | (with_reducible first | exact HB.out | apply below_alloc | apply pw_below_drewN | apply below_drew1 | refine below_set ?_ GE436.out) | exact HB.out)) hb); clear BK436; clear HB; have HO439 := n0_; have BK436 := n1_; have HB := n2_; clear n0_ n1_ n2_; (try clear hb); (try clear hb2); (try clear hk); (try clear hi); (try clear ho0); obtain ⟨Ao9, co9, eo9⟩ := Kd.R_slice HO439.out; subst eo9; have hcz10_0 : w8.cell? ⟨gb436, 0, none⟩ = some (.int .i64 0) := (blk_cell BK436.out 0).trans rfl; have hcz10_1 : w8.cell? ⟨gb436, 1, none⟩ = some (.int .i64 0) := (blk_cell BK436.out 1).trans rfl; have hcz10_2 : w8.cell? ⟨gb436, 2, none⟩ = some (.int .i64 0) := (blk_cell BK436.out 2).trans rfl; have hcz10_3 : w8.cell? ⟨gb436, 3, none⟩ = some (.int .i64 0) := (blk_cell BK436.out 3).trans rfl; have hcz10_4 : w8.cell? ⟨gb436, 4, none⟩ = some (.int .i64 0) := (blk_cell BK436.out 4).trans rfl; have hcz10_5 : w8.cell? ⟨gb436, 5, none⟩ = some (.int .i64 0) := (blk_cell BK436.out 5).trans rfl; have hcz10_6 : w8.cell? ⟨gb436, 6, none⟩ = some (.int .i64 0) := (blk_cell BK436.out 6).trans rfl; have hcz10_7 : w8.cell? ⟨gb436, 7, none⟩ = some (.slice none 0 0) := (blk_cell BK436.out 7).trans rfl; have hfz10_0 := blk_frozen BK436.out 0; have hfz10_1 := blk_frozen BK436.out 1; have hfz10_2 := blk_frozen BK436.out 2; have hfz10_3 := blk_frozen BK436.out 3; have hfz10_4 := blk_frozen BK436.out 4; have hfz10_5 := blk_frozen BK436.out 5; have hfz10_6 := blk_frozen BK436.out 6; have hfz10_7 := blk_frozen BK436.out 7))
  refine bodyPost_ret (results_cell_row rfl _ _ gb436 29 #[.int .i64 1, .int .i64 a0, .int .i64 a1, .int .i64 a2, .int .i64 0, .int .i64 a3, .int .i64 0, .slice Ao9 t437.length co9] (0, 0) _ rfl (by (with_reducible repeat (first | refine blk_drewN ?_ _ | refine blk_drew ?_ | refine blk_alloc ?_ _)); refine blk_put (cs := #[.int .i64 1, .int .i64 a0, .int .i64 a1, .int .i64 a2, .int .i64 0, .int .i64 a3, .int .i64 0, .slice none 0 0]) ?_ 7 _ rfl; (with_reducible repeat (first | refine blk_drewN ?_ _ | refine blk_drew ?_ | refine blk_alloc ?_ _)); refine blk_put (cs := #[.int .i64 1, .int .i64 a0, .int .i64 a1, .int .i64 a2, .int .i64 0, .int .i64 a3, .int .i64 0, .slice none 0 0]) ?_ 6 _ rfl; (with_reducible repeat (first | refine blk_drewN ?_ _ | refine blk_drew ?_ | refine blk_alloc ?_ _)); refine blk_put (cs := #[.int .i64 1, .int .i64 a0, .int .i64 a1, .int .i64 a2, .int .i64 0, .int .i64 0, .int .i64 0, .slice none 0 0]) ?_ 5 _ rfl; (with_reducible repeat (first | refine blk_drewN ?_ _ | refine blk_drew ?_ | refine blk_alloc ?_ _)); refine blk_put (cs := #[.int .i64 1, .int .i64 a0, .int .i64 a1, .int .i64 a2, .int .i64 0, .int .i64 0, .int .i64 0, .slice none 0 0]) ?_ 4 _ rfl; (with_reducible repeat (first | refine blk_drewN ?_ _ | refine blk_drew ?_ | refine blk_alloc ?_ _)); refine blk_put (cs := #[.int .i64 1, .int .i64 a0, .int .i64 a1, .int .i64 0, .int .i64 0, .int .i64 0, .int .i64 0, .slice none 0 0]) ?_ 3 _ rfl; (with_reducible repeat (first | refine blk_drewN ?_ _ | refine blk_drew ?_ | refine blk_alloc ?_ _)); refine blk_put (cs := #[.int .i64 1, .int .i64 a0, .int .i64 0, .int .i64 0, .int .i64 0, .int .i64 0, .int .i64 0, .slice none 0 0]) ?_ 2 _ rfl; (with_reducible repeat (first | refine blk_drewN ?_ _ | refine blk_drew ?_ | refine blk_alloc ?_ _)); refine blk_put (cs := #[.int .i64 1, .int .i64 0, .int .i64 0, .int .i64 0, .int .i64 0, .int .i64 0, .int .i64 0, .slice none 0 0]) ?_ 1 _ rfl; (with_reducible repeat (first | refine blk_drewN ?_ _ | refine blk_drew ?_ | refine blk_alloc ?_ _)); refine blk_put (cs := #[.int .i64 0, .int .i64 0, .int .i64 0, .int .i64 0, .int .i64 0, .int .i64 0, .int .i64 0, .slice none 0 0]) ?_ 0 _ rfl; (with_reducible repeat (first | refine blk_drewN ?_ _ | refine blk_drew ?_ | refine blk_alloc ?_ _)); exact BK436.out) Try.underlying29 rfl (by kernel_rfl)) rfl ?_
  exact ⟨_, by first | rfl | (simp [errW_none, errW_some] <;> rfl) | (simp [*, errW_none, errW_some] <;> rfl), by (with_reducible repeat (first | apply Kd.R_alloc | apply Kd.R_drewN | apply Kd.R_drew)); exact Kd.R_mono (Kd.R_far (p := ⟨gb436, 7, none⟩) (Kd.R_far (p := ⟨gb436, 6, none⟩) (Kd.R_far (p := ⟨gb436, 5, none⟩) (Kd.R_far (p := ⟨gb436, 4, none⟩) (Kd.R_far (p := ⟨gb436, 3, none⟩) (Kd.R_far (p := ⟨gb436, 2, none⟩) (Kd.R_far (p := ⟨gb436, 1, none⟩) (Kd.R_far (p := ⟨gb436, 0, none⟩) (Kd.R_types HO439.out BK436.out (by decide)) (fun _ hk => hk.2) (.int .i64 1)) (fun _ hk => hk.2) (.int .i64 a0)) (fun _ hk => hk.2) (.int .i64 a1)) (fun _ hk => hk.2) (.int .i64 a2)) (fun _ hk => hk.2) (.int .i64 0)) (fun _ hk => hk.2) (.int .i64 a3)) (fun _ hk => hk.2) (.int .i64 0)) (fun _ hk => hk.2) (.slice Ao9 t437.length co9)) (fun _ hk => trivial), by repeat (first | (with_reducible first | exact HB.out | apply below_alloc | apply pw_below_drewN | apply below_drew1 | refine below_set ?_ GE436.out) | exact HB.out)⟩

end Go.Proofs.Ytfejidinfcmfjaa.P
-- Written by a program of this session (xprint.py) over the kit's print.py.
namespace Go.Proofs.Ytfejidinfcmfjaa.P
open Go.RowKit Go.Proofs.YtfejidinfcmfjaaW.PrintWords Go.Proofs.YtfejidinfcmfjaaW.PrintLast Go.Proofs.YtfejidinfcmfjaaW.PrintMore
attribute [local go_sem] max2_int min2_int max_two min_two max_three min_three max_four min_four   -- for this text's walks alone
set_option linter.unusedVariables false
set_option linter.unusedSimpArgs false

/-! ### sextonref23_Cast: function 45 -/
def sextonref23_Cast.f (a0 : Int) (a1 : Int) (a2_0 : Int) (a2_1 : Int) (a2_2 : Int) (l2_3 : List ByteArray) : Option (Int × Int × Int × Int × Int × Int × Int × List ByteArray) := (sextonref01_Own.f l2_3).bind fun t442 => (some (3, a2_0, a0, a1, a2_1, a2_2, 0, t442))
def sextonref23_Cast.T1 : Bool × List (List Nat × List Nat) := (true, [([], []), ([0], [0]), ([], []), ([], []), ([], []), ([4], [4]), ([], []), ([6], [6]), ([], []), ([8], [8]), ([9], [9]), ([1, 2, 3, 5, 7, 10], [1, 2, 3, 5, 7, 10]), ([11, 10, 0, 1, 2, 3, 4, 5, 6, 7, 8, 9, 10, 11], [11])])
def sextonref23_Cast.B1 : List Nat := [0, 1, 0, 0, 0, 16, 0, 64, 0, 256, 768, 2047, 4095]
theorem sextonref23_Cast.tab1 : rtab .any (opsOf Try.f45 1) = sextonref23_Cast.T1 := by kernel_rfl
theorem sextonref23_Cast.bits1 : waitsOk sextonref23_Cast.T1.2 sextonref23_Cast.B1 = true := by kernel_rfl
set_option maxHeartbeats 8000000 in
set_option maxRecDepth 100000 in
theorem sextonref23_Cast.calls (a0 : Int) (a1 : Int) (a2_0 : Int) (a2_1 : Int) (a2_2 : Int) (A2_3 : Option Addr) (c2_3 : Nat) (l2_3 : List ByteArray) (r1 : Int) (r2 : Int) (r3 : Int) (r4 : Int) (r5 : Int) (r6 : Int) (r7 : Int) (r8 : List ByteArray) (w : World) (hr2_3 : Kd.C Kd.string w A2_3 l2_3.length l2_3) (hc2_3 : l2_3.length ≤ c2_3) (h : sextonref23_Cast.f a0 a1 a2_0 a2_1 a2_2 l2_3 = some (r1, r2, r3, r4, r5, r6, r7, r8)) :
    Calls Try.prog 45 #[.int .i64 a0, .int .i64 a1, .agg #[.int .i64 a2_0, .int .i64 a2_1, .int .i64 a2_2, .slice A2_3 l2_3.length c2_3]] w fun e w' => ∃ v7_ : Value, e = .returned (.agg #[.int .i64 r1, .int .i64 r2, .int .i64 r3, .int .i64 r4, .int .i64 r5, .int .i64 r6, .int .i64 r7, v7_]) ∧ Kd.R Kd.string 9 w' w.heap.size (fun _ => True) v7_ r8 ∧ Below w.heap.size w w' := by
  have hu54 := Try.underlying54
  have hu29 := Try.underlying29
  have HR2_3 := Aside0.mk hr2_3
  have HC2_3 := Aside0.mk hc2_3
  clear hr2_3 hc2_3
  have HB := Aside0.mk (Below.refl w.heap.size w)
  have H : ((sextonref01_Own.f l2_3).bind fun t442 => (some (3, a2_0, a0, a1, a2_1, a2_2, 0, t442))) = some (r1, r2, r3, r4, r5, r6, r7, r8) := h
  clear h
  replace H := Option.bind_eq_some_iff.mp H
  obtain ⟨t442, A40, H⟩ := H
  replace H : (some (3, a2_0, a0, a1, a2_1, a2_2, 0, t442)) = some (r1, r2, r3, r4, r5, r6, r7, r8) := H
  have A4 := Aside0.mk A40
  clear A40
  simp only [Option.some.injEq, Prod.mk.injEq] at H
  obtain ⟨rfl, rfl, rfl, rfl, rfl, rfl, rfl, rfl⟩ := H
  go_enter Try.func45, Try.ntmps45
  try go_wp2_with (first | ((with_reducible refine gate_dst (N := 5) rfl ?_); refine box_event ?hg (N := 5) ?hd (cs := #[.int .i64 a2_0, .int .i64 a2_1, .int .i64 a2_2, .slice A2_3 l2_3.length c2_3]) (t := 54) ?hr ?_; (case hd => rfl); (case hg => rfl); (case hr => first | (go_simp; done) | (go_simp; rfl)); intro gb440 hg w5 hbox hb; have n0_ := Aside0.mk (below_step (by repeat (first | (with_reducible first | exact HB.out | apply below_alloc | apply pw_below_drewN | apply below_drew1) | exact HB.out)) hb); have n1_ := Aside0.mk (hbox); have n2_ := Aside0.mk ((by rw [hg]; exact (below_size (by repeat (first | (with_reducible first | exact HB.out | apply below_alloc | apply pw_below_drewN | apply below_drew1) | exact HB.out))) : w.heap.size ≤ gb440)); have n3_ := Aside0.mk ((by rw [hg]; exact (below_size (by repeat (first | (with_reducible first | exact HB.out | apply below_alloc | apply pw_below_drewN | apply below_drew1) | exact HB.out))) : w.heap.size ≤ gb440)); clear HB; have HB := n0_; have BK440 := n1_; have GW440 := n2_; have GE440 := n3_; clear n0_ n1_ n2_ n3_; clear hb hbox hg) | ((with_reducible refine gate_dst (N := 6) rfl ?_); refine box_event ?hg (N := 6) ?hd (cs := #[.int .i64 0, .int .i64 0, .int .i64 0, .int .i64 0, .int .i64 0, .int .i64 0, .int .i64 0, .slice none 0 0]) (t := 29) ?hr ?_; (case hd => rfl); (case hg => rfl); (case hr => first | (go_simp; done) | (go_simp; rfl)); intro gb441 hg w6 hbox hb; have n0_ := Aside0.mk (blk_below (g := gb440) (o := .cells #[.int .i64 a2_0, .int .i64 a2_1, .int .i64 a2_2, .slice A2_3 l2_3.length c2_3] 54 (0, 0)) (by (with_reducible repeat (first | refine blk_drewN ?_ _ | refine blk_drew ?_ | refine blk_alloc ?_ _)); exact BK440.out) hb); have n1_ := Aside0.mk (below_step (by repeat (first | (with_reducible first | exact HB.out | apply below_alloc | apply pw_below_drewN | apply below_drew1 | refine below_set ?_ GE440.out) | exact HB.out)) hb); have n2_ := Aside0.mk (hbox); have n3_ := Aside0.mk ((by rw [hg]; exact (below_size (by repeat (first | (with_reducible first | exact HB.out | apply below_alloc | apply pw_below_drewN | apply below_drew1 | refine below_set ?_ GE440.out) | exact HB.out))) : w.heap.size ≤ gb441)); have n4_ := Aside0.mk ((by rw [hg]; exact (below_size (by repeat (first | (with_reducible first | exact HB.out | apply below_alloc | apply pw_below_drewN | apply below_drew1 | refine below_set ?_ GE440.out) | exact HB.out))) : w.heap.size ≤ gb441)); have n5_ := Aside0.mk ((by rw [hg]; exact Nat.ne_of_lt (blk_lt (g := gb440) (o := .cells #[.int .i64 a2_0, .int .i64 a2_1, .int .i64 a2_2, .slice A2_3 l2_3.length c2_3] 54 (0, 0)) (by (with_reducible repeat (first | refine blk_drewN ?_ _ | refine blk_drew ?_ | refine blk_alloc ?_ _)); exact BK440.out)) : gb440 ≠ gb441)); have n6_ := Aside0.mk ((by rw [hg]; exact Nat.ne_of_gt (blk_lt (g := gb440) (o := .cells #[.int .i64 a2_0, .int .i64 a2_1, .int .i64 a2_2, .slice A2_3 l2_3.length c2_3] 54 (0, 0)) (by (with_reducible repeat (first | refine blk_drewN ?_ _ | refine blk_drew ?_ | refine blk_alloc ?_ _)); exact BK440.out)) : gb441 ≠ gb440)); clear BK440; clear HB; have BK440 := n0_; have HB := n1_; have BK441 := n2_; have GW441 := n3_; have GE441 := n4_; have NB440_441 := n5_; have NB441_440 := n6_; clear n0_ n1_ n2_ n3_ n4_ n5_ n6_; clear hb hbox hg))
  have n0_ := Aside0.mk (blk_drew BK440.out)
  have n1_ := Aside0.mk (blk_drew BK441.out)
  have n2_ := Aside0.mk (below_drew1 HB.out)
  clear BK440
  clear BK441
  clear HB
  have BK440 := n0_
  have BK441 := n1_
  have HB := n2_
  clear n0_ n1_ n2_
  refine start_ (n := 13) (S := fun w' => w'.cell? ⟨gb440, 0, none⟩ = some (.int .i64 a2_0) ∧ w'.cell? ⟨gb440, 1, none⟩ = some (.int .i64 a2_1) ∧ w'.cell? ⟨gb440, 2, none⟩ = some (.int .i64 a2_2) ∧ w'.cell? ⟨gb440, 3, none⟩ = some (.slice A2_3 l2_3.length c2_3)) (ds := []) #[false, false, false, false, false, false, false, false, false, false, false, false, false] (by kernel_rfl) rfl rfl ⟨(blk_cell BK440.out 0).trans rfl, (blk_cell BK440.out 1).trans rfl, (blk_cell BK440.out 2).trans rfl, (blk_cell BK440.out 3).trans rfl⟩ (fun hHeld => ?_); refine with_tabW sextonref23_Cast.tab1 sextonref23_Cast.bits1 (fun HT_ HW_ => ?_)
  generalize w6.drew = w7 at BK440 BK441 HB hHeld ⊢
  refine pure_ (i := 0) (N := some 7) (v := ?_) (a' := ?_) #[true, false, false, false, false, false, false, false, false, false, false, false, false] rfl rfl (any_of HT_.out (by kernel_rfl)) (fun _ _ _ h => h) (Or.inl ⟨by rfl, ?_⟩) ?_ ?_
  rotate_left
  · intro w'
    go_simp
    with_reducible rfl
  rotate_left
  · simp only [Act.put, List.setIfInBounds_toArray, List.set_cons_zero, List.set_cons_succ, i64_w, i32_w]
    rfl
  refine pure_ (i := 2) (N := some 9) (v := ?_) (a' := ?_) #[true, false, true, false, false, false, false, false, false, false, false, false, false] rfl rfl (any_of HT_.out (by kernel_rfl)) (fun _ _ _ h => h) (Or.inl ⟨by rfl, ?_⟩) ?_ ?_
  rotate_left
  · intro w'
    go_simp
    with_reducible rfl
  rotate_left
  · simp only [Act.put, List.setIfInBounds_toArray, List.set_cons_zero, List.set_cons_succ, i64_w, i32_w]
    rfl
  refine pure_ (i := 3) (N := some 10) (v := ?_) (a' := ?_) #[true, false, true, true, false, false, false, false, false, false, false, false, false] rfl rfl (any_of HT_.out (by kernel_rfl)) (fun _ _ _ h => h) (Or.inl ⟨by rfl, ?_⟩) ?_ ?_
  rotate_left
  · intro w'
    go_simp
    with_reducible rfl
  rotate_left
  · simp only [Act.put, List.setIfInBounds_toArray, List.set_cons_zero, List.set_cons_succ, i64_w, i32_w]
    rfl
  refine pure_ (i := 4) (N := some 11) (v := ?_) (a' := ?_) #[true, false, true, true, true, false, false, false, false, false, false, false, false] rfl rfl (any_of HT_.out (by kernel_rfl)) (fun _ _ _ h => h) (Or.inl ⟨by rfl, ?_⟩) ?_ ?_
  rotate_left
  · intro w'
    go_simp
    with_reducible rfl
  rotate_left
  · simp only [Act.put, List.setIfInBounds_toArray, List.set_cons_zero, List.set_cons_succ, i64_w, i32_w]
    rfl
  refine pure_ (i := 6) (N := some 13) (v := ?_) (a' := ?_) #[true, false, true, true, true, false, true, false, false, false, false, false, false] rfl rfl (any_of HT_.out (by kernel_rfl)) (fun _ _ _ h => h) (Or.inl ⟨by rfl, ?_⟩) ?_ ?_
  rotate_left
  · intro w'
    go_simp
    with_reducible rfl
  rotate_left
  · simp only [Act.put, List.setIfInBounds_toArray, List.set_cons_zero, List.set_cons_succ, i64_w, i32_w]
    rfl
  refine pure_ (i := 8) (N := some 15) (v := ?_) (a' := ?_) #[true, false, true, true, true, false, true, false, true, false, false, false, false] rfl rfl (any_of HT_.out (by kernel_rfl)) (fun _ _ _ h => h) (Or.inl ⟨by rfl, ?_⟩) ?_ ?_
  rotate_left
  · intro w'
    go_simp
    with_reducible rfl
  rotate_left
  · simp only [Act.put, List.setIfInBounds_toArray, List.set_cons_zero, List.set_cons_succ, i64_w, i32_w]
    rfl
  refine take_ (i := 1) (N := some 8) (v := ?_) (a' := ?_) #[true, true, true, true, true, false, true, false, true, false, false, false, false] rfl rfl (take_ofW HT_.out HW_.out (by kernel_rfl)) (fun _ _ _ h => h) (Or.inl ⟨by rfl, ?_⟩) hHeld ?_ ?_
  rotate_left
  · rintro w' ⟨s0, s1, s2, s3⟩
    go_simp
    with_reducible rfl
  rotate_left
  · simp only [Act.put, List.setIfInBounds_toArray, List.set_cons_zero, List.set_cons_succ, i64_w, i32_w]
    rfl
  refine take_ (i := 5) (N := some 12) (v := ?_) (a' := ?_) #[true, true, true, true, true, true, true, false, true, false, false, false, false] rfl rfl (take_ofW HT_.out HW_.out (by kernel_rfl)) (fun _ _ _ h => h) (Or.inl ⟨by rfl, ?_⟩) hHeld ?_ ?_
  rotate_left
  · rintro w' ⟨s0, s1, s2, s3⟩
    go_simp
    with_reducible rfl
  rotate_left
  · simp only [Act.put, List.setIfInBounds_toArray, List.set_cons_zero, List.set_cons_succ, i64_w, i32_w]
    rfl
  refine take_ (i := 7) (N := some 14) (v := ?_) (a' := ?_) #[true, true, true, true, true, true, true, true, true, false, false, false, false] rfl rfl (take_ofW HT_.out HW_.out (by kernel_rfl)) (fun _ _ _ h => h) (Or.inl ⟨by rfl, ?_⟩) hHeld ?_ ?_
  rotate_left
  · rintro w' ⟨s0, s1, s2, s3⟩
    go_simp
    with_reducible rfl
  rotate_left
  · simp only [Act.put, List.setIfInBounds_toArray, List.set_cons_zero, List.set_cons_succ, i64_w, i32_w]
    rfl
  refine take_ (i := 9) (N := some 16) (v := ?_) (a' := ?_) #[true, true, true, true, true, true, true, true, true, true, false, false, false] rfl rfl (take_ofW HT_.out HW_.out (by kernel_rfl)) (fun _ _ _ h => h) (Or.inl ⟨by rfl, ?_⟩) hHeld ?_ ?_
  rotate_left
  · rintro w' ⟨s0, s1, s2, s3⟩
    go_simp
    with_reducible rfl
  rotate_left
  · simp only [Act.put, List.setIfInBounds_toArray, List.set_cons_zero, List.set_cons_succ, i64_w, i32_w]
    rfl
  refine one_ (i := 10) (N := some 17) #[true, true, true, true, true, true, true, true, true, true, true, false, false] rfl rfl (one_of HT_.out (by kernel_rfl)) (by decide) (fun K hK => ?_)
  refine goes_ Try.func73 (by kernel_rfl) rfl #[.slice A2_3 l2_3.length c2_3] (by rfl) rfl rfl (by (try simp only [List.map_toArray, List.map_cons, List.map_nil]); first | done | rfl | (simp only [List.length_drop, List.length_take]; rfl)) ?_
  with_reducible refine (sextonref01_Own.calls _ _ l2_3 t442 _ ?side1 ?side2 A4.out).mono ?_
  (case side1 => repeat (first | exact (Kd.C_below HR2_3.out HB.out) | (with_reducible refine Kd.C_alloc ?_ _) | (with_reducible refine Kd.C_drewN ?_ _) | (with_reducible refine Kd.C_drew ?_)))
  (case side2 => exact HC2_3.out)
  rintro e w8 ⟨v443, rfl, ho0, hb⟩
  refine ⟨_, rfl, ?_⟩
  have n0_ := Aside0.mk (Kd.R_lower ho0 (below_size (by repeat (first | (with_reducible first | exact HB.out | apply below_alloc | apply pw_below_drewN | apply below_drew1 | refine below_set ?_ GE440.out | refine below_set ?_ GE441.out) | exact HB.out))))
  have n1_ := Aside0.mk (blk_below (g := gb440) (o := .cells #[.int .i64 a2_0, .int .i64 a2_1, .int .i64 a2_2, .slice A2_3 l2_3.length c2_3] 54 (0, 0)) (by (with_reducible repeat (first | refine blk_drewN ?_ _ | refine blk_drew ?_ | refine blk_alloc ?_ _)); exact BK440.out) hb)
  have n2_ := Aside0.mk (blk_below (g := gb441) (o := .cells #[.int .i64 0, .int .i64 0, .int .i64 0, .int .i64 0, .int .i64 0, .int .i64 0, .int .i64 0, .slice none 0 0] 29 (0, 0)) (by (with_reducible repeat (first | refine blk_drewN ?_ _ | refine blk_drew ?_ | refine blk_alloc ?_ _)); exact BK441.out) hb)
  have n3_ := Aside0.mk (below_step (by repeat (first | (with_reducible first | exact HB.out | apply below_alloc | apply pw_below_drewN | apply below_drew1 | refine below_set ?_ GE440.out | refine below_set ?_ GE441.out) | exact HB.out)) hb)
  clear BK440
  clear BK441
  clear HB
  have HO444 := n0_
  have BK440 := n1_
  have BK441 := n2_
  have HB := n3_
  clear n0_ n1_ n2_ n3_
  (try clear hb)
  (try clear hb2)
  (try clear hk)
  (try clear hi)
  (try clear ho0)
  obtain ⟨Ao9, co9, eo9⟩ := Kd.R_slice HO444.out
  (first | subst eo9 | (injection eo9 with f1_ f2_ f3_; have f4_ := f1_.symm; have f5_ := f3_.symm; clear f1_ f2_ f3_; subst f4_; subst f5_))
  refine hK.out _ _ ⟨(blk_cell BK440.out 0).trans rfl, (blk_cell BK440.out 1).trans rfl, (blk_cell BK440.out 2).trans rfl, (blk_cell BK440.out 3).trans rfl⟩ (fun hHeld => ?_)
  clear hK K
  refine norm_ (a' := ?_) ?_ ?_
  rotate_left
  · show Act.put _ (some 17) _ = _
    simp only [Act.put, List.setIfInBounds_toArray, List.set_cons_zero, List.set_cons_succ, i64_w, i32_w]
    rfl
  refine pure_ (i := 11) (N := some 18) (v := ?_) (a' := ?_) #[true, true, true, true, true, true, true, true, true, true, true, true, false] rfl rfl (any_of HT_.out (by kernel_rfl)) (fun _ _ _ h => h) (Or.inl ⟨by rfl, ?_⟩) ?_ ?_
  rotate_left
  · intro w'
    go_simp
    with_reducible rfl
  rotate_left
  · simp only [Act.put, List.setIfInBounds_toArray, List.set_cons_zero, List.set_cons_succ, i64_w, i32_w]
    rfl
  refine one_ (i := 12) (N := none) #[true, true, true, true, true, true, true, true, true, true, true, true, true] rfl rfl (one_of HT_.out (by kernel_rfl)) (by decide) (fun K hK => ?_)
  have hs10 : w8.cell? ⟨gb441, 0, none⟩ = some (.int .i64 0) := (blk_cell BK441.out 0).trans rfl
  have hfs10 := blk_frozen BK441.out 0
  have hns10_0 := NB440_441.out
  have hms10_0 := NB441_440.out
  have hs11 : w8.cell? ⟨gb441, 1, none⟩ = some (.int .i64 0) := (blk_cell BK441.out 1).trans rfl
  have hfs11 := blk_frozen BK441.out 1
  have hns11_0 := NB440_441.out
  have hms11_0 := NB441_440.out
  have hs12 : w8.cell? ⟨gb441, 2, none⟩ = some (.int .i64 0) := (blk_cell BK441.out 2).trans rfl
  have hfs12 := blk_frozen BK441.out 2
  have hns12_0 := NB440_441.out
  have hms12_0 := NB441_440.out
  have hs13 : w8.cell? ⟨gb441, 3, none⟩ = some (.int .i64 0) := (blk_cell BK441.out 3).trans rfl
  have hfs13 := blk_frozen BK441.out 3
  have hns13_0 := NB440_441.out
  have hms13_0 := NB441_440.out
  have hs14 : w8.cell? ⟨gb441, 4, none⟩ = some (.int .i64 0) := (blk_cell BK441.out 4).trans rfl
  have hfs14 := blk_frozen BK441.out 4
  have hns14_0 := NB440_441.out
  have hms14_0 := NB441_440.out
  have hs15 : w8.cell? ⟨gb441, 5, none⟩ = some (.int .i64 0) := (blk_cell BK441.out 5).trans rfl
  have hfs15 := blk_frozen BK441.out 5
  have hns15_0 := NB440_441.out
  have hms15_0 := NB441_440.out
  have hs16 : w8.cell? ⟨gb441, 6, none⟩ = some (.int .i64 0) := (blk_cell BK441.out 6).trans rfl
  have hfs16 := blk_frozen BK441.out 6
  have hns16_0 := NB440_441.out
  have hms16_0 := NB441_440.out
  have hs17 : w8.cell? ⟨gb441, 7, none⟩ = some (.slice none 0 0) := (blk_cell BK441.out 7).trans rfl
  have hfs17 := blk_frozen BK441.out 7
  have hns17_0 := NB440_441.out
  have hms17_0 := NB441_440.out
  refine skip_ (w1 := ?_) (by rfl) rfl ?_ ?_
  rotate_left
  · go_simp
    rfl
  refine hK.out _ _ ⟨((cell_far (p := ⟨gb441, _, none⟩) NB440_441.out _).trans (((cell_far (p := ⟨gb441, _, none⟩) NB440_441.out _).trans (((cell_far (p := ⟨gb441, _, none⟩) NB440_441.out _).trans (((cell_far (p := ⟨gb441, _, none⟩) NB440_441.out _).trans (((cell_far (p := ⟨gb441, _, none⟩) NB440_441.out _).trans (((cell_far (p := ⟨gb441, _, none⟩) NB440_441.out _).trans (((cell_far (p := ⟨gb441, _, none⟩) NB440_441.out _).trans (((cell_far (p := ⟨gb441, _, none⟩) NB440_441.out _).trans (hHeld.1)))))))))))))))), ((cell_far (p := ⟨gb441, _, none⟩) NB440_441.out _).trans (((cell_far (p := ⟨gb441, _, none⟩) NB440_441.out _).trans (((cell_far (p := ⟨gb441, _, none⟩) NB440_441.out _).trans (((cell_far (p := ⟨gb441, _, none⟩) NB440_441.out _).trans (((cell_far (p := ⟨gb441, _, none⟩) NB440_441.out _).trans (((cell_far (p := ⟨gb441, _, none⟩) NB440_441.out _).trans (((cell_far (p := ⟨gb441, _, none⟩) NB440_441.out _).trans (((cell_far (p := ⟨gb441, _, none⟩) NB440_441.out _).trans (hHeld.2.1)))))))))))))))), ((cell_far (p := ⟨gb441, _, none⟩) NB440_441.out _).trans (((cell_far (p := ⟨gb441, _, none⟩) NB440_441.out _).trans (((cell_far (p := ⟨gb441, _, none⟩) NB440_441.out _).trans (((cell_far (p := ⟨gb441, _, none⟩) NB440_441.out _).trans (((cell_far (p := ⟨gb441, _, none⟩) NB440_441.out _).trans (((cell_far (p := ⟨gb441, _, none⟩) NB440_441.out _).trans (((cell_far (p := ⟨gb441, _, none⟩) NB440_441.out _).trans (((cell_far (p := ⟨gb441, _, none⟩) NB440_441.out _).trans (hHeld.2.2.1)))))))))))))))), ((cell_far (p := ⟨gb441, _, none⟩) NB440_441.out _).trans (((cell_far (p := ⟨gb441, _, none⟩) NB440_441.out _).trans (((cell_far (p := ⟨gb441, _, none⟩) NB440_441.out _).trans (((cell_far (p := ⟨gb441, _, none⟩) NB440_441.out _).trans (((cell_far (p := ⟨gb441, _, none⟩) NB440_441.out _).trans (((cell_far (p := ⟨gb441, _, none⟩) NB440_441.out _).trans (((cell_far (p := ⟨gb441, _, none⟩) NB440_441.out _).trans (((cell_far (p := ⟨gb441, _, none⟩) NB440_441.out _).trans (hHeld.2.2.2))))))))))))))))⟩ (fun hHeld => ?_)
  clear hK K
  refine done_ (done_of HT_.out (by kernel_rfl)) ?_
  try go_wp2
  refine bodyPost_ret (results_cell_row rfl _ _ gb441 29 #[.int .i64 3, .int .i64 a2_0, .int .i64 a0, .int .i64 a1, .int .i64 a2_1, .int .i64 a2_2, .int .i64 0, .slice Ao9 t442.length co9] (0, 0) _ rfl (by (with_reducible repeat (first | refine blk_drewN ?_ _ | refine blk_drew ?_ | refine blk_alloc ?_ _)); refine blk_put (cs := #[.int .i64 3, .int .i64 a2_0, .int .i64 a0, .int .i64 a1, .int .i64 a2_1, .int .i64 a2_2, .int .i64 0, .slice none 0 0]) ?_ 7 _ rfl; (with_reducible repeat (first | refine blk_drewN ?_ _ | refine blk_drew ?_ | refine blk_alloc ?_ _)); refine blk_put (cs := #[.int .i64 3, .int .i64 a2_0, .int .i64 a0, .int .i64 a1, .int .i64 a2_1, .int .i64 a2_2, .int .i64 0, .slice none 0 0]) ?_ 6 _ rfl; (with_reducible repeat (first | refine blk_drewN ?_ _ | refine blk_drew ?_ | refine blk_alloc ?_ _)); refine blk_put (cs := #[.int .i64 3, .int .i64 a2_0, .int .i64 a0, .int .i64 a1, .int .i64 a2_1, .int .i64 0, .int .i64 0, .slice none 0 0]) ?_ 5 _ rfl; (with_reducible repeat (first | refine blk_drewN ?_ _ | refine blk_drew ?_ | refine blk_alloc ?_ _)); refine blk_put (cs := #[.int .i64 3, .int .i64 a2_0, .int .i64 a0, .int .i64 a1, .int .i64 0, .int .i64 0, .int .i64 0, .slice none 0 0]) ?_ 4 _ rfl; (with_reducible repeat (first | refine blk_drewN ?_ _ | refine blk_drew ?_ | refine blk_alloc ?_ _)); refine blk_put (cs := #[.int .i64 3, .int .i64 a2_0, .int .i64 a0, .int .i64 0, .int .i64 0, .int .i64 0, .int .i64 0, .slice none 0 0]) ?_ 3 _ rfl; (with_reducible repeat (first | refine blk_drewN ?_ _ | refine blk_drew ?_ | refine blk_alloc ?_ _)); refine blk_put (cs := #[.int .i64 3, .int .i64 a2_0, .int .i64 0, .int .i64 0, .int .i64 0, .int .i64 0, .int .i64 0, .slice none 0 0]) ?_ 2 _ rfl; (with_reducible repeat (first | refine blk_drewN ?_ _ | refine blk_drew ?_ | refine blk_alloc ?_ _)); refine blk_put (cs := #[.int .i64 3, .int .i64 0, .int .i64 0, .int .i64 0, .int .i64 0, .int .i64 0, .int .i64 0, .slice none 0 0]) ?_ 1 _ rfl; (with_reducible repeat (first | refine blk_drewN ?_ _ | refine blk_drew ?_ | refine blk_alloc ?_ _)); refine blk_put (cs := #[.int .i64 0, .int .i64 0, .int .i64 0, .int .i64 0, .int .i64 0, .int .i64 0, .int .i64 0, .slice none 0 0]) ?_ 0 _ rfl; (with_reducible repeat (first | refine blk_drewN ?_ _ | refine blk_drew ?_ | refine blk_alloc ?_ _)); exact BK441.out) Try.underlying29 rfl (by kernel_rfl)) rfl ?_
  exact ⟨_, by first | rfl | (simp [errW_none, errW_some] <;> rfl) | (simp [*, errW_none, errW_some] <;> rfl), by (with_reducible repeat (first | apply Kd.R_alloc | apply Kd.R_drewN | apply Kd.R_drew)); exact Kd.R_mono (Kd.R_far (p := ⟨gb441, 7, none⟩) (Kd.R_far (p := ⟨gb441, 6, none⟩) (Kd.R_far (p := ⟨gb441, 5, none⟩) (Kd.R_far (p := ⟨gb441, 4, none⟩) (Kd.R_far (p := ⟨gb441, 3, none⟩) (Kd.R_far (p := ⟨gb441, 2, none⟩) (Kd.R_far (p := ⟨gb441, 1, none⟩) (Kd.R_far (p := ⟨gb441, 0, none⟩) (Kd.R_types HO444.out BK441.out (by decide)) (fun _ hk => hk.2) (.int .i64 3)) (fun _ hk => hk.2) (.int .i64 a2_0)) (fun _ hk => hk.2) (.int .i64 a0)) (fun _ hk => hk.2) (.int .i64 a1)) (fun _ hk => hk.2) (.int .i64 a2_1)) (fun _ hk => hk.2) (.int .i64 a2_2)) (fun _ hk => hk.2) (.int .i64 0)) (fun _ hk => hk.2) (.slice Ao9 t442.length co9)) (fun _ hk => trivial), by repeat (first | (with_reducible first | exact HB.out | apply below_alloc | apply pw_below_drewN | apply below_drew1 | refine below_set ?_ GE440.out | refine below_set ?_ GE441.out) | exact HB.out)⟩

end Go.Proofs.Ytfejidinfcmfjaa.P
-- Written by a program of this session (xprint.py) over the kit's print.py.
namespace Go.Proofs.Ytfejidinfcmfjaa.P
open Go.RowKit Go.Proofs.YtfejidinfcmfjaaW.PrintWords Go.Proofs.YtfejidinfcmfjaaW.PrintLast Go.Proofs.YtfejidinfcmfjaaW.PrintMore
attribute [local go_sem] max2_int min2_int max_two min_two max_three min_three max_four min_four   -- for this text's walks alone
set_option linter.unusedVariables false
set_option linter.unusedSimpArgs false

/-! ### sextonref23_Ack: function 47 -/
def sextonref23_Ack.f (a0 : Int) (a1 : Int) (a2 : Int) (a3 : Int) : Option (Int × Int × Int × Int × Int × Int × Int × List ByteArray) := some (2, a0, a1, a2, 0, 0, a3, ([] : List ByteArray))
set_option maxHeartbeats 8000000 in
set_option maxRecDepth 100000 in
theorem sextonref23_Ack.calls (a0 : Int) (a1 : Int) (a2 : Int) (a3 : Int) (r1 : Int) (r2 : Int) (r3 : Int) (r4 : Int) (r5 : Int) (r6 : Int) (r7 : Int) (r8 : List ByteArray) (w : World) (h : sextonref23_Ack.f a0 a1 a2 a3 = some (r1, r2, r3, r4, r5, r6, r7, r8)) :
    Calls Try.prog 47 #[.int .i64 a0, .int .i64 a1, .int .i64 a2, .int .i64 a3] w fun e w' => ∃ v7_ : Value, e = .returned (.agg #[.int .i64 r1, .int .i64 r2, .int .i64 r3, .int .i64 r4, .int .i64 r5, .int .i64 r6, .int .i64 r7, v7_]) ∧ Kd.R Kd.string 9 w' w.heap.size (fun _ => True) v7_ r8 ∧ Below w.heap.size w w' := by
  have hu29 := Try.underlying29
  have HB := Aside0.mk (Below.refl w.heap.size w)
  have H : (some (2, a0, a1, a2, 0, 0, a3, ([] : List ByteArray))) = some (r1, r2, r3, r4, r5, r6, r7, r8) := h
  clear h
  simp only [Option.some.injEq, Prod.mk.injEq] at H
  obtain ⟨rfl, rfl, rfl, rfl, rfl, rfl, rfl, rfl⟩ := H
  go_enter Try.func47, Try.ntmps47
  go_wp2_with (first | ((with_reducible refine gate_dst (N := 8) rfl ?_); refine box_event ?hg (N := 8) ?hd (cs := #[.int .i64 0, .int .i64 0, .int .i64 0, .int .i64 0, .int .i64 0, .int .i64 0, .int .i64 0, .slice none 0 0]) (t := 29) ?hr ?_; (case hd => rfl); (case hg => rfl); (case hr => first | (go_simp; done) | (go_simp; rfl)); intro gb445 hg w5 hbox hb; have n0_ := Aside0.mk (below_step (by repeat (first | (with_reducible first | exact HB.out | apply below_alloc | apply pw_below_drewN | apply below_drew1) | exact HB.out)) hb); have n1_ := Aside0.mk (hbox); have n2_ := Aside0.mk ((by rw [hg]; exact (below_size (by repeat (first | (with_reducible first | exact HB.out | apply below_alloc | apply pw_below_drewN | apply below_drew1) | exact HB.out))) : w.heap.size ≤ gb445)); have n3_ := Aside0.mk ((by rw [hg]; exact (below_size (by repeat (first | (with_reducible first | exact HB.out | apply below_alloc | apply pw_below_drewN | apply below_drew1) | exact HB.out))) : w.heap.size ≤ gb445)); clear HB; have HB := n0_; have BK445 := n1_; have GW445 := n2_; have GE445 := n3_; clear n0_ n1_ n2_ n3_; clear hb hbox hg; have hcz6_0 : w5.cell? ⟨gb445, 0, none⟩ = some (.int .i64 0) := (blk_cell BK445.out 0).trans rfl; have hcz6_1 : w5.cell? ⟨gb445, 1, none⟩ = some (.int .i64 0) := (blk_cell BK445.out 1).trans rfl; have hcz6_2 : w5.cell? ⟨gb445, 2, none⟩ = some (.int .i64 0) := (blk_cell BK445.out 2).trans rfl; have hcz6_3 : w5.cell? ⟨gb445, 3, none⟩ = some (.int .i64 0) := (blk_cell BK445.out 3).trans rfl; have hcz6_4 : w5.cell? ⟨gb445, 4, none⟩ = some (.int .i64 0) := (blk_cell BK445.out 4).trans rfl; have hcz6_5 : w5.cell? ⟨gb445, 5, none⟩ = some (.int .i64 0) := (blk_cell BK445.out 5).trans rfl; have hcz6_6 : w5.cell? ⟨gb445, 6, none⟩ = some (.int .i64 0) := (blk_cell BK445.out 6).trans rfl; have hcz6_7 : w5.cell? ⟨gb445, 7, none⟩ = some (.slice none 0 0) := (blk_cell BK445.out 7).trans rfl; have hfz6_0 := blk_frozen BK445.out 0; have hfz6_1 := blk_frozen BK445.out 1; have hfz6_2 := blk_frozen BK445.out 2; have hfz6_3 := blk_frozen BK445.out 3; have hfz6_4 := blk_frozen BK445.out 4; have hfz6_5 := blk_frozen BK445.out 5; have hfz6_6 := blk_frozen BK445.out 6; have hfz6_7 := blk_frozen BK445.out 7))
  refine bodyPost_ret (results_cell_row rfl _ _ gb445 29 #[.int .i64 2, .int .i64 a0, .int .i64 a1, .int .i64 a2, .int .i64 0, .int .i64 0, .int .i64 a3, .slice none 0 0] (0, 0) _ rfl (by (with_reducible repeat (first | refine blk_drewN ?_ _ | refine blk_drew ?_ | refine blk_alloc ?_ _)); refine blk_put (cs := #[.int .i64 2, .int .i64 a0, .int .i64 a1, .int .i64 a2, .int .i64 0, .int .i64 0, .int .i64 a3, .slice none 0 0]) ?_ 7 _ rfl; (with_reducible repeat (first | refine blk_drewN ?_ _ | refine blk_drew ?_ | refine blk_alloc ?_ _)); refine blk_put (cs := #[.int .i64 2, .int .i64 a0, .int .i64 a1, .int .i64 a2, .int .i64 0, .int .i64 0, .int .i64 0, .slice none 0 0]) ?_ 6 _ rfl; (with_reducible repeat (first | refine blk_drewN ?_ _ | refine blk_drew ?_ | refine blk_alloc ?_ _)); refine blk_put (cs := #[.int .i64 2, .int .i64 a0, .int .i64 a1, .int .i64 a2, .int .i64 0, .int .i64 0, .int .i64 0, .slice none 0 0]) ?_ 5 _ rfl; (with_reducible repeat (first | refine blk_drewN ?_ _ | refine blk_drew ?_ | refine blk_alloc ?_ _)); refine blk_put (cs := #[.int .i64 2, .int .i64 a0, .int .i64 a1, .int .i64 a2, .int .i64 0, .int .i64 0, .int .i64 0, .slice none 0 0]) ?_ 4 _ rfl; (with_reducible repeat (first | refine blk_drewN ?_ _ | refine blk_drew ?_ | refine blk_alloc ?_ _)); refine blk_put (cs := #[.int .i64 2, .int .i64 a0, .int .i64 a1, .int .i64 0, .int .i64 0, .int .i64 0, .int .i64 0, .slice none 0 0]) ?_ 3 _ rfl; (with_reducible repeat (first | refine blk_drewN ?_ _ | refine blk_drew ?_ | refine blk_alloc ?_ _)); refine blk_put (cs := #[.int .i64 2, .int .i64 a0, .int .i64 0, .int .i64 0, .int .i64 0, .int .i64 0, .int .i64 0, .slice none 0 0]) ?_ 2 _ rfl; (with_reducible repeat (first | refine blk_drewN ?_ _ | refine blk_drew ?_ | refine blk_alloc ?_ _)); refine blk_put (cs := #[.int .i64 2, .int .i64 0, .int .i64 0, .int .i64 0, .int .i64 0, .int .i64 0, .int .i64 0, .slice none 0 0]) ?_ 1 _ rfl; (with_reducible repeat (first | refine blk_drewN ?_ _ | refine blk_drew ?_ | refine blk_alloc ?_ _)); refine blk_put (cs := #[.int .i64 0, .int .i64 0, .int .i64 0, .int .i64 0, .int .i64 0, .int .i64 0, .int .i64 0, .slice none 0 0]) ?_ 0 _ rfl; (with_reducible repeat (first | refine blk_drewN ?_ _ | refine blk_drew ?_ | refine blk_alloc ?_ _)); exact BK445.out) Try.underlying29 rfl (by kernel_rfl)) rfl ?_
  exact ⟨_, by first | rfl | (simp [errW_none, errW_some] <;> rfl) | (simp [*, errW_none, errW_some] <;> rfl), by first | exact Kd.R_nil _ _ _ _ _ | exact Kd.N_nil _ _ _ _ _ | exact Kd.V_nil _ _ _ _ _ | exact Kd.Q_nil _ _ _ _ _ | exact Kd.S_nil _ _ _ _ _, by repeat (first | (with_reducible first | exact HB.out | apply below_alloc | apply pw_below_drewN | apply below_drew1 | refine below_set ?_ GE445.out) | exact HB.out)⟩

end Go.Proofs.Ytfejidinfcmfjaa.P
-- Written by a program of this session (xprint.py) over the kit's print.py.
namespace Go.Proofs.Ytfejidinfcmfjaa.P
open Go.RowKit Go.Proofs.YtfejidinfcmfjaaW.PrintWords Go.Proofs.YtfejidinfcmfjaaW.PrintLast Go.Proofs.YtfejidinfcmfjaaW.PrintMore
attribute [local go_sem] max2_int min2_int max_two min_two max_three min_three max_four min_four   -- for this text's walks alone
set_option linter.unusedVariables false
set_option linter.unusedSimpArgs false

/-! ### sextonref23_Vote: function 43 -/
def sextonref23_Vote.f (a0_0 : Int) (a0_1 : Int) (a0_2 : Int) (a0_3 : Int) (a0_4 : Int) (a0_5 : Int) (a0_6 : Int) (l0_7 : List ByteArray) : Option (Int × Int × Int × List ByteArray × Bool) := if a0_0 = 3 then ((sextonref01_Own.f l0_7).bind fun t433 => (some (a0_1, a0_4, a0_5, t433, true))) else (some (0, 0, 0, ([] : List ByteArray), false))
def sextonref23_Vote.T3 : Bool × List (List Nat × List Nat) := (true, [([], []), ([0], [0]), ([], []), ([2], [2]), ([], []), ([4], [4]), ([], []), ([6], [6]), ([7], [7]), ([1, 3, 5, 8], [1, 3, 5, 8]), ([9, 8, 0, 1, 2, 3, 4, 5, 6, 7, 8, 9], [9]), ([10, 0, 1, 2, 3, 4, 5, 6, 7, 8, 9, 10], [])])
def sextonref23_Vote.B3 : List Nat := [0, 1, 0, 4, 0, 16, 0, 64, 192, 511, 1023, 2047]
theorem sextonref23_Vote.tab3 : rtab .any (opsOf Try.f43 3) = sextonref23_Vote.T3 := by kernel_rfl
theorem sextonref23_Vote.bits3 : waitsOk sextonref23_Vote.T3.2 sextonref23_Vote.B3 = true := by kernel_rfl
set_option maxHeartbeats 8000000 in
set_option maxRecDepth 100000 in
theorem sextonref23_Vote.calls (a0_0 : Int) (a0_1 : Int) (a0_2 : Int) (a0_3 : Int) (a0_4 : Int) (a0_5 : Int) (a0_6 : Int) (A0_7 : Option Addr) (c0_7 : Nat) (l0_7 : List ByteArray) (r1 : Int) (r2 : Int) (r3 : Int) (r4 : List ByteArray) (r5 : Bool) (w : World) (hr0_7 : Kd.C Kd.string w A0_7 l0_7.length l0_7) (hc0_7 : l0_7.length ≤ c0_7) (h : sextonref23_Vote.f a0_0 a0_1 a0_2 a0_3 a0_4 a0_5 a0_6 l0_7 = some (r1, r2, r3, r4, r5)) :
    Calls Try.prog 43 #[.agg #[.int .i64 a0_0, .int .i64 a0_1, .int .i64 a0_2, .int .i64 a0_3, .int .i64 a0_4, .int .i64 a0_5, .int .i64 a0_6, .slice A0_7 l0_7.length c0_7]] w fun e w' => ∃ v3_ : Value, e = .returned (.tuple #[.agg #[.int .i64 r1, .int .i64 r2, .int .i64 r3, v3_], .bool r5]) ∧ Kd.R Kd.string 9 w' w.heap.size (fun _ => True) v3_ r4 ∧ Below w.heap.size w w' := by
  have hu29 := Try.underlying29
  have hu54 := Try.underlying54
  have HR0_7 := Aside0.mk hr0_7
  have HC0_7 := Aside0.mk hc0_7
  clear hr0_7 hc0_7
  have HB := Aside0.mk (Below.refl w.heap.size w)
  have H : (if a0_0 = 3 then ((sextonref01_Own.f l0_7).bind fun t433 => (some (a0_1, a0_4, a0_5, t433, true))) else (some (0, 0, 0, ([] : List ByteArray), false))) = some (r1, r2, r3, r4, r5) := h
  clear h
  by_cases c2 : a0_0 = 3
  · rw [if_pos c2] at H
    have c2b0 : (a0_0 == 3) = true := beq_iff_eq.mpr c2
    have c2b1 : (a0_0 != 3) = false := bne_eq_false_iff_eq.mpr c2
    clear c2
    replace H := Option.bind_eq_some_iff.mp H
    obtain ⟨t433, A30, H⟩ := H
    replace H : (some (a0_1, a0_4, a0_5, t433, true)) = some (r1, r2, r3, r4, r5) := H
    have A3 := Aside0.mk A30
    clear A30
    simp only [Option.some.injEq, Prod.mk.injEq] at H
    obtain ⟨rfl, rfl, rfl, rfl, rfl⟩ := H
    go_enter Try.func43, Try.ntmps43
    try go_wp2_with (first | ((with_reducible refine gate_dst (N := 1) rfl ?_); refine box_event ?hg (N := 1) ?hd (cs := #[.int .i64 a0_0, .int .i64 a0_1, .int .i64 a0_2, .int .i64 a0_3, .int .i64 a0_4, .int .i64 a0_5, .int .i64 a0_6, .slice A0_7 l0_7.length c0_7]) (t := 29) ?hr ?_; (case hd => rfl); (case hg => rfl); (case hr => first | (go_simp; done) | (go_simp; rfl)); intro gb431 hg w4 hbox hb; have n0_ := Aside0.mk (below_step (by repeat (first | (with_reducible first | exact HB.out | apply below_alloc | apply pw_below_drewN | apply below_drew1) | exact HB.out)) hb); have n1_ := Aside0.mk (hbox); have n2_ := Aside0.mk ((by rw [hg]; exact (below_size (by repeat (first | (with_reducible first | exact HB.out | apply below_alloc | apply pw_below_drewN | apply below_drew1) | exact HB.out))) : w.heap.size ≤ gb431)); have n3_ := Aside0.mk ((by rw [hg]; exact (below_size (by repeat (first | (with_reducible first | exact HB.out | apply below_alloc | apply pw_below_drewN | apply below_drew1) | exact HB.out))) : w.heap.size ≤ gb431)); clear HB; have HB := n0_; have BK431 := n1_; have GW431 := n2_; have GE431 := n3_; clear n0_ n1_ n2_ n3_; clear hb hbox hg) | ((with_reducible refine gate_dst (N := 2) rfl ?_); refine box_event ?hg (N := 2) ?hd (cs := #[.int .i64 0, .int .i64 0, .int .i64 0, .slice none 0 0]) (t := 54) ?hr ?_; (case hd => rfl); (case hg => rfl); (case hr => first | (go_simp; done) | (go_simp; rfl)); intro gb432 hg w5 hbox hb; have n0_ := Aside0.mk (blk_below (g := gb431) (o := .cells #[.int .i64 a0_0, .int .i64 a0_1, .int .i64 a0_2, .int .i64 a0_3, .int .i64 a0_4, .int .i64 a0_5, .int .i64 a0_6, .slice A0_7 l0_7.length c0_7] 29 (0, 0)) (by (with_reducible repeat (first | refine blk_drewN ?_ _ | refine blk_drew ?_ | refine blk_alloc ?_ _)); exact BK431.out) hb); have n1_ := Aside0.mk (below_step (by repeat (first | (with_reducible first | exact HB.out | apply below_alloc | apply pw_below_drewN | apply below_drew1 | refine below_set ?_ GE431.out) | exact HB.out)) hb); have n2_ := Aside0.mk (hbox); have n3_ := Aside0.mk ((by rw [hg]; exact (below_size (by repeat (first | (with_reducible first | exact HB.out | apply below_alloc | apply pw_below_drewN | apply below_drew1 | refine below_set ?_ GE431.out) | exact HB.out))) : w.heap.size ≤ gb432)); have n4_ := Aside0.mk ((by rw [hg]; exact (below_size (by repeat (first | (with_reducible first | exact HB.out | apply below_alloc | apply pw_below_drewN | apply below_drew1 | refine below_set ?_ GE431.out) | exact HB.out))) : w.heap.size ≤ gb432)); have n5_ := Aside0.mk ((by rw [hg]; exact Nat.ne_of_lt (blk_lt (g := gb431) (o := .cells #[.int .i64 a0_0, .int .i64 a0_1, .int .i64 a0_2, .int .i64 a0_3, .int .i64 a0_4, .int .i64 a0_5, .int .i64 a0_6, .slice A0_7 l0_7.length c0_7] 29 (0, 0)) (by (with_reducible repeat (first | refine blk_drewN ?_ _ | refine blk_drew ?_ | refine blk_alloc ?_ _)); exact BK431.out)) : gb431 ≠ gb432)); have n6_ := Aside0.mk ((by rw [hg]; exact Nat.ne_of_gt (blk_lt (g := gb431) (o := .cells #[.int .i64 a0_0, .int .i64 a0_1, .int .i64 a0_2, .int .i64 a0_3, .int .i64 a0_4, .int .i64 a0_5, .int .i64 a0_6, .slice A0_7 l0_7.length c0_7] 29 (0, 0)) (by (with_reducible repeat (first | refine blk_drewN ?_ _ | refine blk_drew ?_ | refine blk_alloc ?_ _)); exact BK431.out)) : gb432 ≠ gb431)); clear BK431; clear HB; have BK431 := n0_; have HB := n1_; have BK432 := n2_; have GW432 := n3_; have GE432 := n4_; have NB431_432 := n5_; have NB432_431 := n6_; clear n0_ n1_ n2_ n3_ n4_ n5_ n6_; clear hb hbox hg; have hnb6 := NB431_432.out; have hnc6 := NB432_431.out; have hcz7_0 : w5.cell? ⟨gb431, 0, none⟩ = some (.int .i64 a0_0) := (blk_cell BK431.out 0).trans rfl; have hcz7_1 : w5.cell? ⟨gb431, 1, none⟩ = some (.int .i64 a0_1) := (blk_cell BK431.out 1).trans rfl; have hcz7_2 : w5.cell? ⟨gb431, 2, none⟩ = some (.int .i64 a0_2) := (blk_cell BK431.out 2).trans rfl; have hcz7_3 : w5.cell? ⟨gb431, 3, none⟩ = some (.int .i64 a0_3) := (blk_cell BK431.out 3).trans rfl; have hcz7_4 : w5.cell? ⟨gb431, 4, none⟩ = some (.int .i64 a0_4) := (blk_cell BK431.out 4).trans rfl; have hcz7_5 : w5.cell? ⟨gb431, 5, none⟩ = some (.int .i64 a0_5) := (blk_cell BK431.out 5).trans rfl; have hcz7_6 : w5.cell? ⟨gb431, 6, none⟩ = some (.int .i64 a0_6) := (blk_cell BK431.out 6).trans rfl; have hcz7_7 : w5.cell? ⟨gb431, 7, none⟩ = some (.slice A0_7 l0_7.length c0_7) := (blk_cell BK431.out 7).trans rfl; have hfz7_0 := blk_frozen BK431.out 0; have hfz7_1 := blk_frozen BK431.out 1; have hfz7_2 := blk_frozen BK431.out 2; have hfz7_3 := blk_frozen BK431.out 3; have hfz7_4 := blk_frozen BK431.out 4; have hfz7_5 := blk_frozen BK431.out 5; have hfz7_6 := blk_frozen BK431.out 6; have hfz7_7 := blk_frozen BK431.out 7))
    have n0_ := Aside0.mk (blk_drew BK431.out)
    have n1_ := Aside0.mk (blk_drew BK432.out)
    have n2_ := Aside0.mk (below_drew1 HB.out)
    clear BK431
    clear BK432
    clear HB
    have BK431 := n0_
    have BK432 := n1_
    have HB := n2_
    clear n0_ n1_ n2_
    refine start_ (n := 12) (S := fun w' => w'.cell? ⟨gb431, 0, none⟩ = some (.int .i64 a0_0) ∧ w'.cell? ⟨gb431, 1, none⟩ = some (.int .i64 a0_1) ∧ w'.cell? ⟨gb431, 2, none⟩ = some (.int .i64 a0_2) ∧ w'.cell? ⟨gb431, 3, none⟩ = some (.int .i64 a0_3) ∧ w'.cell? ⟨gb431, 4, none⟩ = some (.int .i64 a0_4) ∧ w'.cell? ⟨gb431, 5, none⟩ = some (.int .i64 a0_5) ∧ w'.cell? ⟨gb431, 6, none⟩ = some (.int .i64 a0_6) ∧ w'.cell? ⟨gb431, 7, none⟩ = some (.slice A0_7 l0_7.length c0_7)) (ds := []) #[false, false, false, false, false, false, false, false, false, false, false, false] (by kernel_rfl) rfl rfl ⟨(blk_cell BK431.out 0).trans rfl, (blk_cell BK431.out 1).trans rfl, (blk_cell BK431.out 2).trans rfl, (blk_cell BK431.out 3).trans rfl, (blk_cell BK431.out 4).trans rfl, (blk_cell BK431.out 5).trans rfl, (blk_cell BK431.out 6).trans rfl, (blk_cell BK431.out 7).trans rfl⟩ (fun hHeld => ?_); refine with_tabW sextonref23_Vote.tab3 sextonref23_Vote.bits3 (fun HT_ HW_ => ?_)
    generalize w5.drew = w8 at BK431 BK432 HB hHeld ⊢
    refine pure_ (i := 0) (N := some 8) (v := ?_) (a' := ?_) #[true, false, false, false, false, false, false, false, false, false, false, false] rfl rfl (any_of HT_.out (by kernel_rfl)) (fun _ _ _ h => h) (Or.inl ⟨by rfl, ?_⟩) ?_ ?_
    rotate_left
    · intro w'
      go_simp
      with_reducible rfl
    rotate_left
    · simp only [Act.put, List.setIfInBounds_toArray, List.set_cons_zero, List.set_cons_succ, i64_w, i32_w]
      rfl
    refine pure_ (i := 2) (N := some 10) (v := ?_) (a' := ?_) #[true, false, true, false, false, false, false, false, false, false, false, false] rfl rfl (any_of HT_.out (by kernel_rfl)) (fun _ _ _ h => h) (Or.inl ⟨by rfl, ?_⟩) ?_ ?_
    rotate_left
    · intro w'
      go_simp
      with_reducible rfl
    rotate_left
    · simp only [Act.put, List.setIfInBounds_toArray, List.set_cons_zero, List.set_cons_succ, i64_w, i32_w]
      rfl
    refine pure_ (i := 4) (N := some 12) (v := ?_) (a' := ?_) #[true, false, true, false, true, false, false, false, false, false, false, false] rfl rfl (any_of HT_.out (by kernel_rfl)) (fun _ _ _ h => h) (Or.inl ⟨by rfl, ?_⟩) ?_ ?_
    rotate_left
    · intro w'
      go_simp
      with_reducible rfl
    rotate_left
    · simp only [Act.put, List.setIfInBounds_toArray, List.set_cons_zero, List.set_cons_succ, i64_w, i32_w]
      rfl
    refine pure_ (i := 6) (N := some 14) (v := ?_) (a' := ?_) #[true, false, true, false, true, false, true, false, false, false, false, false] rfl rfl (any_of HT_.out (by kernel_rfl)) (fun _ _ _ h => h) (Or.inl ⟨by rfl, ?_⟩) ?_ ?_
    rotate_left
    · intro w'
      go_simp
      with_reducible rfl
    rotate_left
    · simp only [Act.put, List.setIfInBounds_toArray, List.set_cons_zero, List.set_cons_succ, i64_w, i32_w]
      rfl
    refine take_ (i := 1) (N := some 9) (v := ?_) (a' := ?_) #[true, true, true, false, true, false, true, false, false, false, false, false] rfl rfl (take_ofW HT_.out HW_.out (by kernel_rfl)) (fun _ _ _ h => h) (Or.inl ⟨by rfl, ?_⟩) hHeld ?_ ?_
    rotate_left
    · rintro w' ⟨s0, s1, s2, s3, s4, s5, s6, s7⟩
      go_simp
      with_reducible rfl
    rotate_left
    · simp only [Act.put, List.setIfInBounds_toArray, List.set_cons_zero, List.set_cons_succ, i64_w, i32_w]
      rfl
    refine take_ (i := 3) (N := some 11) (v := ?_) (a' := ?_) #[true, true, true, true, true, false, true, false, false, false, false, false] rfl rfl (take_ofW HT_.out HW_.out (by kernel_rfl)) (fun _ _ _ h => h) (Or.inl ⟨by rfl, ?_⟩) hHeld ?_ ?_
    rotate_left
    · rintro w' ⟨s0, s1, s2, s3, s4, s5, s6, s7⟩
      go_simp
      with_reducible rfl
    rotate_left
    · simp only [Act.put, List.setIfInBounds_toArray, List.set_cons_zero, List.set_cons_succ, i64_w, i32_w]
      rfl
    refine take_ (i := 5) (N := some 13) (v := ?_) (a' := ?_) #[true, true, true, true, true, true, true, false, false, false, false, false] rfl rfl (take_ofW HT_.out HW_.out (by kernel_rfl)) (fun _ _ _ h => h) (Or.inl ⟨by rfl, ?_⟩) hHeld ?_ ?_
    rotate_left
    · rintro w' ⟨s0, s1, s2, s3, s4, s5, s6, s7⟩
      go_simp
      with_reducible rfl
    rotate_left
    · simp only [Act.put, List.setIfInBounds_toArray, List.set_cons_zero, List.set_cons_succ, i64_w, i32_w]
      rfl
    refine take_ (i := 7) (N := some 15) (v := ?_) (a' := ?_) #[true, true, true, true, true, true, true, true, false, false, false, false] rfl rfl (take_ofW HT_.out HW_.out (by kernel_rfl)) (fun _ _ _ h => h) (Or.inl ⟨by rfl, ?_⟩) hHeld ?_ ?_
    rotate_left
    · rintro w' ⟨s0, s1, s2, s3, s4, s5, s6, s7⟩
      go_simp
      with_reducible rfl
    rotate_left
    · simp only [Act.put, List.setIfInBounds_toArray, List.set_cons_zero, List.set_cons_succ, i64_w, i32_w]
      rfl
    refine one_ (i := 8) (N := some 16) #[true, true, true, true, true, true, true, true, true, false, false, false] rfl rfl (one_of HT_.out (by kernel_rfl)) (by decide) (fun K hK => ?_)
    refine goes_ Try.func73 (by kernel_rfl) rfl #[.slice A0_7 l0_7.length c0_7] (by rfl) rfl rfl (by (try simp only [List.map_toArray, List.map_cons, List.map_nil]); first | done | rfl | (simp only [List.length_drop, List.length_take]; rfl)) ?_
    with_reducible refine (sextonref01_Own.calls _ _ l0_7 t433 _ ?side1 ?side2 A3.out).mono ?_
    (case side1 => repeat (first | exact (Kd.C_below HR0_7.out HB.out) | (with_reducible refine Kd.C_alloc ?_ _) | (with_reducible refine Kd.C_drewN ?_ _) | (with_reducible refine Kd.C_drew ?_)))
    (case side2 => exact HC0_7.out)
    rintro e w9 ⟨v434, rfl, ho0, hb⟩
    refine ⟨_, rfl, ?_⟩
    have n0_ := Aside0.mk (Kd.R_lower ho0 (below_size (by repeat (first | (with_reducible first | exact HB.out | apply below_alloc | apply pw_below_drewN | apply below_drew1 | refine below_set ?_ GE431.out | refine below_set ?_ GE432.out) | exact HB.out))))
    have n1_ := Aside0.mk (blk_below (g := gb431) (o := .cells #[.int .i64 a0_0, .int .i64 a0_1, .int .i64 a0_2, .int .i64 a0_3, .int .i64 a0_4, .int .i64 a0_5, .int .i64 a0_6, .slice A0_7 l0_7.length c0_7] 29 (0, 0)) (by (with_reducible repeat (first | refine blk_drewN ?_ _ | refine blk_drew ?_ | refine blk_alloc ?_ _)); exact BK431.out) hb)
    have n2_ := Aside0.mk (blk_below (g := gb432) (o := .cells #[.int .i64 0, .int .i64 0, .int .i64 0, .slice none 0 0] 54 (0, 0)) (by (with_reducible repeat (first | refine blk_drewN ?_ _ | refine blk_drew ?_ | refine blk_alloc ?_ _)); exact BK432.out) hb)
    have n3_ := Aside0.mk (below_step (by repeat (first | (with_reducible first | exact HB.out | apply below_alloc | apply pw_below_drewN | apply below_drew1 | refine below_set ?_ GE431.out | refine below_set ?_ GE432.out) | exact HB.out)) hb)
    clear BK431
    clear BK432
    clear HB
    have HO435 := n0_
    have BK431 := n1_
    have BK432 := n2_
    have HB := n3_
    clear n0_ n1_ n2_ n3_
    (try clear hb)
    (try clear hb2)
    (try clear hk)
    (try clear hi)
    (try clear ho0)
    obtain ⟨Ao10, co10, eo10⟩ := Kd.R_slice HO435.out
    (first | subst eo10 | (injection eo10 with f1_ f2_ f3_; have f4_ := f1_.symm; have f5_ := f3_.symm; clear f1_ f2_ f3_; subst f4_; subst f5_))
    refine hK.out _ _ ⟨(blk_cell BK431.out 0).trans rfl, (blk_cell BK431.out 1).trans rfl, (blk_cell BK431.out 2).trans rfl, (blk_cell BK431.out 3).trans rfl, (blk_cell BK431.out 4).trans rfl, (blk_cell BK431.out 5).trans rfl, (blk_cell BK431.out 6).trans rfl, (blk_cell BK431.out 7).trans rfl⟩ (fun hHeld => ?_)
    clear hK K
    refine norm_ (a' := ?_) ?_ ?_
    rotate_left
    · show Act.put _ (some 16) _ = _
      simp only [Act.put, List.setIfInBounds_toArray, List.set_cons_zero, List.set_cons_succ, i64_w, i32_w]
      rfl
    refine pure_ (i := 9) (N := some 17) (v := ?_) (a' := ?_) #[true, true, true, true, true, true, true, true, true, true, false, false] rfl rfl (any_of HT_.out (by kernel_rfl)) (fun _ _ _ h => h) (Or.inl ⟨by rfl, ?_⟩) ?_ ?_
    rotate_left
    · intro w'
      go_simp
      with_reducible rfl
    rotate_left
    · simp only [Act.put, List.setIfInBounds_toArray, List.set_cons_zero, List.set_cons_succ, i64_w, i32_w]
      rfl
    refine one_ (i := 10) (N := none) #[true, true, true, true, true, true, true, true, true, true, true, false] rfl rfl (one_of HT_.out (by kernel_rfl)) (by decide) (fun K hK => ?_)
    have hs11 : w9.cell? ⟨gb432, 0, none⟩ = some (.int .i64 0) := (blk_cell BK432.out 0).trans rfl
    have hfs11 := blk_frozen BK432.out 0
    have hns11_0 := NB431_432.out
    have hms11_0 := NB432_431.out
    have hs12 : w9.cell? ⟨gb432, 1, none⟩ = some (.int .i64 0) := (blk_cell BK432.out 1).trans rfl
    have hfs12 := blk_frozen BK432.out 1
    have hns12_0 := NB431_432.out
    have hms12_0 := NB432_431.out
    have hs13 : w9.cell? ⟨gb432, 2, none⟩ = some (.int .i64 0) := (blk_cell BK432.out 2).trans rfl
    have hfs13 := blk_frozen BK432.out 2
    have hns13_0 := NB431_432.out
    have hms13_0 := NB432_431.out
    have hs14 : w9.cell? ⟨gb432, 3, none⟩ = some (.slice none 0 0) := (blk_cell BK432.out 3).trans rfl
    have hfs14 := blk_frozen BK432.out 3
    have hns14_0 := NB431_432.out
    have hms14_0 := NB432_431.out
    refine skip_ (w1 := ?_) (by rfl) rfl ?_ ?_
    rotate_left
    · go_simp
      rfl
    refine hK.out _ _ ⟨((cell_far (p := ⟨gb432, _, none⟩) NB431_432.out _).trans (((cell_far (p := ⟨gb432, _, none⟩) NB431_432.out _).trans (((cell_far (p := ⟨gb432, _, none⟩) NB431_432.out _).trans (((cell_far (p := ⟨gb432, _, none⟩) NB431_432.out _).trans (hHeld.1)))))))), ((cell_far (p := ⟨gb432, _, none⟩) NB431_432.out _).trans (((cell_far (p := ⟨gb432, _, none⟩) NB431_432.out _).trans (((cell_far (p := ⟨gb432, _, none⟩) NB431_432.out _).trans (((cell_far (p := ⟨gb432, _, none⟩) NB431_432.out _).trans (hHeld.2.1)))))))), ((cell_far (p := ⟨gb432, _, none⟩) NB431_432.out _).trans (((cell_far (p := ⟨gb432, _, none⟩) NB431_432.out _).trans (((cell_far (p := ⟨gb432, _, none⟩) NB431_432.out _).trans (((cell_far (p := ⟨gb432, _, none⟩) NB431_432.out _).trans (hHeld.2.2.1)))))))), ((cell_far (p := ⟨gb432, _, none⟩) NB431_432.out _).trans (((cell_far (p := ⟨gb432, _, none⟩) NB431_432.out _).trans (((cell_far (p := ⟨gb432, _, none⟩) NB431_432.out _).trans (((cell_far (p := ⟨gb432, _, none⟩) NB431_432.out _).trans (hHeld.2.2.2.1)))))))), ((cell_far (p := ⟨gb432, _, none⟩) NB431_432.out _).trans (((cell_far (p := ⟨gb432, _, none⟩) NB431_432.out _).trans (((cell_far (p := ⟨gb432, _, none⟩) NB431_432.out _).trans (((cell_far (p := ⟨gb432, _, none⟩) NB431_432.out _).trans (hHeld.2.2.2.2.1)))))))), ((cell_far (p := ⟨gb432, _, none⟩) NB431_432.out _).trans (((cell_far (p := ⟨gb432, _, none⟩) NB431_432.out _).trans (((cell_far (p := ⟨gb432, _, none⟩) NB431_432.out _).trans (((cell_far (p := ⟨gb432, _, none⟩) NB431_432.out _).trans (hHeld.2.2.2.2.2.1)))))))), ((cell_far (p := ⟨gb432, _, none⟩) NB431_432.out _).trans (((cell_far (p := ⟨gb432, _, none⟩) NB431_432.out _).trans (((cell_far (p := ⟨gb432, _, none⟩) NB431_432.out _).trans (((cell_far (p := ⟨gb432, _, none⟩) NB431_432.out _).trans (hHeld.2.2.2.2.2.2.1)))))))), ((cell_far (p := ⟨gb432, _, none⟩) NB431_432.out _).trans (((cell_far (p := ⟨gb432, _, none⟩) NB431_432.out _).trans (((cell_far (p := ⟨gb432, _, none⟩) NB431_432.out _).trans (((cell_far (p := ⟨gb432, _, none⟩) NB431_432.out _).trans (hHeld.2.2.2.2.2.2.2))))))))⟩ (fun hHeld => ?_)
    clear hK K
    refine pure_ (i := 11) (N := some 3) (v := ?_) (a' := ?_) #[true, true, true, true, true, true, true, true, true, true, true, true] rfl rfl (any_of HT_.out (by kernel_rfl)) (fun _ _ _ h => h) (Or.inl ⟨by rfl, ?_⟩) ?_ ?_
    rotate_left
    · intro w'
      go_simp
      with_reducible rfl
    rotate_left
    · simp only [Act.put, List.setIfInBounds_toArray, List.set_cons_zero, List.set_cons_succ, i64_w, i32_w]
      rfl
    refine done_ (done_of HT_.out (by kernel_rfl)) ?_
    try go_wp2
    refine bodyPost_ret (results_ct rfl _ _ gb432 54 #[.int .i64 a0_1, .int .i64 a0_4, .int .i64 a0_5, .slice Ao10 t433.length co10] (0, 0) _ rfl (by (with_reducible repeat (first | refine blk_drewN ?_ _ | refine blk_drew ?_ | refine blk_alloc ?_ _)); refine blk_put (cs := #[.int .i64 a0_1, .int .i64 a0_4, .int .i64 a0_5, .slice none 0 0]) ?_ 3 _ rfl; (with_reducible repeat (first | refine blk_drewN ?_ _ | refine blk_drew ?_ | refine blk_alloc ?_ _)); refine blk_put (cs := #[.int .i64 a0_1, .int .i64 a0_4, .int .i64 0, .slice none 0 0]) ?_ 2 _ rfl; (with_reducible repeat (first | refine blk_drewN ?_ _ | refine blk_drew ?_ | refine blk_alloc ?_ _)); refine blk_put (cs := #[.int .i64 a0_1, .int .i64 0, .int .i64 0, .slice none 0 0]) ?_ 1 _ rfl; (with_reducible repeat (first | refine blk_drewN ?_ _ | refine blk_drew ?_ | refine blk_alloc ?_ _)); refine blk_put (cs := #[.int .i64 0, .int .i64 0, .int .i64 0, .slice none 0 0]) ?_ 0 _ rfl; (with_reducible repeat (first | refine blk_drewN ?_ _ | refine blk_drew ?_ | refine blk_alloc ?_ _)); exact BK432.out) Try.underlying54 rfl (by kernel_rfl)) rfl ?_
    exact ⟨_, by first | rfl | (simp [errW_none, errW_some] <;> rfl) | (simp [*, errW_none, errW_some] <;> rfl), by (with_reducible repeat (first | apply Kd.R_alloc | apply Kd.R_drewN | apply Kd.R_drew)); exact Kd.R_mono (Kd.R_far (p := ⟨gb432, 3, none⟩) (Kd.R_far (p := ⟨gb432, 2, none⟩) (Kd.R_far (p := ⟨gb432, 1, none⟩) (Kd.R_far (p := ⟨gb432, 0, none⟩) (Kd.R_types HO435.out BK432.out (by decide)) (fun _ hk => hk.2) (.int .i64 a0_1)) (fun _ hk => hk.2) (.int .i64 a0_4)) (fun _ hk => hk.2) (.int .i64 a0_5)) (fun _ hk => hk.2) (.slice Ao10 t433.length co10)) (fun _ hk => trivial), by repeat (first | (with_reducible first | exact HB.out | apply below_alloc | apply pw_below_drewN | apply below_drew1 | refine below_set ?_ GE431.out | refine below_set ?_ GE432.out) | exact HB.out)⟩
  · rw [if_neg c2] at H
    have c2b0 : (a0_0 == 3) = false := beq_eq_false_iff_ne.mpr c2
    have c2b1 : (a0_0 != 3) = true := bne_iff_ne.mpr c2
    simp only [Option.some.injEq, Prod.mk.injEq] at H
    obtain ⟨rfl, rfl, rfl, rfl, rfl⟩ := H
    go_enter Try.func43, Try.ntmps43
    go_wp2_with (first | ((with_reducible refine gate_dst (N := 1) rfl ?_); refine box_event ?hg (N := 1) ?hd (cs := #[.int .i64 a0_0, .int .i64 a0_1, .int .i64 a0_2, .int .i64 a0_3, .int .i64 a0_4, .int .i64 a0_5, .int .i64 a0_6, .slice A0_7 l0_7.length c0_7]) (t := 29) ?hr ?_; (case hd => rfl); (case hg => rfl); (case hr => first | (go_simp; done) | (go_simp; rfl)); intro gb431 hg w15 hbox hb; have n0_ := Aside0.mk (below_step (by repeat (first | (with_reducible first | exact HB.out | apply below_alloc | apply pw_below_drewN | apply below_drew1) | exact HB.out)) hb); have n1_ := Aside0.mk (hbox); have n2_ := Aside0.mk ((by rw [hg]; exact (below_size (by repeat (first | (with_reducible first | exact HB.out | apply below_alloc | apply pw_below_drewN | apply below_drew1) | exact HB.out))) : w.heap.size ≤ gb431)); have n3_ := Aside0.mk ((by rw [hg]; exact (below_size (by repeat (first | (with_reducible first | exact HB.out | apply below_alloc | apply pw_below_drewN | apply below_drew1) | exact HB.out))) : w.heap.size ≤ gb431)); clear HB; have HB := n0_; have BK431 := n1_; have GW431 := n2_; have GE431 := n3_; clear n0_ n1_ n2_ n3_; clear hb hbox hg) | ((with_reducible refine gate_dst (N := 2) rfl ?_); refine box_event ?hg (N := 2) ?hd (cs := #[.int .i64 0, .int .i64 0, .int .i64 0, .slice none 0 0]) (t := 54) ?hr ?_; (case hd => rfl); (case hg => rfl); (case hr => first | (go_simp; done) | (go_simp; rfl)); intro gb432 hg w16 hbox hb; have n0_ := Aside0.mk (blk_below (g := gb431) (o := .cells #[.int .i64 a0_0, .int .i64 a0_1, .int .i64 a0_2, .int .i64 a0_3, .int .i64 a0_4, .int .i64 a0_5, .int .i64 a0_6, .slice A0_7 l0_7.length c0_7] 29 (0, 0)) (by (with_reducible repeat (first | refine blk_drewN ?_ _ | refine blk_drew ?_ | refine blk_alloc ?_ _)); exact BK431.out) hb); have n1_ := Aside0.mk (below_step (by repeat (first | (with_reducible first | exact HB.out | apply below_alloc | apply pw_below_drewN | apply below_drew1 | refine below_set ?_ GE431.out) | exact HB.out)) hb); have n2_ := Aside0.mk (hbox); have n3_ := Aside0.mk ((by rw [hg]; exact (below_size (by repeat (first | (with_reducible first | exact HB.out | apply below_alloc | apply pw_below_drewN | apply below_drew1 | refine below_set ?_ GE431.out) | exact HB.out))) : w.heap.size ≤ gb432)); have n4_ := Aside0.mk ((by rw [hg]; exact (below_size (by repeat (first | (with_reducible first | exact HB.out | apply below_alloc | apply pw_below_drewN | apply below_drew1 | refine below_set ?_ GE431.out) | exact HB.out))) : w.heap.size ≤ gb432)); have n5_ := Aside0.mk ((by rw [hg]; exact Nat.ne_of_lt (blk_lt (g := gb431) (o := .cells #[.int .i64 a0_0, .int .i64 a0_1, .int .i64 a0_2, .int .i64 a0_3, .int .i64 a0_4, .int .i64 a0_5, .int .i64 a0_6, .slice A0_7 l0_7.length c0_7] 29 (0, 0)) (by (with_reducible repeat (first | refine blk_drewN ?_ _ | refine blk_drew ?_ | refine blk_alloc ?_ _)); exact BK431.out)) : gb431 ≠ gb432)); have n6_ := Aside0.mk ((by rw [hg]; exact Nat.ne_of_gt (blk_lt (g := gb431) (o := .cells #[.int .i64 a0_0, .int .i64 a0_1, .int .i64 a0_2, .int .i64 a0_3, .int .i64 a0_4, .int .i64 a0_5, .int .i64 a0_6, .slice A0_7 l0_7.length c0_7] 29 (0, 0)) (by (with_reducible repeat (first | refine blk_drewN ?_ _ | refine blk_drew ?_ | refine blk_alloc ?_ _)); exact BK431.out)) : gb432 ≠ gb431)); clear BK431; clear HB; have BK431 := n0_; have HB := n1_; have BK432 := n2_; have GW432 := n3_; have GE432 := n4_; have NB431_432 := n5_; have NB432_431 := n6_; clear n0_ n1_ n2_ n3_ n4_ n5_ n6_; clear hb hbox hg; have hnb17 := NB431_432.out; have hnc17 := NB432_431.out; have hcz18_0 : w16.cell? ⟨gb431, 0, none⟩ = some (.int .i64 a0_0) := (blk_cell BK431.out 0).trans rfl; have hcz18_1 : w16.cell? ⟨gb431, 1, none⟩ = some (.int .i64 a0_1) := (blk_cell BK431.out 1).trans rfl; have hcz18_2 : w16.cell? ⟨gb431, 2, none⟩ = some (.int .i64 a0_2) := (blk_cell BK431.out 2).trans rfl; have hcz18_3 : w16.cell? ⟨gb431, 3, none⟩ = some (.int .i64 a0_3) := (blk_cell BK431.out 3).trans rfl; have hcz18_4 : w16.cell? ⟨gb431, 4, none⟩ = some (.int .i64 a0_4) := (blk_cell BK431.out 4).trans rfl; have hcz18_5 : w16.cell? ⟨gb431, 5, none⟩ = some (.int .i64 a0_5) := (blk_cell BK431.out 5).trans rfl; have hcz18_6 : w16.cell? ⟨gb431, 6, none⟩ = some (.int .i64 a0_6) := (blk_cell BK431.out 6).trans rfl; have hcz18_7 : w16.cell? ⟨gb431, 7, none⟩ = some (.slice A0_7 l0_7.length c0_7) := (blk_cell BK431.out 7).trans rfl; have hfz18_0 := blk_frozen BK431.out 0; have hfz18_1 := blk_frozen BK431.out 1; have hfz18_2 := blk_frozen BK431.out 2; have hfz18_3 := blk_frozen BK431.out 3; have hfz18_4 := blk_frozen BK431.out 4; have hfz18_5 := blk_frozen BK431.out 5; have hfz18_6 := blk_frozen BK431.out 6; have hfz18_7 := blk_frozen BK431.out 7; have hcz19_0 : w16.cell? ⟨gb432, 0, none⟩ = some (.int .i64 0) := (blk_cell BK432.out 0).trans rfl; have hcz19_1 : w16.cell? ⟨gb432, 1, none⟩ = some (.int .i64 0) := (blk_cell BK432.out 1).trans rfl; have hcz19_2 : w16.cell? ⟨gb432, 2, none⟩ = some (.int .i64 0) := (blk_cell BK432.out 2).trans rfl; have hcz19_3 : w16.cell? ⟨gb432, 3, none⟩ = some (.slice none 0 0) := (blk_cell BK432.out 3).trans rfl; have hfz19_0 := blk_frozen BK432.out 0; have hfz19_1 := blk_frozen BK432.out 1; have hfz19_2 := blk_frozen BK432.out 2; have hfz19_3 := blk_frozen BK432.out 3))
    refine bodyPost_ret (results_ct rfl _ _ gb432 54 #[.int .i64 0, .int .i64 0, .int .i64 0, .slice none 0 0] (0, 0) _ rfl (by (with_reducible repeat (first | refine blk_drewN ?_ _ | refine blk_drew ?_ | refine blk_alloc ?_ _)); refine blk_put (cs := #[.int .i64 0, .int .i64 0, .int .i64 0, .slice none 0 0]) ?_ 3 _ rfl; (with_reducible repeat (first | refine blk_drewN ?_ _ | refine blk_drew ?_ | refine blk_alloc ?_ _)); refine blk_put (cs := #[.int .i64 0, .int .i64 0, .int .i64 0, .slice none 0 0]) ?_ 2 _ rfl; (with_reducible repeat (first | refine blk_drewN ?_ _ | refine blk_drew ?_ | refine blk_alloc ?_ _)); refine blk_put (cs := #[.int .i64 0, .int .i64 0, .int .i64 0, .slice none 0 0]) ?_ 1 _ rfl; (with_reducible repeat (first | refine blk_drewN ?_ _ | refine blk_drew ?_ | refine blk_alloc ?_ _)); refine blk_put (cs := #[.int .i64 0, .int .i64 0, .int .i64 0, .slice none 0 0]) ?_ 0 _ rfl; (with_reducible repeat (first | refine blk_drewN ?_ _ | refine blk_drew ?_ | refine blk_alloc ?_ _)); exact BK432.out) Try.underlying54 rfl (by kernel_rfl)) rfl ?_
    exact ⟨_, by first | rfl | (simp [errW_none, errW_some] <;> rfl) | (simp [*, errW_none, errW_some] <;> rfl), by first | exact Kd.R_nil _ _ _ _ _ | exact Kd.N_nil _ _ _ _ _ | exact Kd.V_nil _ _ _ _ _ | exact Kd.Q_nil _ _ _ _ _ | exact Kd.S_nil _ _ _ _ _, by repeat (first | (with_reducible first | exact HB.out | apply below_alloc | apply pw_below_drewN | apply below_drew1 | refine below_set ?_ GE431.out | refine below_set ?_ GE432.out) | exact HB.out)⟩

end Go.Proofs.Ytfejidinfcmfjaa.P
/-
  sextonlaw23.MsgMakes, by hand: it answers true for every input.
-/
namespace Go.Proofs.Ytfejidinfcmfjaa.P
open Go.RowKit Go.Proofs Go.Proofs.CodecPlain Go.Proofs.YtfejidinfcmfjaaW.PrintWords Go.Proofs.YtfejidinfcmfjaaW.PrintLast Go.Proofs.Ytfejidinfcmfjaa.MS

attribute [local go_sem] zero_vote zero_msg
set_option maxHeartbeats 8000000 in
set_option maxRecDepth 100000 in
theorem makes_in (a0 a1 a2 a3 n0 n1 n2 : Int) (A : Option Addr) (c : Nat) (l : List ByteArray) (m0 m1 m2 m3 m4 m5 m6 : Int) (Am : Option Addr) (cm : Nat) (lm : List ByteArray) (w : World) (hr : Kd.C Kd.string w A l.length l) (hc : l.length ≤ c) (hrm : Kd.C Kd.string w Am lm.length lm) (hcm : lm.length ≤ cm) (hl : l.length ≤ 9223372036854775807) :
    Calls Try.prog 9 #[.int .i64 a0, .int .i64 a1, .int .i64 a2, .int .i64 a3, .agg #[.int .i64 n0, .int .i64 n1, .int .i64 n2, .slice A l.length c], .agg #[.int .i64 m0, .int .i64 m1, .int .i64 m2, .int .i64 m3, .int .i64 m4, .int .i64 m5, .int .i64 m6, .slice Am lm.length cm]] w fun e w' => e = .returned (.bool true) ∧ Below w.heap.size w w' := by
  obtain ⟨K, b, hbig, h70⟩ := big22 ⟨n0, n1, n2, l⟩ hl
  obtain ⟨bm, hbm, h80⟩ := big_f m0 m1 m2 m3 m4 m5 m6 lm
  have HBig := Aside0.mk (fun (W : World) (h : Kd.C Kd.string W A l.length l) => sextonref22_Big.calls K (some ⟨W.heap.size, 0, none⟩) 1 [⟨n0, n1, n2, l⟩] b _ (one_vote W ⟨n0, n1, n2, l⟩ A c hc h) (Nat.le_refl _) (hbig K (Nat.le_refl _)))
  have HB0 := Aside0.mk (((Below.refl w.heap.size w).alloc (Nat.le_refl _) (.cells (blkV n0 n1 n2 (.slice A l.length c)) 54)).alloc (by simp) (.cells (blkM m0 m1 m2 m3 m4 m5 m6 (.slice Am lm.length cm)) 29))
  have HV0 := Aside0.mk (blk_alloc (blk_new w (.cells (blkV n0 n1 n2 (.slice A l.length c)) 54)) (.cells (blkM m0 m1 m2 m3 m4 m5 m6 (.slice Am lm.length cm)) 29))
  have hm0 := blk_new (w.alloc (.cells (blkV n0 n1 n2 (.slice A l.length c)) 54)) (.cells (blkM m0 m1 m2 m3 m4 m5 m6 (.slice Am lm.length cm)) 29)
  rw [World.size_alloc] at hm0
  have HM0 := Aside0.mk hm0
  have RV0 := Aside0.mk (Kd.C_below hr HB0.out)
  have RM0 := Aside0.mk (Kd.C_below hrm HB0.out)
  have HBm := Aside0.mk (fun (W : World) (h : Kd.C Kd.string W Am lm.length lm) => sextonref23_Big.calls 201 m0 m1 m2 m3 m4 m5 m6 Am cm lm bm W h hcm (hbm 201 (by omega)))
  have HSent := Aside0.mk (fun W => sextonlaw23_sent.calls true W rfl)
  have H70 := Aside0.mk h70
  have H80 := Aside0.mk h80
  clear hr hrm hbig hbm hm0 h70 h80
  cases bm
  rotate_left
  · go_enter Try.func9, Try.ntmps9
    go_wp2_with (first | (go_at_call 30; (refine (HBm.out _ RM0.out).mono ?_); rintro e w1 ⟨rfl, hb⟩; have HB1 := Aside0.mk (HB0.out.trans (hb.mono HB0.out.size)); clear hb))
    go_ret
    exact ⟨rfl, HB1.out⟩
  cases b
  rotate_left
  · go_enter Try.func9, Try.ntmps9
    go_wp2_with (first | (go_at_call 30; (refine (HBm.out _ RM0.out).mono ?_); rintro e w1 ⟨rfl, hb⟩; have HB1 := Aside0.mk (HB0.out.trans (hb.mono HB0.out.size)); have HV1 := Aside0.mk (blk_below HV0.out hb); have HM1 := Aside0.mk (blk_below HM0.out hb); have RV1 := Aside0.mk (Kd.C_below RV0.out hb); have RM1 := Aside0.mk (Kd.C_below RM0.out hb); have qV1_0 := blk_cell HV1.out 0; have qV1_1 := blk_cell HV1.out 1; have qV1_2 := blk_cell HV1.out 2; have qV1_3 := blk_cell HV1.out 3; simp only [blkV, List.getElem?_toArray, List.getElem?_cons_zero, List.getElem?_cons_succ] at qV1_0 qV1_1 qV1_2 qV1_3; clear hb))
    go_wp2_with (first | (go_at_call 38; (refine (HBig.out w1 RV1.out).mono ?_); rintro e w2 ⟨rfl, ⟨nd, rfl⟩⟩; have HS := Aside0.mk (show Below w1.heap.size w1 (World.drewN (w1.alloc (.cells #[.int .i64 n0, .int .i64 n1, .int .i64 n2, .slice A l.length c] 54)) nd) from pw_below_drewN ((Below.refl _ _).alloc (Nat.le_refl _) _) nd); generalize World.drewN _ nd = w2 at *; have HB2 := Aside0.mk (HB1.out.trans (HS.out.mono HB1.out.size)); have HV2 := Aside0.mk (blk_below HV1.out HS.out); have HM2 := Aside0.mk (blk_below HM1.out HS.out); have RV2 := Aside0.mk (Kd.C_below RV1.out HS.out); have RM2 := Aside0.mk (Kd.C_below RM1.out HS.out); have qV2_0 := blk_cell HV2.out 0; have qV2_1 := blk_cell HV2.out 1; have qV2_2 := blk_cell HV2.out 2; have qV2_3 := blk_cell HV2.out 3; simp only [blkV, List.getElem?_toArray, List.getElem?_cons_zero, List.getElem?_cons_succ] at qV2_0 qV2_1 qV2_2 qV2_3; have qM2_0 := blk_cell HM2.out 0; have qM2_1 := blk_cell HM2.out 1; have qM2_2 := blk_cell HM2.out 2; have qM2_3 := blk_cell HM2.out 3; have qM2_4 := blk_cell HM2.out 4; have qM2_5 := blk_cell HM2.out 5; have qM2_6 := blk_cell HM2.out 6; have qM2_7 := blk_cell HM2.out 7; simp only [blkM, List.getElem?_toArray, List.getElem?_cons_zero, List.getElem?_cons_succ] at qM2_0 qM2_1 qM2_2 qM2_3 qM2_4 qM2_5 qM2_6 qM2_7; clear HS))
    go_ret
    exact ⟨rfl, HB2.out⟩
  · have h70 := H70.out rfl
    have h80 := H80.out rfl
    have e70 : l.length ≤ 70 := by simpa using h70
    have e80 : lm.length ≤ 80 := h80
    have HClone := Aside0.mk (show slices_Clone_string_string.f l = some l by unfold slices_Clone_string_string.f; rw [if_pos (by omega)])
    have HCloneM := Aside0.mk (show slices_Clone_string_string.f lm = some lm by unfold slices_Clone_string_string.f; rw [if_pos (by omega)])
    have HOwn := Aside0.mk (show sextonref01_Own.f l = some l by unfold sextonref01_Own.f; rw [if_pos (by simp only [List.length_nil]; omega)]; rfl)
    have HOwnM := Aside0.mk (show sextonref01_Own.f lm = some lm by unfold sextonref01_Own.f; rw [if_pos (by simp only [List.length_nil]; omega)]; rfl)
    obtain ⟨y0, y1, y2, ly, ok, hy1, hy2, hly⟩ : ∃ y0 y1 y2 ly ok, msg_Vote.f m0 m1 m2 m3 m4 m5 m6 lm = some (y0, y1, y2, ly, ok) ∧ sextonref23_Vote.f m0 m1 m2 m3 m4 m5 m6 lm = some (y0, y1, y2, ly, ok) ∧ ly.length ≤ 80 := by
      by_cases hm : m0 = 3
      · refine ⟨m1, m4, m5, lm, true, ?_, ?_, e80⟩
        · unfold msg_Vote.f; rw [if_pos hm, HCloneM.out, Option.bind_some]
        · unfold sextonref23_Vote.f; rw [if_pos hm, HOwnM.out, Option.bind_some]
      · refine ⟨0, 0, 0, [], false, ?_, ?_, by simp⟩
        · unfold msg_Vote.f; rw [if_neg hm]
        · unfold sextonref23_Vote.f; rw [if_neg hm]
    obtain ⟨K2, e2⟩ := refTexts l l (by omega)
    obtain ⟨K3, e3⟩ := refTexts ly ly (by omega)
    simp only [decide_true] at e2 e3
    have HSame := Aside0.mk (fun (x0 x1 x2 x3 x4 x5 x6 : Int) => (show sextonref23_Same.f K2 x0 x1 x2 x3 x4 x5 x6 l x0 x1 x2 x3 x4 x5 x6 l = some true by unfold sextonref23_Same.f; rw [if_pos rfl, if_pos rfl, if_pos rfl, if_pos rfl, if_pos rfl, if_pos rfl, if_pos rfl, e2 K2 (Nat.le_refl _), Option.bind_some]))
    have hte : sextonref01_Texts.f 1 [] [] = some true := by unfold sextonref01_Texts.f; simp [sextonref01_Texts.l0]
    have HSameE := Aside0.mk (fun (x0 x1 x2 x3 x4 x5 x6 : Int) => (show sextonref23_Same.f 1 x0 x1 x2 x3 x4 x5 x6 [] x0 x1 x2 x3 x4 x5 x6 [] = some true by unfold sextonref23_Same.f; rw [if_pos rfl, if_pos rfl, if_pos rfl, if_pos rfl, if_pos rfl, if_pos rfl, if_pos rfl, hte, Option.bind_some]))
    have HSameV := Aside0.mk (show sextonref22_SameVote.f K2 n0 n1 n2 l n0 n1 n2 l = some true by unfold sextonref22_SameVote.f; rw [if_pos rfl, if_pos rfl, if_pos rfl, e2 K2 (Nat.le_refl _), Option.bind_some])
    have HSameY := Aside0.mk (show sextonref22_SameVote.f K3 y0 y1 y2 ly y0 y1 y2 ly = some true by unfold sextonref22_SameVote.f; rw [if_pos rfl, if_pos rfl, if_pos rfl, e3 K3 (Nat.le_refl _), Option.bind_some])
    have HY1 := Aside0.mk hy1
    have HY2 := Aside0.mk hy2
    clear e2 e3 h70 h80 H70 H80 hy1 hy2 hte
    go_enter Try.func9, Try.ntmps9
    go_wp2_with (first | (go_at_call 30; (refine (HBm.out _ RM0.out).mono ?_); rintro e w1 ⟨rfl, hb⟩; have HB1 := Aside0.mk (HB0.out.trans (hb.mono HB0.out.size)); have HV1 := Aside0.mk (blk_below HV0.out hb); have HM1 := Aside0.mk (blk_below HM0.out hb); have RV1 := Aside0.mk (Kd.C_below RV0.out hb); have RM1 := Aside0.mk (Kd.C_below RM0.out hb); have qV1_0 := blk_cell HV1.out 0; have qV1_1 := blk_cell HV1.out 1; have qV1_2 := blk_cell HV1.out 2; have qV1_3 := blk_cell HV1.out 3; simp only [blkV, List.getElem?_toArray, List.getElem?_cons_zero, List.getElem?_cons_succ] at qV1_0 qV1_1 qV1_2 qV1_3; clear hb))
    go_wp2_with (first | (go_at_call 38; (refine (HBig.out w1 RV1.out).mono ?_); rintro e w2 ⟨rfl, ⟨nd, rfl⟩⟩; have HS := Aside0.mk (show Below w1.heap.size w1 (World.drewN (w1.alloc (.cells #[.int .i64 n0, .int .i64 n1, .int .i64 n2, .slice A l.length c] 54)) nd) from pw_below_drewN ((Below.refl _ _).alloc (Nat.le_refl _) _) nd); generalize World.drewN _ nd = w2 at *; have HB2 := Aside0.mk (HB1.out.trans (HS.out.mono HB1.out.size)); have HV2 := Aside0.mk (blk_below HV1.out HS.out); have HM2 := Aside0.mk (blk_below HM1.out HS.out); have RV2 := Aside0.mk (Kd.C_below RV1.out HS.out); have RM2 := Aside0.mk (Kd.C_below RM1.out HS.out); have qV2_0 := blk_cell HV2.out 0; have qV2_1 := blk_cell HV2.out 1; have qV2_2 := blk_cell HV2.out 2; have qV2_3 := blk_cell HV2.out 3; simp only [blkV, List.getElem?_toArray, List.getElem?_cons_zero, List.getElem?_cons_succ] at qV2_0 qV2_1 qV2_2 qV2_3; have qM2_0 := blk_cell HM2.out 0; have qM2_1 := blk_cell HM2.out 1; have qM2_2 := blk_cell HM2.out 2; have qM2_3 := blk_cell HM2.out 3; have qM2_4 := blk_cell HM2.out 4; have qM2_5 := blk_cell HM2.out 5; have qM2_6 := blk_cell HM2.out 6; have qM2_7 := blk_cell HM2.out 7; simp only [blkM, List.getElem?_toArray, List.getElem?_cons_zero, List.getElem?_cons_succ] at qM2_0 qM2_1 qM2_2 qM2_3 qM2_4 qM2_5 qM2_6 qM2_7; clear HS))
    go_wp2_with (first | (go_at_call 39; (refine (sextonref22_OwnVote.calls n0 n1 n2 A c l n0 n1 n2 l _ RV2.out hc (by unfold sextonref22_OwnVote.f; rw [HOwn.out, Option.bind_some])).mono ?_); rintro e w3 ⟨v, rfl, hR, hb⟩; obtain ⟨A3, c3, rfl⟩ := Kd.R_slice hR; have HRR3 := Aside0.mk hR; clear hR; have HB3 := Aside0.mk (HB2.out.trans (hb.mono HB2.out.size)); have HV3 := Aside0.mk (blk_below HV2.out hb); have HM3 := Aside0.mk (blk_below HM2.out hb); have RV3 := Aside0.mk (Kd.C_below RV2.out hb); have RM3 := Aside0.mk (Kd.C_below RM2.out hb); have RO3 := Aside0.mk (Kd.R_reads' HRR3.out).2.2; have LO := Aside0.mk (Kd.R_reads' HRR3.out).2.1; clear hb) | ((with_reducible refine gate_store (t := 54) (p := 13) rfl ?_); refine store_event (t := 54) (p := 13) (w1 := (w3.alloc (.cells (blkV 0 0 0 (.slice none 0 0)) 54)).setCells w3.heap.size 0 (blkV n0 n1 n2 (.slice A3 l.length c3)).toList) rfl rfl rfl ?hr ?_; (case hr => (unfold execOp; simp only [Act.eval, Sem.run_bind, Sem.run_pure, Result.andThen_ok]; show ((Sem.run Try.prog (Instr.storeAt 54 (.pointer (some ⟨w3.heap.size, 0, none⟩)) (.agg (blkV n0 n1 n2 (.slice A3 l.length c3)))) (w3.alloc (.cells (blkV 0 0 0 (.slice none 0 0)) 54))).andThen _) = _; rw [(store_vote (blk_new w3 (.cells (blkV 0 0 0 (.slice none 0 0)) 54)) rfl n0 n1 n2 (.slice A3 l.length c3) rfl).1]; try rfl)); intro w4 hw_; have HS := Aside0.mk (show Below w3.heap.size w3 w4 by rw [hw_]; exact below_cells ((Below.refl _ _).alloc (Nat.le_refl _) _) (Nat.le_refl _) _); have HB4 := Aside0.mk (HB3.out.trans (HS.out.mono HB3.out.size)); have HV4 := Aside0.mk (blk_below HV3.out HS.out); have HM4 := Aside0.mk (blk_below HM3.out HS.out); have RV4 := Aside0.mk (Kd.C_below RV3.out HS.out); have RM4 := Aside0.mk (Kd.C_below RM3.out HS.out); have RO4 := Aside0.mk (Kd.C_below RO3.out HS.out); have HO4 := Aside0.mk (hw_ ▸ (store_vote (blk_new w3 (.cells (blkV 0 0 0 (.slice none 0 0)) 54)) rfl n0 n1 n2 (.slice A3 l.length c3) rfl).2 : w4.heap[w3.heap.size]? = some (.cells (blkV n0 n1 n2 (.slice A3 l.length c3)) 54 (0, 0))); have GO := Aside0.mk HB3.out.size; clear hw_; clear HS; have qV4_0 := blk_cell HV4.out 0; have qV4_1 := blk_cell HV4.out 1; have qV4_2 := blk_cell HV4.out 2; have qV4_3 := blk_cell HV4.out 3; simp only [blkV, List.getElem?_toArray, List.getElem?_cons_zero, List.getElem?_cons_succ] at qV4_0 qV4_1 qV4_2 qV4_3))
    go_wp2_with (first | (go_at_call 40; (refine (msg_Prepare.calls a0 a1 a2 a3 A c l 1 a0 a1 a2 0 a3 0 l _ RV4.out hc (by unfold msg_Prepare.f; rw [HClone.out, Option.bind_some])).mono ?_); rintro e w5 ⟨v, rfl, hR, hb⟩; obtain ⟨A5, c5, rfl⟩ := Kd.R_slice hR; have HRR5 := Aside0.mk hR; clear hR; have HB5 := Aside0.mk (HB4.out.trans (hb.mono HB4.out.size)); have HV5 := Aside0.mk (blk_below HV4.out hb); have HM5 := Aside0.mk (blk_below HM4.out hb); have HO5 := Aside0.mk (blk_below HO4.out hb); have HW5 := Aside0.mk ((Below.refl w4.heap.size w4).trans (hb.mono (Nat.le_refl w4.heap.size))); have RV5 := Aside0.mk (Kd.C_below RV4.out hb); have RM5 := Aside0.mk (Kd.C_below RM4.out hb); have RO5 := Aside0.mk (Kd.C_below RO4.out hb); have RP5 := Aside0.mk (Kd.R_reads' HRR5.out).2.2; have LP := Aside0.mk (Kd.R_reads' HRR5.out).2.1; clear hb) | ((with_reducible refine gate_store (t := 29) (p := 14) rfl ?_); refine store_event (t := 29) (p := 14) (w1 := (w5.alloc (.cells (blkM 0 0 0 0 0 0 0 (.slice none 0 0)) 29)).setCells w5.heap.size 0 (blkM 1 a0 a1 a2 0 a3 0 (.slice A5 l.length c5)).toList) rfl rfl rfl ?hr ?_; (case hr => (unfold execOp; simp only [Act.eval, Sem.run_bind, Sem.run_pure, Result.andThen_ok]; show ((Sem.run Try.prog (Instr.storeAt 29 (.pointer (some ⟨w5.heap.size, 0, none⟩)) (.agg (blkM 1 a0 a1 a2 0 a3 0 (.slice A5 l.length c5)))) (w5.alloc (.cells (blkM 0 0 0 0 0 0 0 (.slice none 0 0)) 29))).andThen _) = _; rw [(store_msg (blk_new w5 (.cells (blkM 0 0 0 0 0 0 0 (.slice none 0 0)) 29)) rfl 1 a0 a1 a2 0 a3 0 (.slice A5 l.length c5) rfl).1]; try rfl)); intro w6 hw_; have HS := Aside0.mk (show Below w5.heap.size w5 w6 by rw [hw_]; exact below_cells ((Below.refl _ _).alloc (Nat.le_refl _) _) (Nat.le_refl _) _); have HB6 := Aside0.mk (HB5.out.trans (HS.out.mono HB5.out.size)); have HV6 := Aside0.mk (blk_below HV5.out HS.out); have HM6 := Aside0.mk (blk_below HM5.out HS.out); have HO6 := Aside0.mk (blk_below HO5.out HS.out); have HW6 := Aside0.mk (HW5.out.trans (HS.out.mono HW5.out.size)); have HOP6 := Aside0.mk (Kd.R_below HRR5.out HS.out); have RV6 := Aside0.mk (Kd.C_below RV5.out HS.out); have RM6 := Aside0.mk (Kd.C_below RM5.out HS.out); have RO6 := Aside0.mk (Kd.C_below RO5.out HS.out); have RP6 := Aside0.mk (Kd.C_below RP5.out HS.out); have HP6 := Aside0.mk (hw_ ▸ (store_msg (blk_new w5 (.cells (blkM 0 0 0 0 0 0 0 (.slice none 0 0)) 29)) rfl 1 a0 a1 a2 0 a3 0 (.slice A5 l.length c5) rfl).2 : w6.heap[w5.heap.size]? = some (.cells (blkM 1 a0 a1 a2 0 a3 0 (.slice A5 l.length c5)) 29 (0, 0))); have GP := Aside0.mk HB5.out.size; clear hw_; clear HS; have qV6_0 := blk_cell HV6.out 0; have qV6_1 := blk_cell HV6.out 1; have qV6_2 := blk_cell HV6.out 2; have qV6_3 := blk_cell HV6.out 3; simp only [blkV, List.getElem?_toArray, List.getElem?_cons_zero, List.getElem?_cons_succ] at qV6_0 qV6_1 qV6_2 qV6_3))
    go_wp2_with (first | (go_at_call 41; (refine (msg_Cast.calls a1 a2 n0 n1 n2 A c l 3 n0 a1 a2 n1 n2 0 l _ RV6.out hc (by unfold msg_Cast.f; rw [HClone.out, Option.bind_some])).mono ?_); rintro e w7 ⟨v, rfl, hR, hb⟩; obtain ⟨A7, c7, rfl⟩ := Kd.R_slice hR; have HRR7 := Aside0.mk hR; clear hR; have HB7 := Aside0.mk (HB6.out.trans (hb.mono HB6.out.size)); have HV7 := Aside0.mk (blk_below HV6.out hb); have HM7 := Aside0.mk (blk_below HM6.out hb); have HO7 := Aside0.mk (blk_below HO6.out hb); have HP7 := Aside0.mk (blk_below HP6.out hb); have HW7 := Aside0.mk (HW6.out.trans (hb.mono HW6.out.size)); have HOP7 := Aside0.mk (Kd.R_below HOP6.out hb); have RV7 := Aside0.mk (Kd.C_below RV6.out hb); have RM7 := Aside0.mk (Kd.C_below RM6.out hb); have RO7 := Aside0.mk (Kd.C_below RO6.out hb); have RP7 := Aside0.mk (Kd.C_below RP6.out hb); have HZ67 := Aside0.mk hb.size; have RC7 := Aside0.mk (Kd.R_reads' HRR7.out).2.2; have LC := Aside0.mk (Kd.R_reads' HRR7.out).2.1; clear hb) | ((with_reducible refine gate_store (t := 29) (p := 15) rfl ?_); refine store_event (t := 29) (p := 15) (w1 := (w7.alloc (.cells (blkM 0 0 0 0 0 0 0 (.slice none 0 0)) 29)).setCells w7.heap.size 0 (blkM 3 n0 a1 a2 n1 n2 0 (.slice A7 l.length c7)).toList) rfl rfl rfl ?hr ?_; (case hr => (unfold execOp; simp only [Act.eval, Sem.run_bind, Sem.run_pure, Result.andThen_ok]; show ((Sem.run Try.prog (Instr.storeAt 29 (.pointer (some ⟨w7.heap.size, 0, none⟩)) (.agg (blkM 3 n0 a1 a2 n1 n2 0 (.slice A7 l.length c7)))) (w7.alloc (.cells (blkM 0 0 0 0 0 0 0 (.slice none 0 0)) 29))).andThen _) = _; rw [(store_msg (blk_new w7 (.cells (blkM 0 0 0 0 0 0 0 (.slice none 0 0)) 29)) rfl 3 n0 a1 a2 n1 n2 0 (.slice A7 l.length c7) rfl).1]; try rfl)); intro w8 hw_; have HS := Aside0.mk (show Below w7.heap.size w7 w8 by rw [hw_]; exact below_cells ((Below.refl _ _).alloc (Nat.le_refl _) _) (Nat.le_refl _) _); have HB8 := Aside0.mk (HB7.out.trans (HS.out.mono HB7.out.size)); have HV8 := Aside0.mk (blk_below HV7.out HS.out); have HM8 := Aside0.mk (blk_below HM7.out HS.out); have HO8 := Aside0.mk (blk_below HO7.out HS.out); have HP8 := Aside0.mk (blk_below HP7.out HS.out); have HW8 := Aside0.mk (HW7.out.trans (HS.out.mono HW7.out.size)); have HOP8 := Aside0.mk (Kd.R_below HOP7.out HS.out); have HOC8 := Aside0.mk (Kd.R_below HRR7.out HS.out); have RV8 := Aside0.mk (Kd.C_below RV7.out HS.out); have RM8 := Aside0.mk (Kd.C_below RM7.out HS.out); have RO8 := Aside0.mk (Kd.C_below RO7.out HS.out); have RP8 := Aside0.mk (Kd.C_below RP7.out HS.out); have RC8 := Aside0.mk (Kd.C_below RC7.out HS.out); have HC8 := Aside0.mk (hw_ ▸ (store_msg (blk_new w7 (.cells (blkM 0 0 0 0 0 0 0 (.slice none 0 0)) 29)) rfl 3 n0 a1 a2 n1 n2 0 (.slice A7 l.length c7) rfl).2 : w8.heap[w7.heap.size]? = some (.cells (blkM 3 n0 a1 a2 n1 n2 0 (.slice A7 l.length c7)) 29 (0, 0))); have GC := Aside0.mk HB7.out.size; clear hw_; clear HS; have qM8_0 := blk_cell HM8.out 0; have qM8_1 := blk_cell HM8.out 1; have qM8_2 := blk_cell HM8.out 2; have qM8_3 := blk_cell HM8.out 3; have qM8_4 := blk_cell HM8.out 4; have qM8_5 := blk_cell HM8.out 5; have qM8_6 := blk_cell HM8.out 6; have qM8_7 := blk_cell HM8.out 7; simp only [blkM, List.getElem?_toArray, List.getElem?_cons_zero, List.getElem?_cons_succ] at qM8_0 qM8_1 qM8_2 qM8_3 qM8_4 qM8_5 qM8_6 qM8_7))
    go_wp2_with (first | (go_at_call 42; (refine (msg_Vote.calls m0 m1 m2 m3 m4 m5 m6 Am cm lm y0 y1 y2 ly ok _ RM8.out hcm HY1.out).mono ?_); rintro e w9 ⟨v, rfl, hR, hb⟩; obtain ⟨A9, c9, rfl⟩ := Kd.R_slice hR; have HRR9 := Aside0.mk hR; clear hR; have HB9 := Aside0.mk (HB8.out.trans (hb.mono HB8.out.size)); have HV9 := Aside0.mk (blk_below HV8.out hb); have HM9 := Aside0.mk (blk_below HM8.out hb); have HO9 := Aside0.mk (blk_below HO8.out hb); have HP9 := Aside0.mk (blk_below HP8.out hb); have HC9 := Aside0.mk (blk_below HC8.out hb); have HW9 := Aside0.mk (HW8.out.trans (hb.mono HW8.out.size)); have HOP9 := Aside0.mk (Kd.R_below HOP8.out hb); have HOC9 := Aside0.mk (Kd.R_below HOC8.out hb); have RV9 := Aside0.mk (Kd.C_below RV8.out hb); have RM9 := Aside0.mk (Kd.C_below RM8.out hb); have RO9 := Aside0.mk (Kd.C_below RO8.out hb); have RP9 := Aside0.mk (Kd.C_below RP8.out hb); have RC9 := Aside0.mk (Kd.C_below RC8.out hb); have RX9 := Aside0.mk (Kd.R_reads' HRR9.out).2.2; have LX := Aside0.mk (Kd.R_reads' HRR9.out).2.1; clear hb) | ((with_reducible refine gate_store (t := 54) (p := 16) rfl ?_); refine store_event (t := 54) (p := 16) (w1 := (w9.alloc (.cells (blkV 0 0 0 (.slice none 0 0)) 54)).setCells w9.heap.size 0 (blkV y0 y1 y2 (.slice A9 ly.length c9)).toList) rfl rfl rfl ?hr ?_; (case hr => (unfold execOp; simp only [Act.eval, Sem.run_bind, Sem.run_pure, Result.andThen_ok]; show ((Sem.run Try.prog (Instr.storeAt 54 (.pointer (some ⟨w9.heap.size, 0, none⟩)) (.agg (blkV y0 y1 y2 (.slice A9 ly.length c9)))) (w9.alloc (.cells (blkV 0 0 0 (.slice none 0 0)) 54))).andThen _) = _; rw [(store_vote (blk_new w9 (.cells (blkV 0 0 0 (.slice none 0 0)) 54)) rfl y0 y1 y2 (.slice A9 ly.length c9) rfl).1]; try rfl)); intro w10 hw_; have HS := Aside0.mk (show Below w9.heap.size w9 w10 by rw [hw_]; exact below_cells ((Below.refl _ _).alloc (Nat.le_refl _) _) (Nat.le_refl _) _); have HB10 := Aside0.mk (HB9.out.trans (HS.out.mono HB9.out.size)); have HV10 := Aside0.mk (blk_below HV9.out HS.out); have HM10 := Aside0.mk (blk_below HM9.out HS.out); have HO10 := Aside0.mk (blk_below HO9.out HS.out); have HP10 := Aside0.mk (blk_below HP9.out HS.out); have HC10 := Aside0.mk (blk_below HC9.out HS.out); have HW10 := Aside0.mk (HW9.out.trans (HS.out.mono HW9.out.size)); have HOP10 := Aside0.mk (Kd.R_below HOP9.out HS.out); have HOC10 := Aside0.mk (Kd.R_below HOC9.out HS.out); have RV10 := Aside0.mk (Kd.C_below RV9.out HS.out); have RM10 := Aside0.mk (Kd.C_below RM9.out HS.out); have RO10 := Aside0.mk (Kd.C_below RO9.out HS.out); have RP10 := Aside0.mk (Kd.C_below RP9.out HS.out); have RC10 := Aside0.mk (Kd.C_below RC9.out HS.out); have RX10 := Aside0.mk (Kd.C_below RX9.out HS.out); have HX10 := Aside0.mk (hw_ ▸ (store_vote (blk_new w9 (.cells (blkV 0 0 0 (.slice none 0 0)) 54)) rfl y0 y1 y2 (.slice A9 ly.length c9) rfl).2 : w10.heap[w9.heap.size]? = some (.cells (blkV y0 y1 y2 (.slice A9 ly.length c9)) 54 (0, 0))); have GX := Aside0.mk HB9.out.size; clear hw_; clear HS; have qM10_0 := blk_cell HM10.out 0; have qM10_1 := blk_cell HM10.out 1; have qM10_2 := blk_cell HM10.out 2; have qM10_3 := blk_cell HM10.out 3; have qM10_4 := blk_cell HM10.out 4; have qM10_5 := blk_cell HM10.out 5; have qM10_6 := blk_cell HM10.out 6; have qM10_7 := blk_cell HM10.out 7; simp only [blkM, List.getElem?_toArray, List.getElem?_cons_zero, List.getElem?_cons_succ] at qM10_0 qM10_1 qM10_2 qM10_3 qM10_4 qM10_5 qM10_6 qM10_7))
    go_wp2_with (first | (go_at_call 43; (refine (sextonref23_Vote.calls m0 m1 m2 m3 m4 m5 m6 Am cm lm y0 y1 y2 ly ok _ RM10.out hcm HY2.out).mono ?_); rintro e w11 ⟨v, rfl, hR, hb⟩; obtain ⟨A11, c11, rfl⟩ := Kd.R_slice hR; have HRR11 := Aside0.mk hR; clear hR; have HB11 := Aside0.mk (HB10.out.trans (hb.mono HB10.out.size)); have HV11 := Aside0.mk (blk_below HV10.out hb); have HM11 := Aside0.mk (blk_below HM10.out hb); have HO11 := Aside0.mk (blk_below HO10.out hb); have HP11 := Aside0.mk (blk_below HP10.out hb); have HC11 := Aside0.mk (blk_below HC10.out hb); have HX11 := Aside0.mk (blk_below HX10.out hb); have HW11 := Aside0.mk (HW10.out.trans (hb.mono HW10.out.size)); have HOP11 := Aside0.mk (Kd.R_below HOP10.out hb); have HOC11 := Aside0.mk (Kd.R_below HOC10.out hb); have RV11 := Aside0.mk (Kd.C_below RV10.out hb); have RM11 := Aside0.mk (Kd.C_below RM10.out hb); have RO11 := Aside0.mk (Kd.C_below RO10.out hb); have RP11 := Aside0.mk (Kd.C_below RP10.out hb); have RC11 := Aside0.mk (Kd.C_below RC10.out hb); have RX11 := Aside0.mk (Kd.C_below RX10.out hb); have RY11 := Aside0.mk (Kd.R_reads' HRR11.out).2.2; have LY := Aside0.mk (Kd.R_reads' HRR11.out).2.1; clear hb) | ((with_reducible refine gate_store (t := 54) (p := 18) rfl ?_); refine store_event (t := 54) (p := 18) (w1 := (w11.alloc (.cells (blkV 0 0 0 (.slice none 0 0)) 54)).setCells w11.heap.size 0 (blkV y0 y1 y2 (.slice A11 ly.length c11)).toList) rfl rfl rfl ?hr ?_; (case hr => (unfold execOp; simp only [Act.eval, Sem.run_bind, Sem.run_pure, Result.andThen_ok]; show ((Sem.run Try.prog (Instr.storeAt 54 (.pointer (some ⟨w11.heap.size, 0, none⟩)) (.agg (blkV y0 y1 y2 (.slice A11 ly.length c11)))) (w11.alloc (.cells (blkV 0 0 0 (.slice none 0 0)) 54))).andThen _) = _; rw [(store_vote (blk_new w11 (.cells (blkV 0 0 0 (.slice none 0 0)) 54)) rfl y0 y1 y2 (.slice A11 ly.length c11) rfl).1]; try rfl)); intro w12 hw_; have HS := Aside0.mk (show Below w11.heap.size w11 w12 by rw [hw_]; exact below_cells ((Below.refl _ _).alloc (Nat.le_refl _) _) (Nat.le_refl _) _); have HB12 := Aside0.mk (HB11.out.trans (HS.out.mono HB11.out.size)); have HV12 := Aside0.mk (blk_below HV11.out HS.out); have HM12 := Aside0.mk (blk_below HM11.out HS.out); have HO12 := Aside0.mk (blk_below HO11.out HS.out); have HP12 := Aside0.mk (blk_below HP11.out HS.out); have HC12 := Aside0.mk (blk_below HC11.out HS.out); have HX12 := Aside0.mk (blk_below HX11.out HS.out); have HW12 := Aside0.mk (HW11.out.trans (HS.out.mono HW11.out.size)); have HOP12 := Aside0.mk (Kd.R_below HOP11.out HS.out); have HOC12 := Aside0.mk (Kd.R_below HOC11.out HS.out); have RV12 := Aside0.mk (Kd.C_below RV11.out HS.out); have RM12 := Aside0.mk (Kd.C_below RM11.out HS.out); have RO12 := Aside0.mk (Kd.C_below RO11.out HS.out); have RP12 := Aside0.mk (Kd.C_below RP11.out HS.out); have RC12 := Aside0.mk (Kd.C_below RC11.out HS.out); have RX12 := Aside0.mk (Kd.C_below RX11.out HS.out); have RY12 := Aside0.mk (Kd.C_below RY11.out HS.out); have HY12 := Aside0.mk (hw_ ▸ (store_vote (blk_new w11 (.cells (blkV 0 0 0 (.slice none 0 0)) 54)) rfl y0 y1 y2 (.slice A11 ly.length c11) rfl).2 : w12.heap[w11.heap.size]? = some (.cells (blkV y0 y1 y2 (.slice A11 ly.length c11)) 54 (0, 0))); have GY := Aside0.mk HB11.out.size; clear hw_; clear HS; have qP12_0 := blk_cell HP12.out 0; have qP12_1 := blk_cell HP12.out 1; have qP12_2 := blk_cell HP12.out 2; have qP12_3 := blk_cell HP12.out 3; have qP12_4 := blk_cell HP12.out 4; have qP12_5 := blk_cell HP12.out 5; have qP12_6 := blk_cell HP12.out 6; have qP12_7 := blk_cell HP12.out 7; simp only [blkM, List.getElem?_toArray, List.getElem?_cons_zero, List.getElem?_cons_succ] at qP12_0 qP12_1 qP12_2 qP12_3 qP12_4 qP12_5 qP12_6 qP12_7; have qO12_0 := blk_cell HO12.out 0; have qO12_1 := blk_cell HO12.out 1; have qO12_2 := blk_cell HO12.out 2; have qO12_3 := blk_cell HO12.out 3; simp only [blkV, List.getElem?_toArray, List.getElem?_cons_zero, List.getElem?_cons_succ] at qO12_0 qO12_1 qO12_2 qO12_3))
    have HS := Aside0.mk (below_drew1 (Below.refl w12.heap.size w12))
    have DP := Aside0.mk (blk_drew HP12.out)
    have DO := Aside0.mk (blk_drew HO12.out)
    have DC := Aside0.mk (blk_drew HC12.out)
    have DX := Aside0.mk (blk_drew HX12.out)
    have DY := Aside0.mk (blk_drew HY12.out)
    refine start_ (n := 41) (S := fun w' => w'.cell? ⟨w5.heap.size, 0, none⟩ = some (.int .i64 1) ∧ w'.cell? ⟨w5.heap.size, 1, none⟩ = some (.int .i64 a0) ∧ w'.cell? ⟨w5.heap.size, 2, none⟩ = some (.int .i64 a1) ∧ w'.cell? ⟨w5.heap.size, 3, none⟩ = some (.int .i64 a2) ∧ w'.cell? ⟨w5.heap.size, 4, none⟩ = some (.int .i64 0) ∧ w'.cell? ⟨w5.heap.size, 5, none⟩ = some (.int .i64 a3) ∧ w'.cell? ⟨w5.heap.size, 6, none⟩ = some (.int .i64 0) ∧ w'.cell? ⟨w5.heap.size, 7, none⟩ = some (.slice A5 l.length c5) ∧ w'.cell? ⟨w3.heap.size, 0, none⟩ = some (.int .i64 n0) ∧ w'.cell? ⟨w3.heap.size, 1, none⟩ = some (.int .i64 n1) ∧ w'.cell? ⟨w3.heap.size, 2, none⟩ = some (.int .i64 n2) ∧ w'.cell? ⟨w3.heap.size, 3, none⟩ = some (.slice A3 l.length c3) ∧ w'.cell? ⟨w7.heap.size, 0, none⟩ = some (.int .i64 3) ∧ w'.cell? ⟨w7.heap.size, 1, none⟩ = some (.int .i64 n0) ∧ w'.cell? ⟨w7.heap.size, 2, none⟩ = some (.int .i64 a1) ∧ w'.cell? ⟨w7.heap.size, 3, none⟩ = some (.int .i64 a2) ∧ w'.cell? ⟨w7.heap.size, 4, none⟩ = some (.int .i64 n1) ∧ w'.cell? ⟨w7.heap.size, 5, none⟩ = some (.int .i64 n2) ∧ w'.cell? ⟨w7.heap.size, 6, none⟩ = some (.int .i64 0) ∧ w'.cell? ⟨w7.heap.size, 7, none⟩ = some (.slice A7 l.length c7) ∧ w'.cell? ⟨w9.heap.size, 0, none⟩ = some (.int .i64 y0) ∧ w'.cell? ⟨w9.heap.size, 1, none⟩ = some (.int .i64 y1) ∧ w'.cell? ⟨w9.heap.size, 2, none⟩ = some (.int .i64 y2) ∧ w'.cell? ⟨w9.heap.size, 3, none⟩ = some (.slice A9 ly.length c9) ∧ w'.cell? ⟨w11.heap.size, 0, none⟩ = some (.int .i64 y0) ∧ w'.cell? ⟨w11.heap.size, 1, none⟩ = some (.int .i64 y1) ∧ w'.cell? ⟨w11.heap.size, 2, none⟩ = some (.int .i64 y2) ∧ w'.cell? ⟨w11.heap.size, 3, none⟩ = some (.slice A11 ly.length c11)) (ds := []) #[false, false, false, false, false, false, false, false, false, false, false, false, false, false, false, false, false, false, false, false, false, false, false, false, false, false, false, false, false, false, false, false, false, false, false, false, false, false, false, false, false] (by kernel_rfl) rfl rfl ⟨(blk_cell DP.out 0).trans rfl, (blk_cell DP.out 1).trans rfl, (blk_cell DP.out 2).trans rfl, (blk_cell DP.out 3).trans rfl, (blk_cell DP.out 4).trans rfl, (blk_cell DP.out 5).trans rfl, (blk_cell DP.out 6).trans rfl, (blk_cell DP.out 7).trans rfl, (blk_cell DO.out 0).trans rfl, (blk_cell DO.out 1).trans rfl, (blk_cell DO.out 2).trans rfl, (blk_cell DO.out 3).trans rfl, (blk_cell DC.out 0).trans rfl, (blk_cell DC.out 1).trans rfl, (blk_cell DC.out 2).trans rfl, (blk_cell DC.out 3).trans rfl, (blk_cell DC.out 4).trans rfl, (blk_cell DC.out 5).trans rfl, (blk_cell DC.out 6).trans rfl, (blk_cell DC.out 7).trans rfl, (blk_cell DX.out 0).trans rfl, (blk_cell DX.out 1).trans rfl, (blk_cell DX.out 2).trans rfl, (blk_cell DX.out 3).trans rfl, (blk_cell DY.out 0).trans rfl, (blk_cell DY.out 1).trans rfl, (blk_cell DY.out 2).trans rfl, (blk_cell DY.out 3).trans rfl⟩ (fun hHeld => ?_)
    generalize w12.drew = w13 at HS DP DO DC DX DY hHeld ⊢
    have HB13 := Aside0.mk (HB12.out.trans (HS.out.mono HB12.out.size))
    have HV13 := Aside0.mk (blk_below HV12.out HS.out)
    have HM13 := Aside0.mk (blk_below HM12.out HS.out)
    have HO13 := Aside0.mk (blk_below HO12.out HS.out)
    have HP13 := Aside0.mk (blk_below HP12.out HS.out)
    have HC13 := Aside0.mk (blk_below HC12.out HS.out)
    have HX13 := Aside0.mk (blk_below HX12.out HS.out)
    have HY13 := Aside0.mk (blk_below HY12.out HS.out)
    have HW13 := Aside0.mk (HW12.out.trans (HS.out.mono HW12.out.size))
    have HOP13 := Aside0.mk (Kd.R_below HOP12.out HS.out)
    have HOC13 := Aside0.mk (Kd.R_below HOC12.out HS.out)
    have RV13 := Aside0.mk (Kd.C_below RV12.out HS.out)
    have RM13 := Aside0.mk (Kd.C_below RM12.out HS.out)
    have RO13 := Aside0.mk (Kd.C_below RO12.out HS.out)
    have RP13 := Aside0.mk (Kd.C_below RP12.out HS.out)
    have RC13 := Aside0.mk (Kd.C_below RC12.out HS.out)
    have RX13 := Aside0.mk (Kd.C_below RX12.out HS.out)
    have RY13 := Aside0.mk (Kd.C_below RY12.out HS.out)
    clear HS DP DO DC DX DY
    refine pure_ (i := 1) (N := some 53) (v := ?_) (a' := ?_) #[false, true, false, false, false, false, false, false, false, false, false, false, false, false, false, false, false, false, false, false, false, false, false, false, false, false, false, false, false, false, false, false, false, false, false, false, false, false, false, false, false] rfl rfl (by kernel_rfl) (fun _ _ _ h => h) (Or.inl ⟨by rfl, ?_⟩) ?_ ?_
    rotate_left
    · intro w'
      go_simp
      with_reducible rfl
    rotate_left
    · simp only [Act.put, List.setIfInBounds_toArray, List.set_cons_zero, List.set_cons_succ, i64_w, i32_w]
      rfl
    refine pure_ (i := 2) (N := some 54) (v := ?_) (a' := ?_) #[false, true, true, false, false, false, false, false, false, false, false, false, false, false, false, false, false, false, false, false, false, false, false, false, false, false, false, false, false, false, false, false, false, false, false, false, false, false, false, false, false] rfl rfl (by kernel_rfl) (fun _ _ _ h => h) (Or.inl ⟨by rfl, ?_⟩) ?_ ?_
    rotate_left
    · intro w'
      go_simp
      with_reducible rfl
    rotate_left
    · simp only [Act.put, List.setIfInBounds_toArray, List.set_cons_zero, List.set_cons_succ, i64_w, i32_w]
      rfl
    refine pure_ (i := 3) (N := some 55) (v := ?_) (a' := ?_) #[false, true, true, true, false, false, false, false, false, false, false, false, false, false, false, false, false, false, false, false, false, false, false, false, false, false, false, false, false, false, false, false, false, false, false, false, false, false, false, false, false] rfl rfl (by kernel_rfl) (fun _ _ _ h => h) (Or.inl ⟨by rfl, ?_⟩) ?_ ?_
    rotate_left
    · intro w'
      go_simp
      with_reducible rfl
    rotate_left
    · simp only [Act.put, List.setIfInBounds_toArray, List.set_cons_zero, List.set_cons_succ, i64_w, i32_w]
      rfl
    refine pure_ (i := 4) (N := some 56) (v := ?_) (a' := ?_) #[false, true, true, true, true, false, false, false, false, false, false, false, false, false, false, false, false, false, false, false, false, false, false, false, false, false, false, false, false, false, false, false, false, false, false, false, false, false, false, false, false] rfl rfl (by kernel_rfl) (fun _ _ _ h => h) (Or.inl ⟨by rfl, ?_⟩) ?_ ?_
    rotate_left
    · intro w'
      go_simp
      with_reducible rfl
    rotate_left
    · simp only [Act.put, List.setIfInBounds_toArray, List.set_cons_zero, List.set_cons_succ, i64_w, i32_w]
      rfl
    refine pure_ (i := 5) (N := some 57) (v := ?_) (a' := ?_) #[false, true, true, true, true, true, false, false, false, false, false, false, false, false, false, false, false, false, false, false, false, false, false, false, false, false, false, false, false, false, false, false, false, false, false, false, false, false, false, false, false] rfl rfl (by kernel_rfl) (fun _ _ _ h => h) (Or.inl ⟨by rfl, ?_⟩) ?_ ?_
    rotate_left
    · intro w'
      go_simp
      with_reducible rfl
    rotate_left
    · simp only [Act.put, List.setIfInBounds_toArray, List.set_cons_zero, List.set_cons_succ, i64_w, i32_w]
      rfl
    refine take_ (i := 0) (N := some 52) (v := ?_) (a' := ?_) #[true, true, true, true, true, true, false, false, false, false, false, false, false, false, false, false, false, false, false, false, false, false, false, false, false, false, false, false, false, false, false, false, false, false, false, false, false, false, false, false, false] rfl rfl (by kernel_rfl) (fun _ _ _ h => h) (Or.inl ⟨by rfl, ?_⟩) hHeld ?_ ?_
    rotate_left
    · rintro w' ⟨s0, s1, s2, s3, s4, s5, s6, s7, s8, s9, s10, s11, s12, s13, s14, s15, s16, s17, s18, s19, s20, s21, s22, s23, s24, s25, s26, s27⟩
      go_simp
      with_reducible rfl
    rotate_left
    · simp only [Act.put, List.setIfInBounds_toArray, List.set_cons_zero, List.set_cons_succ, i64_w, i32_w]
      rfl
    refine take_ (i := 6) (N := some 58) (v := ?_) (a' := ?_) #[true, true, true, true, true, true, true, false, false, false, false, false, false, false, false, false, false, false, false, false, false, false, false, false, false, false, false, false, false, false, false, false, false, false, false, false, false, false, false, false, false] rfl rfl (by kernel_rfl) (fun _ _ _ h => h) (Or.inl ⟨by rfl, ?_⟩) hHeld ?_ ?_
    rotate_left
    · rintro w' ⟨s0, s1, s2, s3, s4, s5, s6, s7, s8, s9, s10, s11, s12, s13, s14, s15, s16, s17, s18, s19, s20, s21, s22, s23, s24, s25, s26, s27⟩
      go_simp
      with_reducible rfl
    rotate_left
    · simp only [Act.put, List.setIfInBounds_toArray, List.set_cons_zero, List.set_cons_succ, i64_w, i32_w]
      rfl
    refine one_ (i := 7) (N := some 59) #[true, true, true, true, true, true, true, true, false, false, false, false, false, false, false, false, false, false, false, false, false, false, false, false, false, false, false, false, false, false, false, false, false, false, false, false, false, false, false, false, false] rfl rfl (by kernel_rfl) (by decide) (fun K hK => ?_)
    refine goes_ Try.func44 (by kernel_rfl) rfl #[.int .i64 a0, .int .i64 a1, .int .i64 a2, .int .i64 a3, .slice A3 l.length c3] (by rfl) rfl rfl (by (try simp only [List.map_toArray, List.map_cons, List.map_nil]); first | done | rfl) ?_
    refine (sextonref23_Prepare.calls a0 a1 a2 a3 A3 c3 l 1 a0 a1 a2 0 a3 0 l _ RO13.out LO.out (by unfold sextonref23_Prepare.f; rw [HOwn.out, Option.bind_some])).mono ?_
    rintro e w14 ⟨v, rfl, hR, hb⟩
    refine ⟨_, rfl, ?_⟩
    obtain ⟨A14, c14, rfl⟩ := Kd.R_slice hR
    have HRR14 := Aside0.mk hR
    clear hR
    have HB14 := Aside0.mk (HB13.out.trans (hb.mono HB13.out.size))
    have HV14 := Aside0.mk (blk_below HV13.out hb)
    have HM14 := Aside0.mk (blk_below HM13.out hb)
    have HO14 := Aside0.mk (blk_below HO13.out hb)
    have HP14 := Aside0.mk (blk_below HP13.out hb)
    have HC14 := Aside0.mk (blk_below HC13.out hb)
    have HX14 := Aside0.mk (blk_below HX13.out hb)
    have HY14 := Aside0.mk (blk_below HY13.out hb)
    have HW14 := Aside0.mk (HW13.out.trans (hb.mono HW13.out.size))
    have HOP14 := Aside0.mk (Kd.R_below HOP13.out hb)
    have HOC14 := Aside0.mk (Kd.R_below HOC13.out hb)
    have RV14 := Aside0.mk (Kd.C_below RV13.out hb)
    have RM14 := Aside0.mk (Kd.C_below RM13.out hb)
    have RO14 := Aside0.mk (Kd.C_below RO13.out hb)
    have RP14 := Aside0.mk (Kd.C_below RP13.out hb)
    have RC14 := Aside0.mk (Kd.C_below RC13.out hb)
    have RX14 := Aside0.mk (Kd.C_below RX13.out hb)
    have RY14 := Aside0.mk (Kd.C_below RY13.out hb)
    have RQ14 := Aside0.mk (Kd.R_reads' HRR14.out).2.2
    have LQ := Aside0.mk (Kd.R_reads' HRR14.out).2.1
    clear hb
    refine hK.out _ _ ⟨(blk_cell HP14.out 0).trans rfl, (blk_cell HP14.out 1).trans rfl, (blk_cell HP14.out 2).trans rfl, (blk_cell HP14.out 3).trans rfl, (blk_cell HP14.out 4).trans rfl, (blk_cell HP14.out 5).trans rfl, (blk_cell HP14.out 6).trans rfl, (blk_cell HP14.out 7).trans rfl, (blk_cell HO14.out 0).trans rfl, (blk_cell HO14.out 1).trans rfl, (blk_cell HO14.out 2).trans rfl, (blk_cell HO14.out 3).trans rfl, (blk_cell HC14.out 0).trans rfl, (blk_cell HC14.out 1).trans rfl, (blk_cell HC14.out 2).trans rfl, (blk_cell HC14.out 3).trans rfl, (blk_cell HC14.out 4).trans rfl, (blk_cell HC14.out 5).trans rfl, (blk_cell HC14.out 6).trans rfl, (blk_cell HC14.out 7).trans rfl, (blk_cell HX14.out 0).trans rfl, (blk_cell HX14.out 1).trans rfl, (blk_cell HX14.out 2).trans rfl, (blk_cell HX14.out 3).trans rfl, (blk_cell HY14.out 0).trans rfl, (blk_cell HY14.out 1).trans rfl, (blk_cell HY14.out 2).trans rfl, (blk_cell HY14.out 3).trans rfl⟩ (fun hHeld => ?_)
    clear hK K
    refine norm_ (a' := ?_) ?_ ?_
    rotate_left
    · show Act.put _ (some 59) _ = _
      simp only [Act.put, List.setIfInBounds_toArray, List.set_cons_zero, List.set_cons_succ, i64_w, i32_w]
      rfl
    refine one_ (i := 8) (N := some 60) #[true, true, true, true, true, true, true, true, true, false, false, false, false, false, false, false, false, false, false, false, false, false, false, false, false, false, false, false, false, false, false, false, false, false, false, false, false, false, false, false, false] rfl rfl (by kernel_rfl) (by decide) (fun K hK => ?_)
    refine goes_ Try.func26 (by kernel_rfl) rfl #[.agg #[.int .i64 1, .int .i64 a0, .int .i64 a1, .int .i64 a2, .int .i64 0, .int .i64 a3, .int .i64 0, .slice A5 l.length c5], .agg #[.int .i64 1, .int .i64 a0, .int .i64 a1, .int .i64 a2, .int .i64 0, .int .i64 a3, .int .i64 0, .slice A14 l.length c14]] (by rfl) rfl rfl (by (try simp only [List.map_toArray, List.map_cons, List.map_nil]); first | done | rfl) ?_
    refine (sextonref23_Same.calls K2 1 a0 a1 a2 0 a3 0 A5 c5 l 1 a0 a1 a2 0 a3 0 A14 c14 l true _ RP14.out LP.out RQ14.out LQ.out (HSame.out 1 a0 a1 a2 0 a3 0)).mono ?_
    rintro e w15 ⟨rfl, hb⟩
    refine ⟨_, rfl, ?_⟩
    have HB15 := Aside0.mk (HB14.out.trans (hb.mono HB14.out.size))
    have HV15 := Aside0.mk (blk_below HV14.out hb)
    have HM15 := Aside0.mk (blk_below HM14.out hb)
    have HO15 := Aside0.mk (blk_below HO14.out hb)
    have HP15 := Aside0.mk (blk_below HP14.out hb)
    have HC15 := Aside0.mk (blk_below HC14.out hb)
    have HX15 := Aside0.mk (blk_below HX14.out hb)
    have HY15 := Aside0.mk (blk_below HY14.out hb)
    have HW15 := Aside0.mk (HW14.out.trans (hb.mono HW14.out.size))
    have HOP15 := Aside0.mk (Kd.R_below HOP14.out hb)
    have HOC15 := Aside0.mk (Kd.R_below HOC14.out hb)
    have RV15 := Aside0.mk (Kd.C_below RV14.out hb)
    have RM15 := Aside0.mk (Kd.C_below RM14.out hb)
    have RO15 := Aside0.mk (Kd.C_below RO14.out hb)
    have RP15 := Aside0.mk (Kd.C_below RP14.out hb)
    have RC15 := Aside0.mk (Kd.C_below RC14.out hb)
    have RX15 := Aside0.mk (Kd.C_below RX14.out hb)
    have RY15 := Aside0.mk (Kd.C_below RY14.out hb)
    have RQ15 := Aside0.mk (Kd.C_below RQ14.out hb)
    clear hb
    refine hK.out _ _ ⟨(blk_cell HP15.out 0).trans rfl, (blk_cell HP15.out 1).trans rfl, (blk_cell HP15.out 2).trans rfl, (blk_cell HP15.out 3).trans rfl, (blk_cell HP15.out 4).trans rfl, (blk_cell HP15.out 5).trans rfl, (blk_cell HP15.out 6).trans rfl, (blk_cell HP15.out 7).trans rfl, (blk_cell HO15.out 0).trans rfl, (blk_cell HO15.out 1).trans rfl, (blk_cell HO15.out 2).trans rfl, (blk_cell HO15.out 3).trans rfl, (blk_cell HC15.out 0).trans rfl, (blk_cell HC15.out 1).trans rfl, (blk_cell HC15.out 2).trans rfl, (blk_cell HC15.out 3).trans rfl, (blk_cell HC15.out 4).trans rfl, (blk_cell HC15.out 5).trans rfl, (blk_cell HC15.out 6).trans rfl, (blk_cell HC15.out 7).trans rfl, (blk_cell HX15.out 0).trans rfl, (blk_cell HX15.out 1).trans rfl, (blk_cell HX15.out 2).trans rfl, (blk_cell HX15.out 3).trans rfl, (blk_cell HY15.out 0).trans rfl, (blk_cell HY15.out 1).trans rfl, (blk_cell HY15.out 2).trans rfl, (blk_cell HY15.out 3).trans rfl⟩ (fun hHeld => ?_)
    clear hK K
    refine norm_ (a' := ?_) ?_ ?_
    rotate_left
    · show Act.put _ (some 60) _ = _
      simp only [Act.put, List.setIfInBounds_toArray, List.set_cons_zero, List.set_cons_succ, i64_w, i32_w]
      rfl
    refine pure_ (i := 9) (N := some 61) (v := ?_) (a' := ?_) #[true, true, true, true, true, true, true, true, true, true, false, false, false, false, false, false, false, false, false, false, false, false, false, false, false, false, false, false, false, false, false, false, false, false, false, false, false, false, false, false, false] rfl rfl (by kernel_rfl) (fun _ _ _ h => h) (Or.inl ⟨by rfl, ?_⟩) ?_ ?_
    rotate_left
    · intro w'
      go_simp
      with_reducible rfl
    rotate_left
    · simp only [Act.put, List.setIfInBounds_toArray, List.set_cons_zero, List.set_cons_succ, i64_w, i32_w]
      rfl
    refine pure_ (i := 11) (N := some 63) (v := ?_) (a' := ?_) #[true, true, true, true, true, true, true, true, true, true, false, true, false, false, false, false, false, false, false, false, false, false, false, false, false, false, false, false, false, false, false, false, false, false, false, false, false, false, false, false, false] rfl rfl (by kernel_rfl) (fun _ _ _ h => h) (Or.inl ⟨by rfl, ?_⟩) ?_ ?_
    rotate_left
    · intro w'
      go_simp
      with_reducible rfl
    rotate_left
    · simp only [Act.put, List.setIfInBounds_toArray, List.set_cons_zero, List.set_cons_succ, i64_w, i32_w]
      rfl
    refine pure_ (i := 12) (N := some 64) (v := ?_) (a' := ?_) #[true, true, true, true, true, true, true, true, true, true, false, true, true, false, false, false, false, false, false, false, false, false, false, false, false, false, false, false, false, false, false, false, false, false, false, false, false, false, false, false, false] rfl rfl (by kernel_rfl) (fun _ _ _ h => h) (Or.inl ⟨by rfl, ?_⟩) ?_ ?_
    rotate_left
    · intro w'
      go_simp
      with_reducible rfl
    rotate_left
    · simp only [Act.put, List.setIfInBounds_toArray, List.set_cons_zero, List.set_cons_succ, i64_w, i32_w]
      rfl
    refine take_ (i := 10) (N := some 62) (v := ?_) (a' := ?_) #[true, true, true, true, true, true, true, true, true, true, true, true, true, false, false, false, false, false, false, false, false, false, false, false, false, false, false, false, false, false, false, false, false, false, false, false, false, false, false, false, false] rfl rfl (by kernel_rfl) (fun _ _ _ h => h) (Or.inl ⟨by rfl, ?_⟩) hHeld ?_ ?_
    rotate_left
    · rintro w' ⟨s0, s1, s2, s3, s4, s5, s6, s7, s8, s9, s10, s11, s12, s13, s14, s15, s16, s17, s18, s19, s20, s21, s22, s23, s24, s25, s26, s27⟩
      go_simp
      with_reducible rfl
    rotate_left
    · simp only [Act.put, List.setIfInBounds_toArray, List.set_cons_zero, List.set_cons_succ, i64_w, i32_w]
      rfl
    refine take_ (i := 13) (N := some 65) (v := ?_) (a' := ?_) #[true, true, true, true, true, true, true, true, true, true, true, true, true, true, false, false, false, false, false, false, false, false, false, false, false, false, false, false, false, false, false, false, false, false, false, false, false, false, false, false, false] rfl rfl (by kernel_rfl) (fun _ _ _ h => h) (Or.inl ⟨by rfl, ?_⟩) hHeld ?_ ?_
    rotate_left
    · rintro w' ⟨s0, s1, s2, s3, s4, s5, s6, s7, s8, s9, s10, s11, s12, s13, s14, s15, s16, s17, s18, s19, s20, s21, s22, s23, s24, s25, s26, s27⟩
      go_simp
      with_reducible rfl
    rotate_left
    · simp only [Act.put, List.setIfInBounds_toArray, List.set_cons_zero, List.set_cons_succ, i64_w, i32_w]
      rfl
    refine one_ (i := 14) (N := some 66) #[true, true, true, true, true, true, true, true, true, true, true, true, true, true, true, false, false, false, false, false, false, false, false, false, false, false, false, false, false, false, false, false, false, false, false, false, false, false, false, false, false] rfl rfl (by kernel_rfl) (by decide) (fun K hK => ?_)
    refine goes_ Try.func45 (by kernel_rfl) rfl #[.int .i64 a1, .int .i64 a2, .agg #[.int .i64 n0, .int .i64 n1, .int .i64 n2, .slice A3 l.length c3]] (by rfl) rfl rfl (by (try simp only [List.map_toArray, List.map_cons, List.map_nil]); first | done | rfl) ?_
    refine (sextonref23_Cast.calls a1 a2 n0 n1 n2 A3 c3 l 3 n0 a1 a2 n1 n2 0 l _ RO15.out LO.out (by unfold sextonref23_Cast.f; rw [HOwn.out, Option.bind_some])).mono ?_
    rintro e w16 ⟨v, rfl, hR, hb⟩
    refine ⟨_, rfl, ?_⟩
    obtain ⟨A16, c16, rfl⟩ := Kd.R_slice hR
    have HRR16 := Aside0.mk hR
    clear hR
    have HB16 := Aside0.mk (HB15.out.trans (hb.mono HB15.out.size))
    have HV16 := Aside0.mk (blk_below HV15.out hb)
    have HM16 := Aside0.mk (blk_below HM15.out hb)
    have HO16 := Aside0.mk (blk_below HO15.out hb)
    have HP16 := Aside0.mk (blk_below HP15.out hb)
    have HC16 := Aside0.mk (blk_below HC15.out hb)
    have HX16 := Aside0.mk (blk_below HX15.out hb)
    have HY16 := Aside0.mk (blk_below HY15.out hb)
    have HW16 := Aside0.mk (HW15.out.trans (hb.mono HW15.out.size))
    have HOP16 := Aside0.mk (Kd.R_below HOP15.out hb)
    have HOC16 := Aside0.mk (Kd.R_below HOC15.out hb)
    have RV16 := Aside0.mk (Kd.C_below RV15.out hb)
    have RM16 := Aside0.mk (Kd.C_below RM15.out hb)
    have RO16 := Aside0.mk (Kd.C_below RO15.out hb)
    have RP16 := Aside0.mk (Kd.C_below RP15.out hb)
    have RC16 := Aside0.mk (Kd.C_below RC15.out hb)
    have RX16 := Aside0.mk (Kd.C_below RX15.out hb)
    have RY16 := Aside0.mk (Kd.C_below RY15.out hb)
    have RU16 := Aside0.mk (Kd.R_reads' HRR16.out).2.2
    have LU := Aside0.mk (Kd.R_reads' HRR16.out).2.1
    clear hb
    refine hK.out _ _ ⟨(blk_cell HP16.out 0).trans rfl, (blk_cell HP16.out 1).trans rfl, (blk_cell HP16.out 2).trans rfl, (blk_cell HP16.out 3).trans rfl, (blk_cell HP16.out 4).trans rfl, (blk_cell HP16.out 5).trans rfl, (blk_cell HP16.out 6).trans rfl, (blk_cell HP16.out 7).trans rfl, (blk_cell HO16.out 0).trans rfl, (blk_cell HO16.out 1).trans rfl, (blk_cell HO16.out 2).trans rfl, (blk_cell HO16.out 3).trans rfl, (blk_cell HC16.out 0).trans rfl, (blk_cell HC16.out 1).trans rfl, (blk_cell HC16.out 2).trans rfl, (blk_cell HC16.out 3).trans rfl, (blk_cell HC16.out 4).trans rfl, (blk_cell HC16.out 5).trans rfl, (blk_cell HC16.out 6).trans rfl, (blk_cell HC16.out 7).trans rfl, (blk_cell HX16.out 0).trans rfl, (blk_cell HX16.out 1).trans rfl, (blk_cell HX16.out 2).trans rfl, (blk_cell HX16.out 3).trans rfl, (blk_cell HY16.out 0).trans rfl, (blk_cell HY16.out 1).trans rfl, (blk_cell HY16.out 2).trans rfl, (blk_cell HY16.out 3).trans rfl⟩ (fun hHeld => ?_)
    clear hK K
    refine norm_ (a' := ?_) ?_ ?_
    rotate_left
    · show Act.put _ (some 66) _ = _
      simp only [Act.put, List.setIfInBounds_toArray, List.set_cons_zero, List.set_cons_succ, i64_w, i32_w]
      rfl
    refine one_ (i := 15) (N := some 67) #[true, true, true, true, true, true, true, true, true, true, true, true, true, true, true, true, false, false, false, false, false, false, false, false, false, false, false, false, false, false, false, false, false, false, false, false, false, false, false, false, false] rfl rfl (by kernel_rfl) (by decide) (fun K hK => ?_)
    refine goes_ Try.func26 (by kernel_rfl) rfl #[.agg #[.int .i64 3, .int .i64 n0, .int .i64 a1, .int .i64 a2, .int .i64 n1, .int .i64 n2, .int .i64 0, .slice A7 l.length c7], .agg #[.int .i64 3, .int .i64 n0, .int .i64 a1, .int .i64 a2, .int .i64 n1, .int .i64 n2, .int .i64 0, .slice A16 l.length c16]] (by rfl) rfl rfl (by (try simp only [List.map_toArray, List.map_cons, List.map_nil]); first | done | rfl) ?_
    refine (sextonref23_Same.calls K2 3 n0 a1 a2 n1 n2 0 A7 c7 l 3 n0 a1 a2 n1 n2 0 A16 c16 l true _ RC16.out LC.out RU16.out LU.out (HSame.out 3 n0 a1 a2 n1 n2 0)).mono ?_
    rintro e w17 ⟨rfl, hb⟩
    refine ⟨_, rfl, ?_⟩
    have HB17 := Aside0.mk (HB16.out.trans (hb.mono HB16.out.size))
    have HV17 := Aside0.mk (blk_below HV16.out hb)
    have HM17 := Aside0.mk (blk_below HM16.out hb)
    have HO17 := Aside0.mk (blk_below HO16.out hb)
    have HP17 := Aside0.mk (blk_below HP16.out hb)
    have HC17 := Aside0.mk (blk_below HC16.out hb)
    have HX17 := Aside0.mk (blk_below HX16.out hb)
    have HY17 := Aside0.mk (blk_below HY16.out hb)
    have HW17 := Aside0.mk (HW16.out.trans (hb.mono HW16.out.size))
    have HOP17 := Aside0.mk (Kd.R_below HOP16.out hb)
    have HOC17 := Aside0.mk (Kd.R_below HOC16.out hb)
    have RV17 := Aside0.mk (Kd.C_below RV16.out hb)
    have RM17 := Aside0.mk (Kd.C_below RM16.out hb)
    have RO17 := Aside0.mk (Kd.C_below RO16.out hb)
    have RP17 := Aside0.mk (Kd.C_below RP16.out hb)
    have RC17 := Aside0.mk (Kd.C_below RC16.out hb)
    have RX17 := Aside0.mk (Kd.C_below RX16.out hb)
    have RY17 := Aside0.mk (Kd.C_below RY16.out hb)
    have RU17 := Aside0.mk (Kd.C_below RU16.out hb)
    clear hb
    refine hK.out _ _ ⟨(blk_cell HP17.out 0).trans rfl, (blk_cell HP17.out 1).trans rfl, (blk_cell HP17.out 2).trans rfl, (blk_cell HP17.out 3).trans rfl, (blk_cell HP17.out 4).trans rfl, (blk_cell HP17.out 5).trans rfl, (blk_cell HP17.out 6).trans rfl, (blk_cell HP17.out 7).trans rfl, (blk_cell HO17.out 0).trans rfl, (blk_cell HO17.out 1).trans rfl, (blk_cell HO17.out 2).trans rfl, (blk_cell HO17.out 3).trans rfl, (blk_cell HC17.out 0).trans rfl, (blk_cell HC17.out 1).trans rfl, (blk_cell HC17.out 2).trans rfl, (blk_cell HC17.out 3).trans rfl, (blk_cell HC17.out 4).trans rfl, (blk_cell HC17.out 5).trans rfl, (blk_cell HC17.out 6).trans rfl, (blk_cell HC17.out 7).trans rfl, (blk_cell HX17.out 0).trans rfl, (blk_cell HX17.out 1).trans rfl, (blk_cell HX17.out 2).trans rfl, (blk_cell HX17.out 3).trans rfl, (blk_cell HY17.out 0).trans rfl, (blk_cell HY17.out 1).trans rfl, (blk_cell HY17.out 2).trans rfl, (blk_cell HY17.out 3).trans rfl⟩ (fun hHeld => ?_)
    clear hK K
    refine norm_ (a' := ?_) ?_ ?_
    rotate_left
    · show Act.put _ (some 67) _ = _
      simp only [Act.put, List.setIfInBounds_toArray, List.set_cons_zero, List.set_cons_succ, i64_w, i32_w]
      rfl
    refine pure_ (i := 16) (N := some 68) (v := ?_) (a' := ?_) #[true, true, true, true, true, true, true, true, true, true, true, true, true, true, true, true, true, false, false, false, false, false, false, false, false, false, false, false, false, false, false, false, false, false, false, false, false, false, false, false, false] rfl rfl (by kernel_rfl) (fun _ _ _ h => h) (Or.inl ⟨by rfl, ?_⟩) ?_ ?_
    rotate_left
    · intro w'
      go_simp
      with_reducible rfl
    rotate_left
    · simp only [Act.put, List.setIfInBounds_toArray, List.set_cons_zero, List.set_cons_succ, i64_w, i32_w]
      rfl
    refine pure_ (i := 17) (N := some 69) (v := ?_) (a' := ?_) #[true, true, true, true, true, true, true, true, true, true, true, true, true, true, true, true, true, true, false, false, false, false, false, false, false, false, false, false, false, false, false, false, false, false, false, false, false, false, false, false, false] rfl rfl (by kernel_rfl) (fun _ _ _ h => h) (Or.inl ⟨by rfl, ?_⟩) ?_ ?_
    rotate_left
    · intro w'
      go_simp
      with_reducible rfl
    rotate_left
    · simp only [Act.put, List.setIfInBounds_toArray, List.set_cons_zero, List.set_cons_succ, i64_w, i32_w]
      rfl
    refine pure_ (i := 18) (N := some 70) (v := ?_) (a' := ?_) #[true, true, true, true, true, true, true, true, true, true, true, true, true, true, true, true, true, true, true, false, false, false, false, false, false, false, false, false, false, false, false, false, false, false, false, false, false, false, false, false, false] rfl rfl (by kernel_rfl) (fun _ _ _ h => h) (Or.inl ⟨by rfl, ?_⟩) ?_ ?_
    rotate_left
    · intro w'
      go_simp
      with_reducible rfl
    rotate_left
    · simp only [Act.put, List.setIfInBounds_toArray, List.set_cons_zero, List.set_cons_succ, i64_w, i32_w]
      rfl
    refine pure_ (i := 19) (N := some 71) (v := ?_) (a' := ?_) #[true, true, true, true, true, true, true, true, true, true, true, true, true, true, true, true, true, true, true, true, false, false, false, false, false, false, false, false, false, false, false, false, false, false, false, false, false, false, false, false, false] rfl rfl (by kernel_rfl) (fun _ _ _ h => h) (Or.inl ⟨by rfl, ?_⟩) ?_ ?_
    rotate_left
    · intro w'
      go_simp
      with_reducible rfl
    rotate_left
    · simp only [Act.put, List.setIfInBounds_toArray, List.set_cons_zero, List.set_cons_succ, i64_w, i32_w]
      rfl
    refine pure_ (i := 20) (N := some 72) (v := ?_) (a' := ?_) #[true, true, true, true, true, true, true, true, true, true, true, true, true, true, true, true, true, true, true, true, true, false, false, false, false, false, false, false, false, false, false, false, false, false, false, false, false, false, false, false, false] rfl rfl (by kernel_rfl) (fun _ _ _ h => h) (Or.inl ⟨by rfl, ?_⟩) ?_ ?_
    rotate_left
    · intro w'
      go_simp
      with_reducible rfl
    rotate_left
    · simp only [Act.put, List.setIfInBounds_toArray, List.set_cons_zero, List.set_cons_succ, i64_w, i32_w]
      rfl
    refine pure_ (i := 21) (N := some 73) (v := ?_) (a' := ?_) #[true, true, true, true, true, true, true, true, true, true, true, true, true, true, true, true, true, true, true, true, true, true, false, false, false, false, false, false, false, false, false, false, false, false, false, false, false, false, false, false, false] rfl rfl (by kernel_rfl) (fun _ _ _ h => h) (Or.inl ⟨by rfl, ?_⟩) ?_ ?_
    rotate_left
    · intro w'
      go_simp
      with_reducible rfl
    rotate_left
    · simp only [Act.put, List.setIfInBounds_toArray, List.set_cons_zero, List.set_cons_succ, i64_w, i32_w]
      rfl
    refine pure_ (i := 23) (N := some 75) (v := ?_) (a' := ?_) #[true, true, true, true, true, true, true, true, true, true, true, true, true, true, true, true, true, true, true, true, true, true, false, true, false, false, false, false, false, false, false, false, false, false, false, false, false, false, false, false, false] rfl rfl (by kernel_rfl) (fun _ _ _ h => h) (Or.inl ⟨by rfl, ?_⟩) ?_ ?_
    rotate_left
    · intro w'
      go_simp
      with_reducible rfl
    rotate_left
    · simp only [Act.put, List.setIfInBounds_toArray, List.set_cons_zero, List.set_cons_succ, i64_w, i32_w]
      rfl
    refine pure_ (i := 24) (N := some 76) (v := ?_) (a' := ?_) #[true, true, true, true, true, true, true, true, true, true, true, true, true, true, true, true, true, true, true, true, true, true, false, true, true, false, false, false, false, false, false, false, false, false, false, false, false, false, false, false, false] rfl rfl (by kernel_rfl) (fun _ _ _ h => h) (Or.inl ⟨by rfl, ?_⟩) ?_ ?_
    rotate_left
    · intro w'
      go_simp
      with_reducible rfl
    rotate_left
    · simp only [Act.put, List.setIfInBounds_toArray, List.set_cons_zero, List.set_cons_succ, i64_w, i32_w]
      rfl
    refine pure_ (i := 25) (N := some 77) (v := ?_) (a' := ?_) #[true, true, true, true, true, true, true, true, true, true, true, true, true, true, true, true, true, true, true, true, true, true, false, true, true, true, false, false, false, false, false, false, false, false, false, false, false, false, false, false, false] rfl rfl (by kernel_rfl) (fun _ _ _ h => h) (Or.inl ⟨by rfl, ?_⟩) ?_ ?_
    rotate_left
    · intro w'
      go_simp
      with_reducible rfl
    rotate_left
    · simp only [Act.put, List.setIfInBounds_toArray, List.set_cons_zero, List.set_cons_succ, i64_w, i32_w]
      rfl
    refine pure_ (i := 26) (N := some 78) (v := ?_) (a' := ?_) #[true, true, true, true, true, true, true, true, true, true, true, true, true, true, true, true, true, true, true, true, true, true, false, true, true, true, true, false, false, false, false, false, false, false, false, false, false, false, false, false, false] rfl rfl (by kernel_rfl) (fun _ _ _ h => h) (Or.inl ⟨by rfl, ?_⟩) ?_ ?_
    rotate_left
    · intro w'
      go_simp
      with_reducible rfl
    rotate_left
    · simp only [Act.put, List.setIfInBounds_toArray, List.set_cons_zero, List.set_cons_succ, i64_w, i32_w]
      rfl
    refine one_ (i := 22) (N := some 74) #[true, true, true, true, true, true, true, true, true, true, true, true, true, true, true, true, true, true, true, true, true, true, true, true, true, true, true, false, false, false, false, false, false, false, false, false, false, false, false, false, false] rfl rfl (by kernel_rfl) (by decide) (fun K hK => ?_)
    refine goes_ Try.func46 (by kernel_rfl) rfl #[.int .i64 a0, .int .i64 a1, .int .i64 a2, .int .i64 a3] (by rfl) rfl rfl (by (try simp only [List.map_toArray, List.map_cons, List.map_nil]); first | done | rfl) ?_
    refine (msg_Ack.calls a0 a1 a2 a3 2 a0 a1 a2 0 0 a3 ([] : List ByteArray) _ rfl).mono ?_
    rintro e w18 ⟨v, rfl, hR, hb⟩
    refine ⟨_, rfl, ?_⟩
    obtain ⟨A18, c18, rfl⟩ := Kd.R_slice hR
    have HRR18 := Aside0.mk hR
    clear hR
    have HB18 := Aside0.mk (HB17.out.trans (hb.mono HB17.out.size))
    have HV18 := Aside0.mk (blk_below HV17.out hb)
    have HM18 := Aside0.mk (blk_below HM17.out hb)
    have HO18 := Aside0.mk (blk_below HO17.out hb)
    have HP18 := Aside0.mk (blk_below HP17.out hb)
    have HC18 := Aside0.mk (blk_below HC17.out hb)
    have HX18 := Aside0.mk (blk_below HX17.out hb)
    have HY18 := Aside0.mk (blk_below HY17.out hb)
    have HW18 := Aside0.mk (HW17.out.trans (hb.mono HW17.out.size))
    have HOP18 := Aside0.mk (Kd.R_below HOP17.out hb)
    have HOC18 := Aside0.mk (Kd.R_below HOC17.out hb)
    have RV18 := Aside0.mk (Kd.C_below RV17.out hb)
    have RM18 := Aside0.mk (Kd.C_below RM17.out hb)
    have RO18 := Aside0.mk (Kd.C_below RO17.out hb)
    have RP18 := Aside0.mk (Kd.C_below RP17.out hb)
    have RC18 := Aside0.mk (Kd.C_below RC17.out hb)
    have RX18 := Aside0.mk (Kd.C_below RX17.out hb)
    have RY18 := Aside0.mk (Kd.C_below RY17.out hb)
    have RZ18 := Aside0.mk (Kd.R_reads' HRR18.out).2.2
    have LZ := Aside0.mk (Kd.R_reads' HRR18.out).2.1
    clear hb
    refine hK.out _ _ ⟨(blk_cell HP18.out 0).trans rfl, (blk_cell HP18.out 1).trans rfl, (blk_cell HP18.out 2).trans rfl, (blk_cell HP18.out 3).trans rfl, (blk_cell HP18.out 4).trans rfl, (blk_cell HP18.out 5).trans rfl, (blk_cell HP18.out 6).trans rfl, (blk_cell HP18.out 7).trans rfl, (blk_cell HO18.out 0).trans rfl, (blk_cell HO18.out 1).trans rfl, (blk_cell HO18.out 2).trans rfl, (blk_cell HO18.out 3).trans rfl, (blk_cell HC18.out 0).trans rfl, (blk_cell HC18.out 1).trans rfl, (blk_cell HC18.out 2).trans rfl, (blk_cell HC18.out 3).trans rfl, (blk_cell HC18.out 4).trans rfl, (blk_cell HC18.out 5).trans rfl, (blk_cell HC18.out 6).trans rfl, (blk_cell HC18.out 7).trans rfl, (blk_cell HX18.out 0).trans rfl, (blk_cell HX18.out 1).trans rfl, (blk_cell HX18.out 2).trans rfl, (blk_cell HX18.out 3).trans rfl, (blk_cell HY18.out 0).trans rfl, (blk_cell HY18.out 1).trans rfl, (blk_cell HY18.out 2).trans rfl, (blk_cell HY18.out 3).trans rfl⟩ (fun hHeld => ?_)
    clear hK K
    refine norm_ (a' := ?_) ?_ ?_
    rotate_left
    · show Act.put _ (some 74) _ = _
      simp only [Act.put, List.setIfInBounds_toArray, List.set_cons_zero, List.set_cons_succ, i64_w, i32_w]
      rfl
    refine one_ (i := 27) (N := some 79) #[true, true, true, true, true, true, true, true, true, true, true, true, true, true, true, true, true, true, true, true, true, true, true, true, true, true, true, true, false, false, false, false, false, false, false, false, false, false, false, false, false] rfl rfl (by kernel_rfl) (by decide) (fun K hK => ?_)
    refine goes_ Try.func47 (by kernel_rfl) rfl #[.int .i64 a0, .int .i64 a1, .int .i64 a2, .int .i64 a3] (by rfl) rfl rfl (by (try simp only [List.map_toArray, List.map_cons, List.map_nil]); first | done | rfl) ?_
    refine (sextonref23_Ack.calls a0 a1 a2 a3 2 a0 a1 a2 0 0 a3 ([] : List ByteArray) _ rfl).mono ?_
    rintro e w19 ⟨v, rfl, hR, hb⟩
    refine ⟨_, rfl, ?_⟩
    obtain ⟨A19, c19, rfl⟩ := Kd.R_slice hR
    have HRR19 := Aside0.mk hR
    clear hR
    have HB19 := Aside0.mk (HB18.out.trans (hb.mono HB18.out.size))
    have HV19 := Aside0.mk (blk_below HV18.out hb)
    have HM19 := Aside0.mk (blk_below HM18.out hb)
    have HO19 := Aside0.mk (blk_below HO18.out hb)
    have HP19 := Aside0.mk (blk_below HP18.out hb)
    have HC19 := Aside0.mk (blk_below HC18.out hb)
    have HX19 := Aside0.mk (blk_below HX18.out hb)
    have HY19 := Aside0.mk (blk_below HY18.out hb)
    have HW19 := Aside0.mk (HW18.out.trans (hb.mono HW18.out.size))
    have HOP19 := Aside0.mk (Kd.R_below HOP18.out hb)
    have HOC19 := Aside0.mk (Kd.R_below HOC18.out hb)
    have RV19 := Aside0.mk (Kd.C_below RV18.out hb)
    have RM19 := Aside0.mk (Kd.C_below RM18.out hb)
    have RO19 := Aside0.mk (Kd.C_below RO18.out hb)
    have RP19 := Aside0.mk (Kd.C_below RP18.out hb)
    have RC19 := Aside0.mk (Kd.C_below RC18.out hb)
    have RX19 := Aside0.mk (Kd.C_below RX18.out hb)
    have RY19 := Aside0.mk (Kd.C_below RY18.out hb)
    have RZ19 := Aside0.mk (Kd.C_below RZ18.out hb)
    have RT19 := Aside0.mk (Kd.R_reads' HRR19.out).2.2
    have LT := Aside0.mk (Kd.R_reads' HRR19.out).2.1
    clear hb
    refine hK.out _ _ ⟨(blk_cell HP19.out 0).trans rfl, (blk_cell HP19.out 1).trans rfl, (blk_cell HP19.out 2).trans rfl, (blk_cell HP19.out 3).trans rfl, (blk_cell HP19.out 4).trans rfl, (blk_cell HP19.out 5).trans rfl, (blk_cell HP19.out 6).trans rfl, (blk_cell HP19.out 7).trans rfl, (blk_cell HO19.out 0).trans rfl, (blk_cell HO19.out 1).trans rfl, (blk_cell HO19.out 2).trans rfl, (blk_cell HO19.out 3).trans rfl, (blk_cell HC19.out 0).trans rfl, (blk_cell HC19.out 1).trans rfl, (blk_cell HC19.out 2).trans rfl, (blk_cell HC19.out 3).trans rfl, (blk_cell HC19.out 4).trans rfl, (blk_cell HC19.out 5).trans rfl, (blk_cell HC19.out 6).trans rfl, (blk_cell HC19.out 7).trans rfl, (blk_cell HX19.out 0).trans rfl, (blk_cell HX19.out 1).trans rfl, (blk_cell HX19.out 2).trans rfl, (blk_cell HX19.out 3).trans rfl, (blk_cell HY19.out 0).trans rfl, (blk_cell HY19.out 1).trans rfl, (blk_cell HY19.out 2).trans rfl, (blk_cell HY19.out 3).trans rfl⟩ (fun hHeld => ?_)
    clear hK K
    refine norm_ (a' := ?_) ?_ ?_
    rotate_left
    · show Act.put _ (some 79) _ = _
      simp only [Act.put, List.setIfInBounds_toArray, List.set_cons_zero, List.set_cons_succ, i64_w, i32_w]
      rfl
    refine one_ (i := 28) (N := some 80) #[true, true, true, true, true, true, true, true, true, true, true, true, true, true, true, true, true, true, true, true, true, true, true, true, true, true, true, true, true, false, false, false, false, false, false, false, false, false, false, false, false] rfl rfl (by kernel_rfl) (by decide) (fun K hK => ?_)
    refine goes_ Try.func26 (by kernel_rfl) rfl #[.agg #[.int .i64 2, .int .i64 a0, .int .i64 a1, .int .i64 a2, .int .i64 0, .int .i64 0, .int .i64 a3, .slice A18 ([] : List ByteArray).length c18], .agg #[.int .i64 2, .int .i64 a0, .int .i64 a1, .int .i64 a2, .int .i64 0, .int .i64 0, .int .i64 a3, .slice A19 ([] : List ByteArray).length c19]] (by rfl) rfl rfl (by (try simp only [List.map_toArray, List.map_cons, List.map_nil]); first | done | rfl) ?_
    refine (sextonref23_Same.calls 1 2 a0 a1 a2 0 0 a3 A18 c18 ([] : List ByteArray) 2 a0 a1 a2 0 0 a3 A19 c19 ([] : List ByteArray) true _ RZ19.out LZ.out RT19.out LT.out (HSameE.out 2 a0 a1 a2 0 0 a3)).mono ?_
    rintro e w20 ⟨rfl, hb⟩
    refine ⟨_, rfl, ?_⟩
    have HB20 := Aside0.mk (HB19.out.trans (hb.mono HB19.out.size))
    have HV20 := Aside0.mk (blk_below HV19.out hb)
    have HM20 := Aside0.mk (blk_below HM19.out hb)
    have HO20 := Aside0.mk (blk_below HO19.out hb)
    have HP20 := Aside0.mk (blk_below HP19.out hb)
    have HC20 := Aside0.mk (blk_below HC19.out hb)
    have HX20 := Aside0.mk (blk_below HX19.out hb)
    have HY20 := Aside0.mk (blk_below HY19.out hb)
    have HW20 := Aside0.mk (HW19.out.trans (hb.mono HW19.out.size))
    have HOP20 := Aside0.mk (Kd.R_below HOP19.out hb)
    have HOC20 := Aside0.mk (Kd.R_below HOC19.out hb)
    have RV20 := Aside0.mk (Kd.C_below RV19.out hb)
    have RM20 := Aside0.mk (Kd.C_below RM19.out hb)
    have RO20 := Aside0.mk (Kd.C_below RO19.out hb)
    have RP20 := Aside0.mk (Kd.C_below RP19.out hb)
    have RC20 := Aside0.mk (Kd.C_below RC19.out hb)
    have RX20 := Aside0.mk (Kd.C_below RX19.out hb)
    have RY20 := Aside0.mk (Kd.C_below RY19.out hb)
    have RZ20 := Aside0.mk (Kd.C_below RZ19.out hb)
    have RT20 := Aside0.mk (Kd.C_below RT19.out hb)
    clear hb
    refine hK.out _ _ ⟨(blk_cell HP20.out 0).trans rfl, (blk_cell HP20.out 1).trans rfl, (blk_cell HP20.out 2).trans rfl, (blk_cell HP20.out 3).trans rfl, (blk_cell HP20.out 4).trans rfl, (blk_cell HP20.out 5).trans rfl, (blk_cell HP20.out 6).trans rfl, (blk_cell HP20.out 7).trans rfl, (blk_cell HO20.out 0).trans rfl, (blk_cell HO20.out 1).trans rfl, (blk_cell HO20.out 2).trans rfl, (blk_cell HO20.out 3).trans rfl, (blk_cell HC20.out 0).trans rfl, (blk_cell HC20.out 1).trans rfl, (blk_cell HC20.out 2).trans rfl, (blk_cell HC20.out 3).trans rfl, (blk_cell HC20.out 4).trans rfl, (blk_cell HC20.out 5).trans rfl, (blk_cell HC20.out 6).trans rfl, (blk_cell HC20.out 7).trans rfl, (blk_cell HX20.out 0).trans rfl, (blk_cell HX20.out 1).trans rfl, (blk_cell HX20.out 2).trans rfl, (blk_cell HX20.out 3).trans rfl, (blk_cell HY20.out 0).trans rfl, (blk_cell HY20.out 1).trans rfl, (blk_cell HY20.out 2).trans rfl, (blk_cell HY20.out 3).trans rfl⟩ (fun hHeld => ?_)
    clear hK K
    refine norm_ (a' := ?_) ?_ ?_
    rotate_left
    · show Act.put _ (some 80) _ = _
      simp only [Act.put, List.setIfInBounds_toArray, List.set_cons_zero, List.set_cons_succ, i64_w, i32_w]
      rfl
    refine pure_ (i := 29) (N := some 81) (v := ?_) (a' := ?_) #[true, true, true, true, true, true, true, true, true, true, true, true, true, true, true, true, true, true, true, true, true, true, true, true, true, true, true, true, true, true, false, false, false, false, false, false, false, false, false, false, false] rfl rfl (by kernel_rfl) (fun _ _ _ h => h) (Or.inl ⟨by rfl, ?_⟩) ?_ ?_
    rotate_left
    · intro w'
      go_simp
      with_reducible rfl
    rotate_left
    · simp only [Act.put, List.setIfInBounds_toArray, List.set_cons_zero, List.set_cons_succ, i64_w, i32_w]
      rfl
    refine pure_ (i := 30) (N := some 82) (v := ?_) (a' := ?_) #[true, true, true, true, true, true, true, true, true, true, true, true, true, true, true, true, true, true, true, true, true, true, true, true, true, true, true, true, true, true, true, false, false, false, false, false, false, false, false, false, false] rfl rfl (by kernel_rfl) (fun _ _ _ h => h) (Or.inl ⟨by rfl, ?_⟩) ?_ ?_
    rotate_left
    · intro w'
      go_simp
      with_reducible rfl
    rotate_left
    · simp only [Act.put, List.setIfInBounds_toArray, List.set_cons_zero, List.set_cons_succ, i64_w, i32_w]
      rfl
    refine take_ (i := 31) (N := some 83) (v := ?_) (a' := ?_) #[true, true, true, true, true, true, true, true, true, true, true, true, true, true, true, true, true, true, true, true, true, true, true, true, true, true, true, true, true, true, true, true, false, false, false, false, false, false, false, false, false] rfl rfl (by kernel_rfl) (fun _ _ _ h => h) (Or.inl ⟨by rfl, ?_⟩) hHeld ?_ ?_
    rotate_left
    · rintro w' ⟨s0, s1, s2, s3, s4, s5, s6, s7, s8, s9, s10, s11, s12, s13, s14, s15, s16, s17, s18, s19, s20, s21, s22, s23, s24, s25, s26, s27⟩
      go_simp
      with_reducible rfl
    rotate_left
    · simp only [Act.put, List.setIfInBounds_toArray, List.set_cons_zero, List.set_cons_succ, i64_w, i32_w]
      rfl
    refine take_ (i := 32) (N := some 84) (v := ?_) (a' := ?_) #[true, true, true, true, true, true, true, true, true, true, true, true, true, true, true, true, true, true, true, true, true, true, true, true, true, true, true, true, true, true, true, true, true, false, false, false, false, false, false, false, false] rfl rfl (by kernel_rfl) (fun _ _ _ h => h) (Or.inl ⟨by rfl, ?_⟩) hHeld ?_ ?_
    rotate_left
    · rintro w' ⟨s0, s1, s2, s3, s4, s5, s6, s7, s8, s9, s10, s11, s12, s13, s14, s15, s16, s17, s18, s19, s20, s21, s22, s23, s24, s25, s26, s27⟩
      go_simp
      with_reducible rfl
    rotate_left
    · simp only [Act.put, List.setIfInBounds_toArray, List.set_cons_zero, List.set_cons_succ, i64_w, i32_w]
      rfl
    refine one_ (i := 33) (N := some 85) #[true, true, true, true, true, true, true, true, true, true, true, true, true, true, true, true, true, true, true, true, true, true, true, true, true, true, true, true, true, true, true, true, true, true, false, false, false, false, false, false, false] rfl rfl (by kernel_rfl) (by decide) (fun K hK => ?_)
    refine goes_ Try.func48 (by kernel_rfl) rfl #[.agg #[.int .i64 y0, .int .i64 y1, .int .i64 y2, .slice A9 ly.length c9], .agg #[.int .i64 y0, .int .i64 y1, .int .i64 y2, .slice A11 ly.length c11]] (by rfl) rfl rfl (by (try simp only [List.map_toArray, List.map_cons, List.map_nil]); first | done | rfl) ?_
    refine (sextonref22_SameVote.calls K3 y0 y1 y2 A9 c9 ly y0 y1 y2 A11 c11 ly true _ RX20.out LX.out RY20.out LY.out HSameY.out).mono ?_
    rintro e w21 ⟨rfl, hb⟩
    refine ⟨_, rfl, ?_⟩
    have HB21 := Aside0.mk (HB20.out.trans (hb.mono HB20.out.size))
    have HV21 := Aside0.mk (blk_below HV20.out hb)
    have HM21 := Aside0.mk (blk_below HM20.out hb)
    have HO21 := Aside0.mk (blk_below HO20.out hb)
    have HP21 := Aside0.mk (blk_below HP20.out hb)
    have HC21 := Aside0.mk (blk_below HC20.out hb)
    have HX21 := Aside0.mk (blk_below HX20.out hb)
    have HY21 := Aside0.mk (blk_below HY20.out hb)
    have HW21 := Aside0.mk (HW20.out.trans (hb.mono HW20.out.size))
    have HOP21 := Aside0.mk (Kd.R_below HOP20.out hb)
    have HOC21 := Aside0.mk (Kd.R_below HOC20.out hb)
    have RV21 := Aside0.mk (Kd.C_below RV20.out hb)
    have RM21 := Aside0.mk (Kd.C_below RM20.out hb)
    have RO21 := Aside0.mk (Kd.C_below RO20.out hb)
    have RP21 := Aside0.mk (Kd.C_below RP20.out hb)
    have RC21 := Aside0.mk (Kd.C_below RC20.out hb)
    have RX21 := Aside0.mk (Kd.C_below RX20.out hb)
    have RY21 := Aside0.mk (Kd.C_below RY20.out hb)
    clear hb
    refine hK.out _ _ ⟨(blk_cell HP21.out 0).trans rfl, (blk_cell HP21.out 1).trans rfl, (blk_cell HP21.out 2).trans rfl, (blk_cell HP21.out 3).trans rfl, (blk_cell HP21.out 4).trans rfl, (blk_cell HP21.out 5).trans rfl, (blk_cell HP21.out 6).trans rfl, (blk_cell HP21.out 7).trans rfl, (blk_cell HO21.out 0).trans rfl, (blk_cell HO21.out 1).trans rfl, (blk_cell HO21.out 2).trans rfl, (blk_cell HO21.out 3).trans rfl, (blk_cell HC21.out 0).trans rfl, (blk_cell HC21.out 1).trans rfl, (blk_cell HC21.out 2).trans rfl, (blk_cell HC21.out 3).trans rfl, (blk_cell HC21.out 4).trans rfl, (blk_cell HC21.out 5).trans rfl, (blk_cell HC21.out 6).trans rfl, (blk_cell HC21.out 7).trans rfl, (blk_cell HX21.out 0).trans rfl, (blk_cell HX21.out 1).trans rfl, (blk_cell HX21.out 2).trans rfl, (blk_cell HX21.out 3).trans rfl, (blk_cell HY21.out 0).trans rfl, (blk_cell HY21.out 1).trans rfl, (blk_cell HY21.out 2).trans rfl, (blk_cell HY21.out 3).trans rfl⟩ (fun hHeld => ?_)
    clear hK K
    refine norm_ (a' := ?_) ?_ ?_
    rotate_left
    · show Act.put _ (some 85) _ = _
      simp only [Act.put, List.setIfInBounds_toArray, List.set_cons_zero, List.set_cons_succ, i64_w, i32_w]
      rfl
    refine pure_ (i := 34) (N := some 86) (v := ?_) (a' := ?_) #[true, true, true, true, true, true, true, true, true, true, true, true, true, true, true, true, true, true, true, true, true, true, true, true, true, true, true, true, true, true, true, true, true, true, true, false, false, false, false, false, false] rfl rfl (by kernel_rfl) (fun _ _ _ h => h) (Or.inl ⟨by rfl, ?_⟩) ?_ ?_
    rotate_left
    · intro w'
      go_simp
      with_reducible rfl
    rotate_left
    · simp only [Act.put, List.setIfInBounds_toArray, List.set_cons_zero, List.set_cons_succ, i64_w, i32_w]
      rfl
    refine pure_ (i := 35) (N := some 87) (v := ?_) (a' := ?_) #[true, true, true, true, true, true, true, true, true, true, true, true, true, true, true, true, true, true, true, true, true, true, true, true, true, true, true, true, true, true, true, true, true, true, true, true, false, false, false, false, false] rfl rfl (by kernel_rfl) (fun _ _ _ h => h) (Or.inl ⟨by rfl, ?_⟩) ?_ ?_
    rotate_left
    · intro w'
      go_simp
      with_reducible rfl
    rotate_left
    · simp only [Act.put, List.setIfInBounds_toArray, List.set_cons_zero, List.set_cons_succ, i64_w, i32_w]
      rfl
    refine pure_ (i := 36) (N := some 88) (v := ?_) (a' := ?_) #[true, true, true, true, true, true, true, true, true, true, true, true, true, true, true, true, true, true, true, true, true, true, true, true, true, true, true, true, true, true, true, true, true, true, true, true, true, false, false, false, false] rfl rfl (by kernel_rfl) (fun _ _ _ h => h) (Or.inl ⟨by rfl, ?_⟩) ?_ ?_
    rotate_left
    · intro w'
      go_simp
      with_reducible rfl
    rotate_left
    · simp only [Act.put, List.setIfInBounds_toArray, List.set_cons_zero, List.set_cons_succ, i64_w, i32_w]
      rfl
    refine pure_ (i := 37) (N := some 89) (v := ?_) (a' := ?_) #[true, true, true, true, true, true, true, true, true, true, true, true, true, true, true, true, true, true, true, true, true, true, true, true, true, true, true, true, true, true, true, true, true, true, true, true, true, true, false, false, false] rfl rfl (by kernel_rfl) (fun _ _ _ h => h) (Or.inl ⟨by rfl, ?_⟩) ?_ ?_
    rotate_left
    · intro w'
      go_simp
      with_reducible rfl
    rotate_left
    · simp only [Act.put, List.setIfInBounds_toArray, List.set_cons_zero, List.set_cons_succ, i64_w, i32_w]
      rfl
    refine pure_ (i := 38) (N := some 90) (v := ?_) (a' := ?_) #[true, true, true, true, true, true, true, true, true, true, true, true, true, true, true, true, true, true, true, true, true, true, true, true, true, true, true, true, true, true, true, true, true, true, true, true, true, true, true, false, false] rfl rfl (by kernel_rfl) (fun _ _ _ h => h) (Or.inl ⟨by rfl, ?_⟩) ?_ ?_
    rotate_left
    · intro w'
      go_simp
      with_reducible rfl
    rotate_left
    · simp only [Act.put, List.setIfInBounds_toArray, List.set_cons_zero, List.set_cons_succ, i64_w, i32_w]
      rfl
    refine pure_ (i := 39) (N := some 91) (v := ?_) (a' := ?_) #[true, true, true, true, true, true, true, true, true, true, true, true, true, true, true, true, true, true, true, true, true, true, true, true, true, true, true, true, true, true, true, true, true, true, true, true, true, true, true, true, false] rfl rfl (by kernel_rfl) (fun _ _ _ h => h) (Or.inl ⟨by rfl, ?_⟩) ?_ ?_
    rotate_left
    · intro w'
      go_simp
      with_reducible rfl
    rotate_left
    · simp only [Act.put, List.setIfInBounds_toArray, List.set_cons_zero, List.set_cons_succ, i64_w, i32_w]
      rfl
    refine pure_ (i := 40) (N := some 20) (v := ?_) (a' := ?_) #[true, true, true, true, true, true, true, true, true, true, true, true, true, true, true, true, true, true, true, true, true, true, true, true, true, true, true, true, true, true, true, true, true, true, true, true, true, true, true, true, true] rfl rfl (by kernel_rfl) (fun _ _ _ h => h) (Or.inl ⟨by rfl, ?_⟩) ?_ ?_
    rotate_left
    · intro w'
      go_simp
      with_reducible rfl
    rotate_left
    · simp only [Act.put, List.setIfInBounds_toArray, List.set_cons_zero, List.set_cons_succ, i64_w, i32_w]
      rfl
    refine done_ (by kernel_rfl) ?_
    have HGP : Aside0 (0 < l.length → ∃ gp : Nat, A5 = some ⟨gp, 0, none⟩ ∧ w4.heap.size ≤ gp ∧ gp < w5.heap.size) := ⟨fun h => by
      obtain ⟨inner, ho⟩ := Kd.R_own HRR5.out
      rcases ho.2 with ⟨he, h0⟩ | ⟨g, cap, cu, he, hb, hh, _⟩
      · omega
      · injection he with ha _ _; exact ⟨g, ha, hb, blk_lt hh⟩⟩
    have HGC : Aside0 (0 < l.length → ∃ gc : Nat, A7 = some ⟨gc, 0, none⟩ ∧ w6.heap.size ≤ gc ∧ gc < w7.heap.size) := ⟨fun h => by
      obtain ⟨inner, ho⟩ := Kd.R_own HRR7.out
      rcases ho.2 with ⟨he, h0⟩ | ⟨g, cap, cu, he, hb, hh, _⟩
      · omega
      · injection he with ha _ _; exact ⟨g, ha, hb, blk_lt hh⟩⟩
    have HIP : Aside0 (∀ gp : Nat, A5 = some ⟨gp, 0, none⟩ → ∃ cp : Array Value, w21.heap[gp]? = some (.cells cp 9 (0, 0)) ∧ l.length ≤ cp.size) := ⟨fun gp e => by
      obtain ⟨inner, ho⟩ := Kd.R_own HOP21.out
      rcases ho.2 with ⟨he, h0⟩ | ⟨g, cap, cu, he, hb, hh, h1, h2, h3, _⟩
      · rw [e] at he; injection he with ha _ _; cases ha
      · rw [e] at he; injection he with ha _ _; injection ha with ha; injection ha with ha _ _; subst ha; rw [show Kd.string.sz = 1 from rfl] at h3; exact ⟨cu, hh, by omega⟩⟩
    have HIC : Aside0 (∀ gp : Nat, A7 = some ⟨gp, 0, none⟩ → ∃ cp : Array Value, w21.heap[gp]? = some (.cells cp 9 (0, 0)) ∧ l.length ≤ cp.size) := ⟨fun gp e => by
      obtain ⟨inner, ho⟩ := Kd.R_own HOC21.out
      rcases ho.2 with ⟨he, h0⟩ | ⟨g, cap, cu, he, hb, hh, h1, h2, h3, _⟩
      · rw [e] at he; injection he with ha _ _; cases ha
      · rw [e] at he; injection he with ha _ _; injection ha with ha; injection ha with ha _ _; subst ha; rw [show Kd.string.sz = 1 from rfl] at h3; exact ⟨cu, hh, by omega⟩⟩
    have z56 : w5.heap.size < w6.heap.size := blk_lt HP6.out
    have z67' : w6.heap.size ≤ w7.heap.size := HZ67.out
    have z4P : w4.heap.size ≤ w5.heap.size := HW5.out.size
    have HZ := Aside0.mk (And.intro z4P (And.intro z56 z67'))
    clear z56 z67' z4P
    try go_wp2
    go_loopw [21] (fun i wr => ∃ k : Nat, k ≤ l.length ∧ i = .int .i64 k ∧ Aside0 (∀ gp : Nat, A5 = some ⟨gp, 0, none⟩ → ∃ cp : Array Value, wr.heap[gp]? = some (.cells cp 9 (0, 0)) ∧ l.length ≤ cp.size) ∧ Aside0 (∀ gp : Nat, A7 = some ⟨gp, 0, none⟩ → ∃ cp : Array Value, wr.heap[gp]? = some (.cells cp 9 (0, 0)) ∧ l.length ≤ cp.size) ∧ Aside0 (Below w4.heap.size w4 wr) ∧ Aside0 (wr.heap[w5.heap.size]? = some (.cells (blkM 1 a0 a1 a2 0 a3 0 (.slice A5 l.length c5)) 29 (0, 0))) ∧ Aside0 (wr.heap[w7.heap.size]? = some (.cells (blkM 3 n0 a1 a2 n1 n2 0 (.slice A7 l.length c7)) 29 (0, 0))))
      (fun i _ => l.length - (intOf i).toNat)
    case atStart => exact ⟨0, Nat.zero_le _, rfl, HIP, HIC, HW21, HP21, HC21⟩
    case round =>
      obtain ⟨k, hk, rfl, IP, IC, HX, HP, HC⟩ := hrel
      have p7 := blk_cell HP.out 7
      have c7_ := blk_cell HC.out 7
      simp only [blkM, List.getElem?_toArray, List.getElem?_cons_zero, List.getElem?_cons_succ] at p7 c7_
      by_cases hlt : k < l.length
      · obtain ⟨gp, ep, bp, lp⟩ := HGP.out (by omega)
        obtain ⟨gc, ec, bc, lc⟩ := HGC.out (by omega)
        obtain ⟨z1, z2, z3⟩ := HZ.out
        subst ep
        subst ec
        obtain ⟨cp, hcp, scp⟩ := IP.out gp rfl
        obtain ⟨cc, hcc, scc⟩ := IC.out gc rfl
        have x1 := blk_cell hcp k
        rw [Array.getElem?_eq_getElem (by omega)] at x1
        have f1 := blk_frozen hcp k
        have hne : gc ≠ gp := by omega
        have hcc' := blk_far hcc (p := ⟨gp, k, none⟩) hne (.string ⟨#[115, 109, 117, 100, 103, 101]⟩)
        have y1 := blk_cell hcc' k
        rw [Array.getElem?_eq_getElem (by omega)] at y1
        have g1 := blk_frozen hcc' k
        have hP1 := blk_far HP.out (p := ⟨gp, k, none⟩) (show w5.heap.size ≠ gp by omega) (.string ⟨#[115, 109, 117, 100, 103, 101]⟩)
        have hC1 := blk_far HC.out (p := ⟨gp, k, none⟩) (show w7.heap.size ≠ gp by omega) (.string ⟨#[115, 109, 117, 100, 103, 101]⟩)
        have hP2 := Aside0.mk (blk_far hP1 (p := ⟨gc, k, none⟩) (show w5.heap.size ≠ gc by omega) (.string ⟨#[115, 109, 117, 100, 103, 101]⟩))
        have hC2 := Aside0.mk (blk_far hC1 (p := ⟨gc, k, none⟩) (show w7.heap.size ≠ gc by omega) (.string ⟨#[115, 109, 117, 100, 103, 101]⟩))
        have c8 := blk_cell hC1 7
        simp only [blkM, List.getElem?_toArray, List.getElem?_cons_zero, List.getElem?_cons_succ] at c8
        have hp2 := Aside0.mk (blk_far (blk_set hcp k (.string ⟨#[115, 109, 117, 100, 103, 101]⟩)) (p := ⟨gc, k, none⟩) (fun e => hne e.symm) (.string ⟨#[115, 109, 117, 100, 103, 101]⟩))
        have hc2 := Aside0.mk (blk_set hcc' k (.string ⟨#[115, 109, 117, 100, 103, 101]⟩))
        have hX2 := Aside0.mk ((HX.out.setCell (p := ⟨gp, k, none⟩) bp (.string ⟨#[115, 109, 117, 100, 103, 101]⟩)).setCell (p := ⟨gc, k, none⟩) (show w4.heap.size ≤ gc by omega) (.string ⟨#[115, 109, 117, 100, 103, 101]⟩))
        generalize cp[k] = vp at x1
        generalize cc[k] = vc at y1
        clear hP1 hC1
        have S1 := Aside0.mk scp
        have S2 := Aside0.mk scc
        clear scp scc hcp hcc hcc' z1 z2 z3 bp lp bc lc hne IP IC HX HP HC HIP HIC
        go_wp2
        go_roundw
        case rel => exact ⟨k + 1, by omega, by go_num, ⟨fun g e => by injection e with e; injection e with e _ _; subst e; exact ⟨_, hp2.out, by rw [Array.size_setIfInBounds]; exact S1.out⟩⟩, ⟨fun g e => by injection e with e; injection e with e _ _; subst e; exact ⟨_, hc2.out, by rw [Array.size_setIfInBounds]; exact S2.out⟩⟩, hX2, hP2, hC2⟩
        case measure => simp [intOf]; omega
      · obtain rfl : k = l.length := by omega
        have HBr := Aside0.mk (HB4.out.trans (HX.out.mono HB4.out.size))
        have HVr := Aside0.mk (blk_below HV4.out HX.out)
        have HOr := Aside0.mk (blk_below HO4.out HX.out)
        have RVr := Aside0.mk (Kd.C_below RV4.out HX.out)
        have ROr := Aside0.mk (Kd.C_below RO4.out HX.out)
        go_wp2_with (first | (go_at_call 35; (refine (HSent.out _).mono ?_); rintro e ws ⟨rfl, hb⟩; have HBs := Aside0.mk (HBr.out.trans (hb.mono HBr.out.size)); have hv := blk_below HVr.out hb; have ho := blk_below HOr.out hb; have v0 := blk_cell hv 0; have v1 := blk_cell hv 1; have v2 := blk_cell hv 2; have v3 := blk_cell hv 3; have o0 := blk_cell ho 0; have o1 := blk_cell ho 1; have o2 := blk_cell ho 2; have o3 := blk_cell ho 3; simp only [blkV, List.getElem?_toArray, List.getElem?_cons_zero, List.getElem?_cons_succ] at v0 v1 v2 v3 o0 o1 o2 o3; have RVs := Aside0.mk (Kd.C_below RVr.out hb); have ROs := Aside0.mk (Kd.C_below ROr.out hb); clear hb hv ho) | (go_at_call 48; (refine (sextonref22_SameVote.calls K2 n0 n1 n2 A c l n0 n1 n2 A3 c3 l true _ RVs.out hc ROs.out LO.out HSameV.out).mono ?_); rintro e wt ⟨rfl, hb⟩; have HBt := Aside0.mk (HBs.out.trans (hb.mono HBs.out.size)); clear hb))
        go_ret
        exact ⟨rfl, HBt.out⟩
/-- What MsgMakes answers: true (the log's length is an int). -/
def sextonlaw23_MsgMakes.f (_a0 _a1 _a2 _a3 _n0 _n1 _n2 : Int) (l : List ByteArray) (_m0 _m1 _m2 _m3 _m4 _m5 _m6 : Int) (_lm : List ByteArray) : Option Bool := if l.length ≤ 9223372036854775807 then some true else none
theorem sextonlaw23_MsgMakes.calls (a0 : Int) (a1 : Int) (a2 : Int) (a3 : Int) (a4_0 : Int) (a4_1 : Int) (a4_2 : Int) (A4_3 : Option Addr) (c4_3 : Nat) (l4_3 : List ByteArray) (a5_0 : Int) (a5_1 : Int) (a5_2 : Int) (a5_3 : Int) (a5_4 : Int) (a5_5 : Int) (a5_6 : Int) (A5_7 : Option Addr) (c5_7 : Nat) (l5_7 : List ByteArray) (r : Bool) (w : World) (hr4_3 : Kd.C Kd.string w A4_3 l4_3.length l4_3) (hc4_3 : l4_3.length ≤ c4_3) (hr5_7 : Kd.C Kd.string w A5_7 l5_7.length l5_7) (hc5_7 : l5_7.length ≤ c5_7) (h : sextonlaw23_MsgMakes.f a0 a1 a2 a3 a4_0 a4_1 a4_2 l4_3 a5_0 a5_1 a5_2 a5_3 a5_4 a5_5 a5_6 l5_7 = some r) :
    Calls Try.prog 9 #[.int .i64 a0, .int .i64 a1, .int .i64 a2, .int .i64 a3, .agg #[.int .i64 a4_0, .int .i64 a4_1, .int .i64 a4_2, .slice A4_3 l4_3.length c4_3], .agg #[.int .i64 a5_0, .int .i64 a5_1, .int .i64 a5_2, .int .i64 a5_3, .int .i64 a5_4, .int .i64 a5_5, .int .i64 a5_6, .slice A5_7 l5_7.length c5_7]] w fun e w' => e = .returned (.bool r) ∧ Below w.heap.size w w' := by
  unfold sextonlaw23_MsgMakes.f at h
  by_cases hl : l4_3.length ≤ 9223372036854775807
  · rw [if_pos hl, Option.some.injEq] at h
    subst h
    exact makes_in a0 a1 a2 a3 a4_0 a4_1 a4_2 A4_3 c4_3 l4_3 a5_0 a5_1 a5_2 a5_3 a5_4 a5_5 a5_6 A5_7 c5_7 l5_7 w hr4_3 hc4_3 hr5_7 hc5_7 hl
  · rw [if_neg hl] at h
    cases h
end Go.Proofs.Ytfejidinfcmfjaa.P
/-
  What can be read as data reads as a value of its kind: kind by kind, for the rows of the statements.
-/
namespace Go.Proofs.Ytfejidinfcmfjaa.Opens
open Go.ChangeShapes Go.WideShapes Go.ChangeAt Go.RowKit Go.Proofs.YtfejidinfcmfjaaW.PrintWords

def Opens (P : Program) {α : Type} (kd : Kd α) (ok : α → Prop) (t : TypeId) : Prop :=
  ∀ {H : Type} (enc : TypeId × Value → H) (W : World) (base : Nat) (spare : Nat → Bool) (held : Bool) (fuel : Nat) (cs : List Value) (x : DataW H × List MemPlace),
    DataW.trod enc P W base spare held fuel t cs = some x → ∃ a, kd.K W a cs ∧ ok a
def OkInt (k : IntKind) (n : Int) : Prop := (Lit.int k n).wf = true
def OkStr (s : ByteArray) : Prop := s.size ≤ maxLen
def OkList {α : Type} (ok : α → Prop) (l : List α) : Prop := l.length ≤ maxLen ∧ ∀ a ∈ l, ok a
def OkTrue {α : Type} (_ : α) : Prop := True
def OkPair {α β : Type} (p : α → Prop) (q : β → Prop) (x : α × β) : Prop := p x.1 ∧ q x.2

section
variable {P : Program} {t e : TypeId}
theorem opens_int {k : IntKind} (ht : P.underlying t = some (.int k)) : Opens P (Kd.int k) (OkInt k) t := by
  intro H enc W base spare held fuel cs x h
  obtain ⟨n, rfl, _, hw⟩ := DataW.trod_int ht h
  exact ⟨n, rfl, hw⟩
theorem opens_bool (ht : P.underlying t = some .bool) : Opens P Kd.bool OkTrue t := by
  intro H enc W base spare held fuel cs x h
  obtain ⟨b, rfl, _⟩ := DataW.trod_bool ht h
  exact ⟨b, rfl, trivial⟩
theorem opens_string (ht : P.underlying t = some .string) : Opens P Kd.string OkStr t := by
  intro H enc W base spare held fuel cs x h
  obtain ⟨s, rfl, _, hs⟩ := DataW.trod_string ht h
  exact ⟨s, rfl, hs⟩
theorem addr_add (a : Addr) (x i : Nat) : a.add (x + i) = (a.add x).add i := by
  unfold Addr.add
  by_cases h1 : x = 0 <;> by_cases h2 : i = 0 <;> simp [h1, h2, Nat.add_assoc]
theorem opens_slice {α : Type} {kd : Kd α} {ok : α → Prop} (ht : P.underlying t = some (.slice e)) (hc : P.cellsOf e = kd.sz) (he : Opens P kd ok e) : Opens P (Kd.slice e kd) (OkList ok) t := by
  intro H enc W base spare held fuel cs x h
  rcases DataW.trod_slice ht h with ⟨rfl, _⟩ | ⟨a, len, cap, elems, rest, n, _, rfl, _, hb, hl, hm, hlen, hel, _, _⟩
  · exact ⟨[], ⟨none, 0, rfl, Nat.le_refl _, rfl, by simp, fun h0 => absurd h0 (Nat.lt_irrefl 0)⟩, by simp [maxLen], by simp⟩
  · have each : ∀ i, i < len → ∃ (y : α) (c : List Value), c.length = kd.sz ∧ kd.K W y c ∧ ok y ∧ ∀ j u, c[j]? = some u → W.cell? ((a.add (i * kd.sz)).add j) = some u := by
      intro i hi
      have h1 := hel i hi
      rw [hc, List.getElem?_eq_getElem (by omega), Option.bind_eq_some_iff] at h1
      obtain ⟨c, hcs, hy⟩ := h1
      obtain ⟨y, hK, hok⟩ := he enc W base spare held n c _ hy
      obtain ⟨_, hcl, hcell⟩ := World.cells?_some hcs
      refine ⟨y, c, kd.K_len hK, hK, hok, fun j u hj => ?_⟩
      have hjl : j < kd.sz := by have := (List.getElem?_eq_some_iff.1 hj).1; rw [kd.K_len hK] at this; exact this
      rw [hcell j hjl, hj]
    have pick : ∃ l : List α, l.length = len ∧ ∀ i y, l[i]? = some y → ∃ c : List Value, c.length = kd.sz ∧ kd.K W y c ∧ ok y ∧ ∀ j u, c[j]? = some u → W.cell? ((a.add (i * kd.sz)).add j) = some u := by
      have key : ∀ m, m ≤ len → ∃ l : List α, l.length = m ∧ ∀ i y, l[i]? = some y → ∃ c : List Value, c.length = kd.sz ∧ kd.K W y c ∧ ok y ∧ ∀ j u, c[j]? = some u → W.cell? ((a.add (i * kd.sz)).add j) = some u := by
        intro m
        induction m with
        | zero => intro _; exact ⟨[], rfl, fun i y h => by simp at h⟩
        | succ m ih =>
          intro hm
          obtain ⟨l, hl1, hl2⟩ := ih (by omega)
          obtain ⟨y, c, h1, h2, h3, h4⟩ := each m (by omega)
          refine ⟨l ++ [y], by simp [hl1], fun i z hz => ?_⟩
          rcases Nat.lt_or_ge i l.length with hi | hi
          · rw [List.getElem?_append_left hi] at hz
            exact hl2 i z hz
          · have : i = l.length := by
              have := (List.getElem?_eq_some_iff.1 hz).1
              rw [List.length_append, List.length_singleton] at this
              omega
            subst this
            have hz' : y = z := by simpa using hz
            subst hz'
            exact ⟨c, h1, h2, h3, by rw [hl1]; exact h4⟩
      exact key len (Nat.le_refl _)
    obtain ⟨l, hl1, hl2⟩ := pick
    subst hl1
    refine ⟨l, ⟨some a, cap, rfl, hl, rfl, by unfold maxLen at hm; omega, fun _ => ⟨a, rfl, fun j p hj => ?_⟩⟩, by omega, fun y hy => ?_⟩
    · obtain ⟨c, h1, h2, _, h4⟩ := hl2 j p hj
      refine ⟨c, h1, h2, fun i u hu => ?_⟩
      rw [← h4 i u hu, addr_add]
    · obtain ⟨i, hi⟩ := List.getElem?_of_mem hy
      obtain ⟨_, _, _, h3, _⟩ := hl2 i y hi
      exact h3

/-- The same of fields in line, from one place of the cells on. -/
def OpensF (P : Program) {α : Type} (kd : Kd α) (ok : α → Prop) (fs : List Field) (off len : Nat) : Prop :=
  ∀ {H : Type} (enc : TypeId × Value → H) (W : World) (base : Nat) (spare : Nat → Bool) (held : Bool) (n : Nat) (cs : List Value),
    (∀ f ∈ fs, ∃ y, DataW.trod enc P W base spare held n f.type ((cs.drop f.offset).take (P.cellsOf f.type)) = some y) → off + len ≤ cs.length → ∃ a, kd.K W a ((cs.drop off).take len) ∧ ok a
theorem opensF_one {α : Type} {kd : Kd α} {ok : α → Prop} {f : Field} {t off len : Nat} (h : Opens P kd ok t) (ht : f.type = t) (ho : f.offset = off) (hl : P.cellsOf t = len) : OpensF P kd ok [f] off len := by
  intro H enc W base spare held n cs hf _
  obtain ⟨y, hy⟩ := hf f List.mem_cons_self
  subst ht ho hl
  exact h enc W base spare held n _ y hy
theorem opensF_pair {α β : Type} {kd : Kd α} {kd' : Kd β} {ok : α → Prop} {ok' : β → Prop} {f : Field} {fs : List Field} {t off len len' : Nat} (h : Opens P kd ok t) (ht : f.type = t) (ho : f.offset = off) (hl : P.cellsOf t = len)
    (h' : OpensF P kd' ok' fs (off + len) len') : OpensF P (Kd.pair kd kd') (OkPair ok ok') (f :: fs) off (len + len') := by
  intro H enc W base spare held n cs hf hle
  obtain ⟨y, hy⟩ := hf f List.mem_cons_self
  subst ht ho hl
  obtain ⟨a, ha, hoka⟩ := h enc W base spare held n _ y hy
  obtain ⟨b, hb, hokb⟩ := h' enc W base spare held n cs (fun g hg => hf g (List.mem_cons_of_mem _ hg)) (by omega)
  refine ⟨(a, b), ⟨_, _, ?_, ha, hb⟩, hoka, hokb⟩
  rw [List.take_add, List.drop_drop]
theorem opens_struct {α β : Type} {kd : Kd α} {ok : α → Prop} {fs : Array Field} {len : Nat} (ht : P.underlying t = some (.struct fs)) (hc : P.cellsOf t = len) (h : OpensF P kd ok fs.toList 0 len) (f : β → α) (g : α → β) (hg : ∀ a, f (g a) = a) :
    Opens P (Kd.iso kd f) (fun b => ok (f b)) t := by
  intro H enc W base spare held fuel cs x hx
  obtain ⟨xs, n, _, _, hl, hlen, hf⟩ := DataW.trod_struct ht hx
  obtain ⟨a, ha, hok⟩ := h enc W base spare held n cs (fun fd hfd => by
    obtain ⟨i, hi⟩ := List.getElem?_of_mem hfd
    have h1 := hf i fd (by simpa using hi)
    have hi2 : i < xs.length := by
      have := (List.getElem?_eq_some_iff.1 hi).1
      rw [hlen]; simpa using this
    rw [List.getElem?_eq_getElem hi2] at h1
    exact ⟨_, h1⟩) (by omega)
  refine ⟨g a, ?_, by show ok (f (g a)); rw [hg]; exact hok⟩
  show kd.K W (f (g a)) cs
  rw [hg]
  have : (cs.drop 0).take len = cs := by rw [List.drop_zero]; exact List.take_of_length_le (by omega)
  rw [this] at ha
  exact ha
theorem opens_struct_id {α : Type} {kd : Kd α} {ok : α → Prop} {fs : Array Field} {len : Nat} (ht : P.underlying t = some (.struct fs)) (hc : P.cellsOf t = len) (h : OpensF P kd ok fs.toList 0 len) : Opens P kd ok t :=
  opens_struct ht hc h id id (fun _ => rfl)

/-! ### a parameter, opened -/
variable {H : Type} {enc : TypeId × Value → H} {W : World} {base : Nat} {spare : Nat → Bool} {held : Bool} {r : Reach} {b0 : Nat} {v : Value} {d : DataW H} {ps : List MemPlace}
theorem param_slice {α : Type} {kd : Kd α} {ok : List α → Prop} (ht : P.underlying t = some (.slice e)) (h : Opens P (Kd.slice e kd) ok t) (hval : Value.okWide P W r b0 t v) (hd : DataW.Trod enc P W base spare held t v d ps) :
    ∃ A c l, v = .slice A l.length c ∧ l.length ≤ c ∧ Kd.C kd W A l.length l ∧ ok l := by
  obtain ⟨a, len, cap, rfl⟩ := okWide_slice ht hval
  obtain ⟨fuel, hf⟩ := hd
  obtain ⟨l, ⟨A, c, hcs, hl, hC⟩, hok⟩ := h enc W base spare held fuel _ _ hf
  have : Value.slice a len cap = Value.slice A l.length c := by simpa [Value.cells] using hcs
  exact ⟨A, c, l, this, hl, hC, hok⟩
theorem param_struct {α : Type} {kd : Kd α} {ok : α → Prop} {fs : Array Field} (ht : P.underlying t = some (.struct fs)) (h : Opens P kd ok t) (hval : Value.okWide P W r b0 t v) (hd : DataW.Trod enc P W base spare held t v d ps) :
    ∃ cs a, v = .agg cs ∧ kd.K W a cs.toList ∧ ok a := by
  obtain ⟨cs, rfl, hsz⟩ := okWide_struct ht hval
  obtain ⟨fuel, hf⟩ := hd
  obtain ⟨a, hK, hok⟩ := h enc W base spare held fuel _ _ hf
  exact ⟨cs, a, rfl, hK, hok⟩
theorem agg_eq {cs : Array Value} {l : List Value} (h : cs.toList = l) : cs = l.toArray := by rw [← h]
end
end Go.Proofs.Ytfejidinfcmfjaa.Opens
/-
  The plain statement of MsgMakes.
-/
namespace Go.Proofs.Ytfejidinfcmfjaa.Pure
open Go.RowKit Go.Proofs Go.Proofs.YtfejidinfcmfjaaW.PrintWords Go.Proofs.YtfejidinfcmfjaaW.PrintLast Go.Proofs.Ytfejidinfcmfjaa.P Go.Proofs.Ytfejidinfcmfjaa.Opens

theorem MsgMakes (a0 : Int) (a1 : Int) (a2 : Int) (a3 : Int) (a4_0 a4_1 a4_2 : Int) (l4_3 : List ByteArray) (a5_0 a5_1 a5_2 a5_3 a5_4 a5_5 a5_6 : Int) (l5_7 : List ByteArray) {p0 p1 p2 p3 p5 : Prop} {q : ByteArray → Prop} (h0 : p0) (h1 : p1) (h2 : p2) (h3 : p3) (h4 : OkPair (OkInt .i64) (OkPair (OkInt .i64) (OkPair (OkInt .i64) (OkList q))) (a4_0, a4_1, a4_2, l4_3)) (h5 : p5) : sextonlaw23_MsgMakes.f a0 a1 a2 a3 a4_0 a4_1 a4_2 l4_3 a5_0 a5_1 a5_2 a5_3 a5_4 a5_5 a5_6 l5_7 = some true := by
  unfold sextonlaw23_MsgMakes.f
  exact if_pos (Nat.le_trans h4.2.2.2.1 (by decide))
end Go.Proofs.Ytfejidinfcmfjaa.Pure
