/-
  Texts of the claim MsgApart, joined.
-/
import Derived.Test.YtfejidinfcmfjaaPx0
import Derived.Test.YtfejidinfcmfjaaCMsgAparta
import Derived.WalkKit
import Derived.IntWalk
import Derived.LoopTactic
import Derived.Deep.QuietTactic
import Derived.BigQuiet
import Derived.Laws.BitsLemmas
import Derived.Laws.Slices
import Derived.Test.YtfejidinfcmfjaaWMore
import Derived.Test.YtfejidinfcmfjaaProg
import Derived.OwnWalk
import Derived.RangeFuncBox
import Derived.RangeFuncNested
import Derived.Maps.AppendAt
-- Written by a program of this session (xprint.py) over the kit's print.py.
namespace Go.Proofs.Ytfejidinfcmfjaa.P
open Go.RowKit Go.Proofs.YtfejidinfcmfjaaW.PrintWords Go.Proofs.YtfejidinfcmfjaaW.PrintLast Go.Proofs.YtfejidinfcmfjaaW.PrintMore
attribute [local go_sem] max2_int min2_int max_two min_two max_three min_three max_four min_four   -- for this text's walks alone
set_option linter.unusedVariables false
set_option linter.unusedSimpArgs false

/-! ### msg_Prepare: function 40 -/
def msg_Prepare.f (a0 : Int) (a1 : Int) (a2 : Int) (a3 : Int) (l4 : List ByteArray) : Option (Int × Int × Int × Int × Int × Int × Int × List ByteArray) := (slices_Clone_string_string.f l4).bind fun t395 => (some (1, a0, a1, a2, 0, a3, 0, t395))
set_option maxHeartbeats 8000000 in
set_option maxRecDepth 100000 in
theorem msg_Prepare.calls (a0 : Int) (a1 : Int) (a2 : Int) (a3 : Int) (A4 : Option Addr) (c4 : Nat) (l4 : List ByteArray) (r1 : Int) (r2 : Int) (r3 : Int) (r4 : Int) (r5 : Int) (r6 : Int) (r7 : Int) (r8 : List ByteArray) (w : World) (hr4 : Kd.C Kd.string w A4 l4.length l4) (hc4 : l4.length ≤ c4) (h : msg_Prepare.f a0 a1 a2 a3 l4 = some (r1, r2, r3, r4, r5, r6, r7, r8)) :
    Calls Try.prog 40 #[.int .i64 a0, .int .i64 a1, .int .i64 a2, .int .i64 a3, .slice A4 l4.length c4] w fun e w' => ∃ v7_ : Value, e = .returned (.agg #[.int .i64 r1, .int .i64 r2, .int .i64 r3, .int .i64 r4, .int .i64 r5, .int .i64 r6, .int .i64 r7, v7_]) ∧ Kd.R Kd.string 9 w' w.heap.size (fun _ => True) v7_ r8 ∧ Below w.heap.size w w' := by
  have hu29 := Try.underlying29
  have HR4 := Aside0.mk hr4
  have HC4 := Aside0.mk hc4
  clear hr4 hc4
  have HB := Aside0.mk (Below.refl w.heap.size w)
  have H : ((slices_Clone_string_string.f l4).bind fun t395 => (some (1, a0, a1, a2, 0, a3, 0, t395))) = some (r1, r2, r3, r4, r5, r6, r7, r8) := h
  clear h
  replace H := Option.bind_eq_some_iff.mp H
  obtain ⟨t395, A60, H⟩ := H
  replace H : (some (1, a0, a1, a2, 0, a3, 0, t395)) = some (r1, r2, r3, r4, r5, r6, r7, r8) := H
  have A6 := Aside0.mk A60
  clear A60
  simp only [Option.some.injEq, Prod.mk.injEq] at H
  obtain ⟨rfl, rfl, rfl, rfl, rfl, rfl, rfl, rfl⟩ := H
  go_enter Try.func40, Try.ntmps40
  go_wp2_with (first | ((with_reducible refine gate_dst (N := 10) rfl ?_); refine box_event ?hg (N := 10) ?hd (cs := #[.int .i64 0, .int .i64 0, .int .i64 0, .int .i64 0, .int .i64 0, .int .i64 0, .int .i64 0, .slice none 0 0]) (t := 29) ?hr ?_; (case hd => rfl); (case hg => rfl); (case hr => first | (go_simp; done) | (go_simp; rfl)); intro gb394 hg w7 hbox hb; have n0_ := Aside0.mk (below_step (by repeat (first | (with_reducible first | exact HB.out | apply below_alloc | apply pw_below_drewN | apply below_drew1) | exact HB.out)) hb); have n1_ := Aside0.mk (hbox); have n2_ := Aside0.mk ((by rw [hg]; exact (below_size (by repeat (first | (with_reducible first | exact HB.out | apply below_alloc | apply pw_below_drewN | apply below_drew1) | exact HB.out))) : w.heap.size ≤ gb394)); have n3_ := Aside0.mk ((by rw [hg]; exact (below_size (by repeat (first | (with_reducible first | exact HB.out | apply below_alloc | apply pw_below_drewN | apply below_drew1) | exact HB.out))) : w.heap.size ≤ gb394)); clear HB; have HB := n0_; have BK394 := n1_; have GW394 := n2_; have GE394 := n3_; clear n0_ n1_ n2_ n3_; clear hb hbox hg) | ((with_reducible refine gate_callee (f := 74) rfl ?_); refine goesL_ (some 16) rfl rfl Try.func74 (by kernel_rfl) rfl #[.slice A4 l4.length c4] rfl (by (try simp only [List.map_toArray, List.map_cons, List.map_nil]); first | done | rfl | (simp only [List.length_drop, List.length_take]; rfl)) ?_; (with_reducible refine (slices_Clone_string_string.calls _ _ l4 t395 _ ?side1 ?side2 A6.out).mono ?_); (case side1 => repeat (first | exact (Kd.C_below HR4.out HB.out) | (with_reducible refine Kd.C_alloc ?_ _) | (with_reducible refine Kd.C_drewN ?_ _) | (with_reducible refine Kd.C_drew ?_))); (case side2 => exact HC4.out); rintro e w8 ⟨v396, rfl, ho0, hb⟩; refine ⟨_, rfl, ?_⟩; have n0_ := Aside0.mk (Kd.R_lower ho0 (below_size (by repeat (first | (with_reducible first | exact HB.out | apply below_alloc | apply pw_below_drewN | apply below_drew1 | refine below_set ?_ GE394.out) | exact HB.out)))); have n1_ := Aside0.mk (blk_below (g := gb394) (o := .cells #[.int .i64 0, .int .i64 0, .int .i64 0, .int .i64 0, .int .i64 0, .int .i64 0, .int .i64 0, .slice none 0 0] 29 (0, 0)) (by (with_reducible repeat (first | refine blk_drewN ?_ _ | refine blk_drew ?_ | refine blk_alloc ?_ _)); exact BK394.out) hb); have n2_ := Aside0.mk (below_step (by repeat (first | (with_reducible first | exact HB.out | apply below_alloc | apply pw_below_drewN | apply below_drew1 | refine below_set ?_ GE394.out) | exact HB.out)) hb); clear BK394; clear HB; have HO397 := n0_; have BK394 := n1_; have HB := n2_; clear n0_ n1_ n2_; (try clear hb); (try clear hb2); (try clear hk); (try clear hi); (try clear ho0); obtain ⟨Ao9, co9, eo9⟩ := Kd.R_slice HO397.out; subst eo9; have hcz10_0 : w8.cell? ⟨gb394, 0, none⟩ = some (.int .i64 0) := (blk_cell BK394.out 0).trans rfl; have hcz10_1 : w8.cell? ⟨gb394, 1, none⟩ = some (.int .i64 0) := (blk_cell BK394.out 1).trans rfl; have hcz10_2 : w8.cell? ⟨gb394, 2, none⟩ = some (.int .i64 0) := (blk_cell BK394.out 2).trans rfl; have hcz10_3 : w8.cell? ⟨gb394, 3, none⟩ = some (.int .i64 0) := (blk_cell BK394.out 3).trans rfl; have hcz10_4 : w8.cell? ⟨gb394, 4, none⟩ = some (.int .i64 0) := (blk_cell BK394.out 4).trans rfl; have hcz10_5 : w8.cell? ⟨gb394, 5, none⟩ = some (.int .i64 0) := (blk_cell BK394.out 5).trans rfl; have hcz10_6 : w8.cell? ⟨gb394, 6, none⟩ = some (.int .i64 0) := (blk_cell BK394.out 6).trans rfl; have hcz10_7 : w8.cell? ⟨gb394, 7, none⟩ = some (.slice none 0 0) := (blk_cell BK394.out 7).trans rfl; have hfz10_0 := blk_frozen BK394.out 0; have hfz10_1 := blk_frozen BK394.out 1; have hfz10_2 := blk_frozen BK394.out 2; have hfz10_3 := blk_frozen BK394.out 3; have hfz10_4 := blk_frozen BK394.out 4; have hfz10_5 := blk_frozen BK394.out 5; have hfz10_6 := blk_frozen BK394.out 6; have hfz10_7 := blk_frozen BK394.out 7))
  refine bodyPost_ret (results_cell_row rfl _ _ gb394 29 #[.int .i64 1, .int .i64 a0, .int .i64 a1, .int .i64 a2, .int .i64 0, .int .i64 a3, .int .i64 0, .slice Ao9 t395.length co9] (0, 0) _ rfl (by (with_reducible repeat (first | refine blk_drewN ?_ _ | refine blk_drew ?_ | refine blk_alloc ?_ _)); refine blk_put (cs := #[.int .i64 1, .int .i64 a0, .int .i64 a1, .int .i64 a2, .int .i64 0, .int .i64 a3, .int .i64 0, .slice none 0 0]) ?_ 7 _ rfl; (with_reducible repeat (first | refine blk_drewN ?_ _ | refine blk_drew ?_ | refine blk_alloc ?_ _)); refine blk_put (cs := #[.int .i64 1, .int .i64 a0, .int .i64 a1, .int .i64 a2, .int .i64 0, .int .i64 a3, .int .i64 0, .slice none 0 0]) ?_ 6 _ rfl; (with_reducible repeat (first | refine blk_drewN ?_ _ | refine blk_drew ?_ | refine blk_alloc ?_ _)); refine blk_put (cs := #[.int .i64 1, .int .i64 a0, .int .i64 a1, .int .i64 a2, .int .i64 0, .int .i64 0, .int .i64 0, .slice none 0 0]) ?_ 5 _ rfl; (with_reducible repeat (first | refine blk_drewN ?_ _ | refine blk_drew ?_ | refine blk_alloc ?_ _)); refine blk_put (cs := #[.int .i64 1, .int .i64 a0, .int .i64 a1, .int .i64 a2, .int .i64 0, .int .i64 0, .int .i64 0, .slice none 0 0]) ?_ 4 _ rfl; (with_reducible repeat (first | refine blk_drewN ?_ _ | refine blk_drew ?_ | refine blk_alloc ?_ _)); refine blk_put (cs := #[.int .i64 1, .int .i64 a0, .int .i64 a1, .int .i64 0, .int .i64 0, .int .i64 0, .int .i64 0, .slice none 0 0]) ?_ 3 _ rfl; (with_reducible repeat (first | refine blk_drewN ?_ _ | refine blk_drew ?_ | refine blk_alloc ?_ _)); refine blk_put (cs := #[.int .i64 1, .int .i64 a0, .int .i64 0, .int .i64 0, .int .i64 0, .int .i64 0, .int .i64 0, .slice none 0 0]) ?_ 2 _ rfl; (with_reducible repeat (first | refine blk_drewN ?_ _ | refine blk_drew ?_ | refine blk_alloc ?_ _)); refine blk_put (cs := #[.int .i64 1, .int .i64 0, .int .i64 0, .int .i64 0, .int .i64 0, .int .i64 0, .int .i64 0, .slice none 0 0]) ?_ 1 _ rfl; (with_reducible repeat (first | refine blk_drewN ?_ _ | refine blk_drew ?_ | refine blk_alloc ?_ _)); refine blk_put (cs := #[.int .i64 0, .int .i64 0, .int .i64 0, .int .i64 0, .int .i64 0, .int .i64 0, .int .i64 0, .slice none 0 0]) ?_ 0 _ rfl; (with_reducible repeat (first | refine blk_drewN ?_ _ | refine blk_drew ?_ | refine blk_alloc ?_ _)); exact BK394.out) Try.underlying29 rfl (by kernel_rfl)) rfl ?_
  exact ⟨_, by first | rfl | (simp [errW_none, errW_some] <;> rfl) | (simp [*, errW_none, errW_some] <;> rfl), by (with_reducible repeat (first | apply Kd.R_alloc | apply Kd.R_drewN | apply Kd.R_drew)); exact Kd.R_mono (Kd.R_far (p := ⟨gb394, 7, none⟩) (Kd.R_far (p := ⟨gb394, 6, none⟩) (Kd.R_far (p := ⟨gb394, 5, none⟩) (Kd.R_far (p := ⟨gb394, 4, none⟩) (Kd.R_far (p := ⟨gb394, 3, none⟩) (Kd.R_far (p := ⟨gb394, 2, none⟩) (Kd.R_far (p := ⟨gb394, 1, none⟩) (Kd.R_far (p := ⟨gb394, 0, none⟩) (Kd.R_types HO397.out BK394.out (by decide)) (fun _ hk => hk.2) (.int .i64 1)) (fun _ hk => hk.2) (.int .i64 a0)) (fun _ hk => hk.2) (.int .i64 a1)) (fun _ hk => hk.2) (.int .i64 a2)) (fun _ hk => hk.2) (.int .i64 0)) (fun _ hk => hk.2) (.int .i64 a3)) (fun _ hk => hk.2) (.int .i64 0)) (fun _ hk => hk.2) (.slice Ao9 t395.length co9)) (fun _ hk => trivial), by repeat (first | (with_reducible first | exact HB.out | apply below_alloc | apply pw_below_drewN | apply below_drew1 | refine below_set ?_ GE394.out) | exact HB.out)⟩

end Go.Proofs.Ytfejidinfcmfjaa.P
-- Written by a program of this session (xprint.py) over the kit's print.py.
namespace Go.Proofs.Ytfejidinfcmfjaa.P
open Go.RowKit Go.Proofs.YtfejidinfcmfjaaW.PrintWords Go.Proofs.YtfejidinfcmfjaaW.PrintLast Go.Proofs.YtfejidinfcmfjaaW.PrintMore
attribute [local go_sem] max2_int min2_int max_two min_two max_three min_three max_four min_four   -- for this text's walks alone
set_option linter.unusedVariables false
set_option linter.unusedSimpArgs false

/-! ### msg_Cast: function 41 -/
def msg_Cast.f (a0 : Int) (a1 : Int) (a2_0 : Int) (a2_1 : Int) (a2_2 : Int) (l2_3 : List ByteArray) : Option (Int × Int × Int × Int × Int × Int × Int × List ByteArray) := (slices_Clone_string_string.f l2_3).bind fun t400 => (some (3, a2_0, a0, a1, a2_1, a2_2, 0, t400))
def msg_Cast.T1 : Bool × List (List Nat × List Nat) := (true, [([], []), ([0], [0]), ([], []), ([], []), ([], []), ([4], [4]), ([], []), ([6], [6]), ([], []), ([8], [8]), ([9], [9]), ([1, 2, 3, 5, 7, 10], [1, 2, 3, 5, 7, 10]), ([11, 10, 0, 1, 2, 3, 4, 5, 6, 7, 8, 9, 10, 11], [11])])
def msg_Cast.B1 : List Nat := [0, 1, 0, 0, 0, 16, 0, 64, 0, 256, 768, 2047, 4095]
theorem msg_Cast.tab1 : rtab .any (opsOf Try.f41 1) = msg_Cast.T1 := by kernel_rfl
theorem msg_Cast.bits1 : waitsOk msg_Cast.T1.2 msg_Cast.B1 = true := by kernel_rfl
set_option maxHeartbeats 8000000 in
set_option maxRecDepth 100000 in
theorem msg_Cast.calls (a0 : Int) (a1 : Int) (a2_0 : Int) (a2_1 : Int) (a2_2 : Int) (A2_3 : Option Addr) (c2_3 : Nat) (l2_3 : List ByteArray) (r1 : Int) (r2 : Int) (r3 : Int) (r4 : Int) (r5 : Int) (r6 : Int) (r7 : Int) (r8 : List ByteArray) (w : World) (hr2_3 : Kd.C Kd.string w A2_3 l2_3.length l2_3) (hc2_3 : l2_3.length ≤ c2_3) (h : msg_Cast.f a0 a1 a2_0 a2_1 a2_2 l2_3 = some (r1, r2, r3, r4, r5, r6, r7, r8)) :
    Calls Try.prog 41 #[.int .i64 a0, .int .i64 a1, .agg #[.int .i64 a2_0, .int .i64 a2_1, .int .i64 a2_2, .slice A2_3 l2_3.length c2_3]] w fun e w' => ∃ v7_ : Value, e = .returned (.agg #[.int .i64 r1, .int .i64 r2, .int .i64 r3, .int .i64 r4, .int .i64 r5, .int .i64 r6, .int .i64 r7, v7_]) ∧ Kd.R Kd.string 9 w' w.heap.size (fun _ => True) v7_ r8 ∧ Below w.heap.size w w' := by
  have hu54 := Try.underlying54
  have hu29 := Try.underlying29
  have HR2_3 := Aside0.mk hr2_3
  have HC2_3 := Aside0.mk hc2_3
  clear hr2_3 hc2_3
  have HB := Aside0.mk (Below.refl w.heap.size w)
  have H : ((slices_Clone_string_string.f l2_3).bind fun t400 => (some (3, a2_0, a0, a1, a2_1, a2_2, 0, t400))) = some (r1, r2, r3, r4, r5, r6, r7, r8) := h
  clear h
  replace H := Option.bind_eq_some_iff.mp H
  obtain ⟨t400, A40, H⟩ := H
  replace H : (some (3, a2_0, a0, a1, a2_1, a2_2, 0, t400)) = some (r1, r2, r3, r4, r5, r6, r7, r8) := H
  have A4 := Aside0.mk A40
  clear A40
  simp only [Option.some.injEq, Prod.mk.injEq] at H
  obtain ⟨rfl, rfl, rfl, rfl, rfl, rfl, rfl, rfl⟩ := H
  go_enter Try.func41, Try.ntmps41
  try go_wp2_with (first | ((with_reducible refine gate_dst (N := 5) rfl ?_); refine box_event ?hg (N := 5) ?hd (cs := #[.int .i64 a2_0, .int .i64 a2_1, .int .i64 a2_2, .slice A2_3 l2_3.length c2_3]) (t := 54) ?hr ?_; (case hd => rfl); (case hg => rfl); (case hr => first | (go_simp; done) | (go_simp; rfl)); intro gb398 hg w5 hbox hb; have n0_ := Aside0.mk (below_step (by repeat (first | (with_reducible first | exact HB.out | apply below_alloc | apply pw_below_drewN | apply below_drew1) | exact HB.out)) hb); have n1_ := Aside0.mk (hbox); have n2_ := Aside0.mk ((by rw [hg]; exact (below_size (by repeat (first | (with_reducible first | exact HB.out | apply below_alloc | apply pw_below_drewN | apply below_drew1) | exact HB.out))) : w.heap.size ≤ gb398)); have n3_ := Aside0.mk ((by rw [hg]; exact (below_size (by repeat (first | (with_reducible first | exact HB.out | apply below_alloc | apply pw_below_drewN | apply below_drew1) | exact HB.out))) : w.heap.size ≤ gb398)); clear HB; have HB := n0_; have BK398 := n1_; have GW398 := n2_; have GE398 := n3_; clear n0_ n1_ n2_ n3_; clear hb hbox hg) | ((with_reducible refine gate_dst (N := 6) rfl ?_); refine box_event ?hg (N := 6) ?hd (cs := #[.int .i64 0, .int .i64 0, .int .i64 0, .int .i64 0, .int .i64 0, .int .i64 0, .int .i64 0, .slice none 0 0]) (t := 29) ?hr ?_; (case hd => rfl); (case hg => rfl); (case hr => first | (go_simp; done) | (go_simp; rfl)); intro gb399 hg w6 hbox hb; have n0_ := Aside0.mk (blk_below (g := gb398) (o := .cells #[.int .i64 a2_0, .int .i64 a2_1, .int .i64 a2_2, .slice A2_3 l2_3.length c2_3] 54 (0, 0)) (by (with_reducible repeat (first | refine blk_drewN ?_ _ | refine blk_drew ?_ | refine blk_alloc ?_ _)); exact BK398.out) hb); have n1_ := Aside0.mk (below_step (by repeat (first | (with_reducible first | exact HB.out | apply below_alloc | apply pw_below_drewN | apply below_drew1 | refine below_set ?_ GE398.out) | exact HB.out)) hb); have n2_ := Aside0.mk (hbox); have n3_ := Aside0.mk ((by rw [hg]; exact (below_size (by repeat (first | (with_reducible first | exact HB.out | apply below_alloc | apply pw_below_drewN | apply below_drew1 | refine below_set ?_ GE398.out) | exact HB.out))) : w.heap.size ≤ gb399)); have n4_ := Aside0.mk ((by rw [hg]; exact (below_size (by repeat (first | (with_reducible first | exact HB.out | apply below_alloc | apply pw_below_drewN | apply below_drew1 | refine below_set ?_ GE398.out) | exact HB.out))) : w.heap.size ≤ gb399)); have n5_ := Aside0.mk ((by rw [hg]; exact Nat.ne_of_lt (blk_lt (g := gb398) (o := .cells #[.int .i64 a2_0, .int .i64 a2_1, .int .i64 a2_2, .slice A2_3 l2_3.length c2_3] 54 (0, 0)) (by (with_reducible repeat (first | refine blk_drewN ?_ _ | refine blk_drew ?_ | refine blk_alloc ?_ _)); exact BK398.out)) : gb398 ≠ gb399)); have n6_ := Aside0.mk ((by rw [hg]; exact Nat.ne_of_gt (blk_lt (g := gb398) (o := .cells #[.int .i64 a2_0, .int .i64 a2_1, .int .i64 a2_2, .slice A2_3 l2_3.length c2_3] 54 (0, 0)) (by (with_reducible repeat (first | refine blk_drewN ?_ _ | refine blk_drew ?_ | refine blk_alloc ?_ _)); exact BK398.out)) : gb399 ≠ gb398)); clear BK398; clear HB; have BK398 := n0_; have HB := n1_; have BK399 := n2_; have GW399 := n3_; have GE399 := n4_; have NB398_399 := n5_; have NB399_398 := n6_; clear n0_ n1_ n2_ n3_ n4_ n5_ n6_; clear hb hbox hg))
  have n0_ := Aside0.mk (blk_drew BK398.out)
  have n1_ := Aside0.mk (blk_drew BK399.out)
  have n2_ := Aside0.mk (below_drew1 HB.out)
  clear BK398
  clear BK399
  clear HB
  have BK398 := n0_
  have BK399 := n1_
  have HB := n2_
  clear n0_ n1_ n2_
  refine start_ (n := 13) (S := fun w' => w'.cell? ⟨gb398, 0, none⟩ = some (.int .i64 a2_0) ∧ w'.cell? ⟨gb398, 1, none⟩ = some (.int .i64 a2_1) ∧ w'.cell? ⟨gb398, 2, none⟩ = some (.int .i64 a2_2) ∧ w'.cell? ⟨gb398, 3, none⟩ = some (.slice A2_3 l2_3.length c2_3)) (ds := []) #[false, false, false, false, false, false, false, false, false, false, false, false, false] (by kernel_rfl) rfl rfl ⟨(blk_cell BK398.out 0).trans rfl, (blk_cell BK398.out 1).trans rfl, (blk_cell BK398.out 2).trans rfl, (blk_cell BK398.out 3).trans rfl⟩ (fun hHeld => ?_); refine with_tabW msg_Cast.tab1 msg_Cast.bits1 (fun HT_ HW_ => ?_)
  generalize w6.drew = w7 at BK398 BK399 HB hHeld ⊢
  refine pure_ (i := 0) (N := some 7) (v := ?_) (a' := ?_) #[true, false, false, false, false, false, false, false, false, false, false, false, false] rfl rfl (any_of HT_.out (by kernel_rfl)) (fun _ _ _ h => h) (Or.inl ⟨by rfl, ?_⟩) ?_ ?_
  rotate_left
  · intro w'
    go_simp
    with_reducible rfl
  rotate_left
  · simp only [Act.put, List.setIfInBounds_toArray, List.set_cons_zero, List.set_cons_succ, i64_w, i32_w]
    rfl
  refine pure_ (i := 2) (N := some 9) (v := ?_) (a' := ?_) #[true, false, true, false, false, false, false, false, false, false, false, false, false] rfl rfl (any_of HT_.out (by kernel_rfl)) (fun _ _ _ h => h) (Or.inl ⟨by rfl, ?_⟩) ?_ ?_
  rotate_left
  · intro w'
    go_simp
    with_reducible rfl
  rotate_left
  · simp only [Act.put, List.setIfInBounds_toArray, List.set_cons_zero, List.set_cons_succ, i64_w, i32_w]
    rfl
  refine pure_ (i := 3) (N := some 10) (v := ?_) (a' := ?_) #[true, false, true, true, false, false, false, false, false, false, false, false, false] rfl rfl (any_of HT_.out (by kernel_rfl)) (fun _ _ _ h => h) (Or.inl ⟨by rfl, ?_⟩) ?_ ?_
  rotate_left
  · intro w'
    go_simp
    with_reducible rfl
  rotate_left
  · simp only [Act.put, List.setIfInBounds_toArray, List.set_cons_zero, List.set_cons_succ, i64_w, i32_w]
    rfl
  refine pure_ (i := 4) (N := some 11) (v := ?_) (a' := ?_) #[true, false, true, true, true, false, false, false, false, false, false, false, false] rfl rfl (any_of HT_.out (by kernel_rfl)) (fun _ _ _ h => h) (Or.inl ⟨by rfl, ?_⟩) ?_ ?_
  rotate_left
  · intro w'
    go_simp
    with_reducible rfl
  rotate_left
  · simp only [Act.put, List.setIfInBounds_toArray, List.set_cons_zero, List.set_cons_succ, i64_w, i32_w]
    rfl
  refine pure_ (i := 6) (N := some 13) (v := ?_) (a' := ?_) #[true, false, true, true, true, false, true, false, false, false, false, false, false] rfl rfl (any_of HT_.out (by kernel_rfl)) (fun _ _ _ h => h) (Or.inl ⟨by rfl, ?_⟩) ?_ ?_
  rotate_left
  · intro w'
    go_simp
    with_reducible rfl
  rotate_left
  · simp only [Act.put, List.setIfInBounds_toArray, List.set_cons_zero, List.set_cons_succ, i64_w, i32_w]
    rfl
  refine pure_ (i := 8) (N := some 15) (v := ?_) (a' := ?_) #[true, false, true, true, true, false, true, false, true, false, false, false, false] rfl rfl (any_of HT_.out (by kernel_rfl)) (fun _ _ _ h => h) (Or.inl ⟨by rfl, ?_⟩) ?_ ?_
  rotate_left
  · intro w'
    go_simp
    with_reducible rfl
  rotate_left
  · simp only [Act.put, List.setIfInBounds_toArray, List.set_cons_zero, List.set_cons_succ, i64_w, i32_w]
    rfl
  refine take_ (i := 1) (N := some 8) (v := ?_) (a' := ?_) #[true, true, true, true, true, false, true, false, true, false, false, false, false] rfl rfl (take_ofW HT_.out HW_.out (by kernel_rfl)) (fun _ _ _ h => h) (Or.inl ⟨by rfl, ?_⟩) hHeld ?_ ?_
  rotate_left
  · rintro w' ⟨s0, s1, s2, s3⟩
    go_simp
    with_reducible rfl
  rotate_left
  · simp only [Act.put, List.setIfInBounds_toArray, List.set_cons_zero, List.set_cons_succ, i64_w, i32_w]
    rfl
  refine take_ (i := 5) (N := some 12) (v := ?_) (a' := ?_) #[true, true, true, true, true, true, true, false, true, false, false, false, false] rfl rfl (take_ofW HT_.out HW_.out (by kernel_rfl)) (fun _ _ _ h => h) (Or.inl ⟨by rfl, ?_⟩) hHeld ?_ ?_
  rotate_left
  · rintro w' ⟨s0, s1, s2, s3⟩
    go_simp
    with_reducible rfl
  rotate_left
  · simp only [Act.put, List.setIfInBounds_toArray, List.set_cons_zero, List.set_cons_succ, i64_w, i32_w]
    rfl
  refine take_ (i := 7) (N := some 14) (v := ?_) (a' := ?_) #[true, true, true, true, true, true, true, true, true, false, false, false, false] rfl rfl (take_ofW HT_.out HW_.out (by kernel_rfl)) (fun _ _ _ h => h) (Or.inl ⟨by rfl, ?_⟩) hHeld ?_ ?_
  rotate_left
  · rintro w' ⟨s0, s1, s2, s3⟩
    go_simp
    with_reducible rfl
  rotate_left
  · simp only [Act.put, List.setIfInBounds_toArray, List.set_cons_zero, List.set_cons_succ, i64_w, i32_w]
    rfl
  refine take_ (i := 9) (N := some 16) (v := ?_) (a' := ?_) #[true, true, true, true, true, true, true, true, true, true, false, false, false] rfl rfl (take_ofW HT_.out HW_.out (by kernel_rfl)) (fun _ _ _ h => h) (Or.inl ⟨by rfl, ?_⟩) hHeld ?_ ?_
  rotate_left
  · rintro w' ⟨s0, s1, s2, s3⟩
    go_simp
    with_reducible rfl
  rotate_left
  · simp only [Act.put, List.setIfInBounds_toArray, List.set_cons_zero, List.set_cons_succ, i64_w, i32_w]
    rfl
  refine one_ (i := 10) (N := some 17) #[true, true, true, true, true, true, true, true, true, true, true, false, false] rfl rfl (one_of HT_.out (by kernel_rfl)) (by decide) (fun K hK => ?_)
  refine goes_ Try.func74 (by kernel_rfl) rfl #[.slice A2_3 l2_3.length c2_3] (by rfl) rfl rfl (by (try simp only [List.map_toArray, List.map_cons, List.map_nil]); first | done | rfl | (simp only [List.length_drop, List.length_take]; rfl)) ?_
  with_reducible refine (slices_Clone_string_string.calls _ _ l2_3 t400 _ ?side1 ?side2 A4.out).mono ?_
  (case side1 => repeat (first | exact (Kd.C_below HR2_3.out HB.out) | (with_reducible refine Kd.C_alloc ?_ _) | (with_reducible refine Kd.C_drewN ?_ _) | (with_reducible refine Kd.C_drew ?_)))
  (case side2 => exact HC2_3.out)
  rintro e w8 ⟨v401, rfl, ho0, hb⟩
  refine ⟨_, rfl, ?_⟩
  have n0_ := Aside0.mk (Kd.R_lower ho0 (below_size (by repeat (first | (with_reducible first | exact HB.out | apply below_alloc | apply pw_below_drewN | apply below_drew1 | refine below_set ?_ GE398.out | refine below_set ?_ GE399.out) | exact HB.out))))
  have n1_ := Aside0.mk (blk_below (g := gb398) (o := .cells #[.int .i64 a2_0, .int .i64 a2_1, .int .i64 a2_2, .slice A2_3 l2_3.length c2_3] 54 (0, 0)) (by (with_reducible repeat (first | refine blk_drewN ?_ _ | refine blk_drew ?_ | refine blk_alloc ?_ _)); exact BK398.out) hb)
  have n2_ := Aside0.mk (blk_below (g := gb399) (o := .cells #[.int .i64 0, .int .i64 0, .int .i64 0, .int .i64 0, .int .i64 0, .int .i64 0, .int .i64 0, .slice none 0 0] 29 (0, 0)) (by (with_reducible repeat (first | refine blk_drewN ?_ _ | refine blk_drew ?_ | refine blk_alloc ?_ _)); exact BK399.out) hb)
  have n3_ := Aside0.mk (below_step (by repeat (first | (with_reducible first | exact HB.out | apply below_alloc | apply pw_below_drewN | apply below_drew1 | refine below_set ?_ GE398.out | refine below_set ?_ GE399.out) | exact HB.out)) hb)
  clear BK398
  clear BK399
  clear HB
  have HO402 := n0_
  have BK398 := n1_
  have BK399 := n2_
  have HB := n3_
  clear n0_ n1_ n2_ n3_
  (try clear hb)
  (try clear hb2)
  (try clear hk)
  (try clear hi)
  (try clear ho0)
  obtain ⟨Ao9, co9, eo9⟩ := Kd.R_slice HO402.out
  (first | subst eo9 | (injection eo9 with f1_ f2_ f3_; have f4_ := f1_.symm; have f5_ := f3_.symm; clear f1_ f2_ f3_; subst f4_; subst f5_))
  refine hK.out _ _ ⟨(blk_cell BK398.out 0).trans rfl, (blk_cell BK398.out 1).trans rfl, (blk_cell BK398.out 2).trans rfl, (blk_cell BK398.out 3).trans rfl⟩ (fun hHeld => ?_)
  clear hK K
  refine norm_ (a' := ?_) ?_ ?_
  rotate_left
  · show Act.put _ (some 17) _ = _
    simp only [Act.put, List.setIfInBounds_toArray, List.set_cons_zero, List.set_cons_succ, i64_w, i32_w]
    rfl
  refine pure_ (i := 11) (N := some 18) (v := ?_) (a' := ?_) #[true, true, true, true, true, true, true, true, true, true, true, true, false] rfl rfl (any_of HT_.out (by kernel_rfl)) (fun _ _ _ h => h) (Or.inl ⟨by rfl, ?_⟩) ?_ ?_
  rotate_left
  · intro w'
    go_simp
    with_reducible rfl
  rotate_left
  · simp only [Act.put, List.setIfInBounds_toArray, List.set_cons_zero, List.set_cons_succ, i64_w, i32_w]
    rfl
  refine one_ (i := 12) (N := none) #[true, true, true, true, true, true, true, true, true, true, true, true, true] rfl rfl (one_of HT_.out (by kernel_rfl)) (by decide) (fun K hK => ?_)
  have hs10 : w8.cell? ⟨gb399, 0, none⟩ = some (.int .i64 0) := (blk_cell BK399.out 0).trans rfl
  have hfs10 := blk_frozen BK399.out 0
  have hns10_0 := NB398_399.out
  have hms10_0 := NB399_398.out
  have hs11 : w8.cell? ⟨gb399, 1, none⟩ = some (.int .i64 0) := (blk_cell BK399.out 1).trans rfl
  have hfs11 := blk_frozen BK399.out 1
  have hns11_0 := NB398_399.out
  have hms11_0 := NB399_398.out
  have hs12 : w8.cell? ⟨gb399, 2, none⟩ = some (.int .i64 0) := (blk_cell BK399.out 2).trans rfl
  have hfs12 := blk_frozen BK399.out 2
  have hns12_0 := NB398_399.out
  have hms12_0 := NB399_398.out
  have hs13 : w8.cell? ⟨gb399, 3, none⟩ = some (.int .i64 0) := (blk_cell BK399.out 3).trans rfl
  have hfs13 := blk_frozen BK399.out 3
  have hns13_0 := NB398_399.out
  have hms13_0 := NB399_398.out
  have hs14 : w8.cell? ⟨gb399, 4, none⟩ = some (.int .i64 0) := (blk_cell BK399.out 4).trans rfl
  have hfs14 := blk_frozen BK399.out 4
  have hns14_0 := NB398_399.out
  have hms14_0 := NB399_398.out
  have hs15 : w8.cell? ⟨gb399, 5, none⟩ = some (.int .i64 0) := (blk_cell BK399.out 5).trans rfl
  have hfs15 := blk_frozen BK399.out 5
  have hns15_0 := NB398_399.out
  have hms15_0 := NB399_398.out
  have hs16 : w8.cell? ⟨gb399, 6, none⟩ = some (.int .i64 0) := (blk_cell BK399.out 6).trans rfl
  have hfs16 := blk_frozen BK399.out 6
  have hns16_0 := NB398_399.out
  have hms16_0 := NB399_398.out
  have hs17 : w8.cell? ⟨gb399, 7, none⟩ = some (.slice none 0 0) := (blk_cell BK399.out 7).trans rfl
  have hfs17 := blk_frozen BK399.out 7
  have hns17_0 := NB398_399.out
  have hms17_0 := NB399_398.out
  refine skip_ (w1 := ?_) (by rfl) rfl ?_ ?_
  rotate_left
  · go_simp
    rfl
  refine hK.out _ _ ⟨((cell_far (p := ⟨gb399, _, none⟩) NB398_399.out _).trans (((cell_far (p := ⟨gb399, _, none⟩) NB398_399.out _).trans (((cell_far (p := ⟨gb399, _, none⟩) NB398_399.out _).trans (((cell_far (p := ⟨gb399, _, none⟩) NB398_399.out _).trans (((cell_far (p := ⟨gb399, _, none⟩) NB398_399.out _).trans (((cell_far (p := ⟨gb399, _, none⟩) NB398_399.out _).trans (((cell_far (p := ⟨gb399, _, none⟩) NB398_399.out _).trans (((cell_far (p := ⟨gb399, _, none⟩) NB398_399.out _).trans (hHeld.1)))))))))))))))), ((cell_far (p := ⟨gb399, _, none⟩) NB398_399.out _).trans (((cell_far (p := ⟨gb399, _, none⟩) NB398_399.out _).trans (((cell_far (p := ⟨gb399, _, none⟩) NB398_399.out _).trans (((cell_far (p := ⟨gb399, _, none⟩) NB398_399.out _).trans (((cell_far (p := ⟨gb399, _, none⟩) NB398_399.out _).trans (((cell_far (p := ⟨gb399, _, none⟩) NB398_399.out _).trans (((cell_far (p := ⟨gb399, _, none⟩) NB398_399.out _).trans (((cell_far (p := ⟨gb399, _, none⟩) NB398_399.out _).trans (hHeld.2.1)))))))))))))))), ((cell_far (p := ⟨gb399, _, none⟩) NB398_399.out _).trans (((cell_far (p := ⟨gb399, _, none⟩) NB398_399.out _).trans (((cell_far (p := ⟨gb399, _, none⟩) NB398_399.out _).trans (((cell_far (p := ⟨gb399, _, none⟩) NB398_399.out _).trans (((cell_far (p := ⟨gb399, _, none⟩) NB398_399.out _).trans (((cell_far (p := ⟨gb399, _, none⟩) NB398_399.out _).trans (((cell_far (p := ⟨gb399, _, none⟩) NB398_399.out _).trans (((cell_far (p := ⟨gb399, _, none⟩) NB398_399.out _).trans (hHeld.2.2.1)))))))))))))))), ((cell_far (p := ⟨gb399, _, none⟩) NB398_399.out _).trans (((cell_far (p := ⟨gb399, _, none⟩) NB398_399.out _).trans (((cell_far (p := ⟨gb399, _, none⟩) NB398_399.out _).trans (((cell_far (p := ⟨gb399, _, none⟩) NB398_399.out _).trans (((cell_far (p := ⟨gb399, _, none⟩) NB398_399.out _).trans (((cell_far (p := ⟨gb399, _, none⟩) NB398_399.out _).trans (((cell_far (p := ⟨gb399, _, none⟩) NB398_399.out _).trans (((cell_far (p := ⟨gb399, _, none⟩) NB398_399.out _).trans (hHeld.2.2.2))))))))))))))))⟩ (fun hHeld => ?_)
  clear hK K
  refine done_ (done_of HT_.out (by kernel_rfl)) ?_
  try go_wp2
  refine bodyPost_ret (results_cell_row rfl _ _ gb399 29 #[.int .i64 3, .int .i64 a2_0, .int .i64 a0, .int .i64 a1, .int .i64 a2_1, .int .i64 a2_2, .int .i64 0, .slice Ao9 t400.length co9] (0, 0) _ rfl (by (with_reducible repeat (first | refine blk_drewN ?_ _ | refine blk_drew ?_ | refine blk_alloc ?_ _)); refine blk_put (cs := #[.int .i64 3, .int .i64 a2_0, .int .i64 a0, .int .i64 a1, .int .i64 a2_1, .int .i64 a2_2, .int .i64 0, .slice none 0 0]) ?_ 7 _ rfl; (with_reducible repeat (first | refine blk_drewN ?_ _ | refine blk_drew ?_ | refine blk_alloc ?_ _)); refine blk_put (cs := #[.int .i64 3, .int .i64 a2_0, .int .i64 a0, .int .i64 a1, .int .i64 a2_1, .int .i64 a2_2, .int .i64 0, .slice none 0 0]) ?_ 6 _ rfl; (with_reducible repeat (first | refine blk_drewN ?_ _ | refine blk_drew ?_ | refine blk_alloc ?_ _)); refine blk_put (cs := #[.int .i64 3, .int .i64 a2_0, .int .i64 a0, .int .i64 a1, .int .i64 a2_1, .int .i64 0, .int .i64 0, .slice none 0 0]) ?_ 5 _ rfl; (with_reducible repeat (first | refine blk_drewN ?_ _ | refine blk_drew ?_ | refine blk_alloc ?_ _)); refine blk_put (cs := #[.int .i64 3, .int .i64 a2_0, .int .i64 a0, .int .i64 a1, .int .i64 0, .int .i64 0, .int .i64 0, .slice none 0 0]) ?_ 4 _ rfl; (with_reducible repeat (first | refine blk_drewN ?_ _ | refine blk_drew ?_ | refine blk_alloc ?_ _)); refine blk_put (cs := #[.int .i64 3, .int .i64 a2_0, .int .i64 a0, .int .i64 0, .int .i64 0, .int .i64 0, .int .i64 0, .slice none 0 0]) ?_ 3 _ rfl; (with_reducible repeat (first | refine blk_drewN ?_ _ | refine blk_drew ?_ | refine blk_alloc ?_ _)); refine blk_put (cs := #[.int .i64 3, .int .i64 a2_0, .int .i64 0, .int .i64 0, .int .i64 0, .int .i64 0, .int .i64 0, .slice none 0 0]) ?_ 2 _ rfl; (with_reducible repeat (first | refine blk_drewN ?_ _ | refine blk_drew ?_ | refine blk_alloc ?_ _)); refine blk_put (cs := #[.int .i64 3, .int .i64 0, .int .i64 0, .int .i64 0, .int .i64 0, .int .i64 0, .int .i64 0, .slice none 0 0]) ?_ 1 _ rfl; (with_reducible repeat (first | refine blk_drewN ?_ _ | refine blk_drew ?_ | refine blk_alloc ?_ _)); refine blk_put (cs := #[.int .i64 0, .int .i64 0, .int .i64 0, .int .i64 0, .int .i64 0, .int .i64 0, .int .i64 0, .slice none 0 0]) ?_ 0 _ rfl; (with_reducible repeat (first | refine blk_drewN ?_ _ | refine blk_drew ?_ | refine blk_alloc ?_ _)); exact BK399.out) Try.underlying29 rfl (by kernel_rfl)) rfl ?_
  exact ⟨_, by first | rfl | (simp [errW_none, errW_some] <;> rfl) | (simp [*, errW_none, errW_some] <;> rfl), by (with_reducible repeat (first | apply Kd.R_alloc | apply Kd.R_drewN | apply Kd.R_drew)); exact Kd.R_mono (Kd.R_far (p := ⟨gb399, 7, none⟩) (Kd.R_far (p := ⟨gb399, 6, none⟩) (Kd.R_far (p := ⟨gb399, 5, none⟩) (Kd.R_far (p := ⟨gb399, 4, none⟩) (Kd.R_far (p := ⟨gb399, 3, none⟩) (Kd.R_far (p := ⟨gb399, 2, none⟩) (Kd.R_far (p := ⟨gb399, 1, none⟩) (Kd.R_far (p := ⟨gb399, 0, none⟩) (Kd.R_types HO402.out BK399.out (by decide)) (fun _ hk => hk.2) (.int .i64 3)) (fun _ hk => hk.2) (.int .i64 a2_0)) (fun _ hk => hk.2) (.int .i64 a0)) (fun _ hk => hk.2) (.int .i64 a1)) (fun _ hk => hk.2) (.int .i64 a2_1)) (fun _ hk => hk.2) (.int .i64 a2_2)) (fun _ hk => hk.2) (.int .i64 0)) (fun _ hk => hk.2) (.slice Ao9 t400.length co9)) (fun _ hk => trivial), by repeat (first | (with_reducible first | exact HB.out | apply below_alloc | apply pw_below_drewN | apply below_drew1 | refine below_set ?_ GE398.out | refine below_set ?_ GE399.out) | exact HB.out)⟩

end Go.Proofs.Ytfejidinfcmfjaa.P
-- Written by a program of this session (xprint.py) over the kit's print.py.
namespace Go.Proofs.Ytfejidinfcmfjaa.P
open Go.RowKit Go.Proofs.YtfejidinfcmfjaaW.PrintWords Go.Proofs.YtfejidinfcmfjaaW.PrintLast Go.Proofs.YtfejidinfcmfjaaW.PrintMore
attribute [local go_sem] max2_int min2_int max_two min_two max_three min_three max_four min_four   -- for this text's walks alone
set_option linter.unusedVariables false
set_option linter.unusedSimpArgs false

/-! ### msg_Vote: function 42 -/
def msg_Vote.f (a0_0 : Int) (a0_1 : Int) (a0_2 : Int) (a0_3 : Int) (a0_4 : Int) (a0_5 : Int) (a0_6 : Int) (l0_7 : List ByteArray) : Option (Int × Int × Int × List ByteArray × Bool) := if a0_0 = 3 then ((slices_Clone_string_string.f l0_7).bind fun t405 => (some (a0_1, a0_4, a0_5, t405, true))) else (some (0, 0, 0, ([] : List ByteArray), false))
def msg_Vote.T3 : Bool × List (List Nat × List Nat) := (true, [([], []), ([0], [0]), ([], []), ([2], [2]), ([], []), ([4], [4]), ([], []), ([6], [6]), ([7], [7]), ([1, 3, 5, 8], [1, 3, 5, 8]), ([9, 8, 0, 1, 2, 3, 4, 5, 6, 7, 8, 9], [9]), ([10, 0, 1, 2, 3, 4, 5, 6, 7, 8, 9, 10], [])])
def msg_Vote.B3 : List Nat := [0, 1, 0, 4, 0, 16, 0, 64, 192, 511, 1023, 2047]
theorem msg_Vote.tab3 : rtab .any (opsOf Try.f42 3) = msg_Vote.T3 := by kernel_rfl
theorem msg_Vote.bits3 : waitsOk msg_Vote.T3.2 msg_Vote.B3 = true := by kernel_rfl
set_option maxHeartbeats 8000000 in
set_option maxRecDepth 100000 in
theorem msg_Vote.calls (a0_0 : Int) (a0_1 : Int) (a0_2 : Int) (a0_3 : Int) (a0_4 : Int) (a0_5 : Int) (a0_6 : Int) (A0_7 : Option Addr) (c0_7 : Nat) (l0_7 : List ByteArray) (r1 : Int) (r2 : Int) (r3 : Int) (r4 : List ByteArray) (r5 : Bool) (w : World) (hr0_7 : Kd.C Kd.string w A0_7 l0_7.length l0_7) (hc0_7 : l0_7.length ≤ c0_7) (h : msg_Vote.f a0_0 a0_1 a0_2 a0_3 a0_4 a0_5 a0_6 l0_7 = some (r1, r2, r3, r4, r5)) :
    Calls Try.prog 42 #[.agg #[.int .i64 a0_0, .int .i64 a0_1, .int .i64 a0_2, .int .i64 a0_3, .int .i64 a0_4, .int .i64 a0_5, .int .i64 a0_6, .slice A0_7 l0_7.length c0_7]] w fun e w' => ∃ v3_ : Value, e = .returned (.tuple #[.agg #[.int .i64 r1, .int .i64 r2, .int .i64 r3, v3_], .bool r5]) ∧ Kd.R Kd.string 9 w' w.heap.size (fun _ => True) v3_ r4 ∧ Below w.heap.size w w' := by
  have hu29 := Try.underlying29
  have hu54 := Try.underlying54
  have HR0_7 := Aside0.mk hr0_7
  have HC0_7 := Aside0.mk hc0_7
  clear hr0_7 hc0_7
  have HB := Aside0.mk (Below.refl w.heap.size w)
  have H : (if a0_0 = 3 then ((slices_Clone_string_string.f l0_7).bind fun t405 => (some (a0_1, a0_4, a0_5, t405, true))) else (some (0, 0, 0, ([] : List ByteArray), false))) = some (r1, r2, r3, r4, r5) := h
  clear h
  by_cases c2 : a0_0 = 3
  · rw [if_pos c2] at H
    have c2b0 : (a0_0 == 3) = true := beq_iff_eq.mpr c2
    have c2b1 : (a0_0 != 3) = false := bne_eq_false_iff_eq.mpr c2
    clear c2
    replace H := Option.bind_eq_some_iff.mp H
    obtain ⟨t405, A30, H⟩ := H
    replace H : (some (a0_1, a0_4, a0_5, t405, true)) = some (r1, r2, r3, r4, r5) := H
    have A3 := Aside0.mk A30
    clear A30
    simp only [Option.some.injEq, Prod.mk.injEq] at H
    obtain ⟨rfl, rfl, rfl, rfl, rfl⟩ := H
    go_enter Try.func42, Try.ntmps42
    try go_wp2_with (first | ((with_reducible refine gate_dst (N := 1) rfl ?_); refine box_event ?hg (N := 1) ?hd (cs := #[.int .i64 a0_0, .int .i64 a0_1, .int .i64 a0_2, .int .i64 a0_3, .int .i64 a0_4, .int .i64 a0_5, .int .i64 a0_6, .slice A0_7 l0_7.length c0_7]) (t := 29) ?hr ?_; (case hd => rfl); (case hg => rfl); (case hr => first | (go_simp; done) | (go_simp; rfl)); intro gb403 hg w4 hbox hb; have n0_ := Aside0.mk (below_step (by repeat (first | (with_reducible first | exact HB.out | apply below_alloc | apply pw_below_drewN | apply below_drew1) | exact HB.out)) hb); have n1_ := Aside0.mk (hbox); have n2_ := Aside0.mk ((by rw [hg]; exact (below_size (by repeat (first | (with_reducible first | exact HB.out | apply below_alloc | apply pw_below_drewN | apply below_drew1) | exact HB.out))) : w.heap.size ≤ gb403)); have n3_ := Aside0.mk ((by rw [hg]; exact (below_size (by repeat (first | (with_reducible first | exact HB.out | apply below_alloc | apply pw_below_drewN | apply below_drew1) | exact HB.out))) : w.heap.size ≤ gb403)); clear HB; have HB := n0_; have BK403 := n1_; have GW403 := n2_; have GE403 := n3_; clear n0_ n1_ n2_ n3_; clear hb hbox hg) | ((with_reducible refine gate_dst (N := 2) rfl ?_); refine box_event ?hg (N := 2) ?hd (cs := #[.int .i64 0, .int .i64 0, .int .i64 0, .slice none 0 0]) (t := 54) ?hr ?_; (case hd => rfl); (case hg => rfl); (case hr => first | (go_simp; done) | (go_simp; rfl)); intro gb404 hg w5 hbox hb; have n0_ := Aside0.mk (blk_below (g := gb403) (o := .cells #[.int .i64 a0_0, .int .i64 a0_1, .int .i64 a0_2, .int .i64 a0_3, .int .i64 a0_4, .int .i64 a0_5, .int .i64 a0_6, .slice A0_7 l0_7.length c0_7] 29 (0, 0)) (by (with_reducible repeat (first | refine blk_drewN ?_ _ | refine blk_drew ?_ | refine blk_alloc ?_ _)); exact BK403.out) hb); have n1_ := Aside0.mk (below_step (by repeat (first | (with_reducible first | exact HB.out | apply below_alloc | apply pw_below_drewN | apply below_drew1 | refine below_set ?_ GE403.out) | exact HB.out)) hb); have n2_ := Aside0.mk (hbox); have n3_ := Aside0.mk ((by rw [hg]; exact (below_size (by repeat (first | (with_reducible first | exact HB.out | apply below_alloc | apply pw_below_drewN | apply below_drew1 | refine below_set ?_ GE403.out) | exact HB.out))) : w.heap.size ≤ gb404)); have n4_ := Aside0.mk ((by rw [hg]; exact (below_size (by repeat (first | (with_reducible first | exact HB.out | apply below_alloc | apply pw_below_drewN | apply below_drew1 | refine below_set ?_ GE403.out) | exact HB.out))) : w.heap.size ≤ gb404)); have n5_ := Aside0.mk ((by rw [hg]; exact Nat.ne_of_lt (blk_lt (g := gb403) (o := .cells #[.int .i64 a0_0, .int .i64 a0_1, .int .i64 a0_2, .int .i64 a0_3, .int .i64 a0_4, .int .i64 a0_5, .int .i64 a0_6, .slice A0_7 l0_7.length c0_7] 29 (0, 0)) (by (with_reducible repeat (first | refine blk_drewN ?_ _ | refine blk_drew ?_ | refine blk_alloc ?_ _)); exact BK403.out)) : gb403 ≠ gb404)); have n6_ := Aside0.mk ((by rw [hg]; exact Nat.ne_of_gt (blk_lt (g := gb403) (o := .cells #[.int .i64 a0_0, .int .i64 a0_1, .int .i64 a0_2, .int .i64 a0_3, .int .i64 a0_4, .int .i64 a0_5, .int .i64 a0_6, .slice A0_7 l0_7.length c0_7] 29 (0, 0)) (by (with_reducible repeat (first | refine blk_drewN ?_ _ | refine blk_drew ?_ | refine blk_alloc ?_ _)); exact BK403.out)) : gb404 ≠ gb403)); clear BK403; clear HB; have BK403 := n0_; have HB := n1_; have BK404 := n2_; have GW404 := n3_; have GE404 := n4_; have NB403_404 := n5_; have NB404_403 := n6_; clear n0_ n1_ n2_ n3_ n4_ n5_ n6_; clear hb hbox hg; have hnb6 := NB403_404.out; have hnc6 := NB404_403.out; have hcz7_0 : w5.cell? ⟨gb403, 0, none⟩ = some (.int .i64 a0_0) := (blk_cell BK403.out 0).trans rfl; have hcz7_1 : w5.cell? ⟨gb403, 1, none⟩ = some (.int .i64 a0_1) := (blk_cell BK403.out 1).trans rfl; have hcz7_2 : w5.cell? ⟨gb403, 2, none⟩ = some (.int .i64 a0_2) := (blk_cell BK403.out 2).trans rfl; have hcz7_3 : w5.cell? ⟨gb403, 3, none⟩ = some (.int .i64 a0_3) := (blk_cell BK403.out 3).trans rfl; have hcz7_4 : w5.cell? ⟨gb403, 4, none⟩ = some (.int .i64 a0_4) := (blk_cell BK403.out 4).trans rfl; have hcz7_5 : w5.cell? ⟨gb403, 5, none⟩ = some (.int .i64 a0_5) := (blk_cell BK403.out 5).trans rfl; have hcz7_6 : w5.cell? ⟨gb403, 6, none⟩ = some (.int .i64 a0_6) := (blk_cell BK403.out 6).trans rfl; have hcz7_7 : w5.cell? ⟨gb403, 7, none⟩ = some (.slice A0_7 l0_7.length c0_7) := (blk_cell BK403.out 7).trans rfl; have hfz7_0 := blk_frozen BK403.out 0; have hfz7_1 := blk_frozen BK403.out 1; have hfz7_2 := blk_frozen BK403.out 2; have hfz7_3 := blk_frozen BK403.out 3; have hfz7_4 := blk_frozen BK403.out 4; have hfz7_5 := blk_frozen BK403.out 5; have hfz7_6 := blk_frozen BK403.out 6; have hfz7_7 := blk_frozen BK403.out 7))
    have n0_ := Aside0.mk (blk_drew BK403.out)
    have n1_ := Aside0.mk (blk_drew BK404.out)
    have n2_ := Aside0.mk (below_drew1 HB.out)
    clear BK403
    clear BK404
    clear HB
    have BK403 := n0_
    have BK404 := n1_
    have HB := n2_
    clear n0_ n1_ n2_
    refine start_ (n := 12) (S := fun w' => w'.cell? ⟨gb403, 0, none⟩ = some (.int .i64 a0_0) ∧ w'.cell? ⟨gb403, 1, none⟩ = some (.int .i64 a0_1) ∧ w'.cell? ⟨gb403, 2, none⟩ = some (.int .i64 a0_2) ∧ w'.cell? ⟨gb403, 3, none⟩ = some (.int .i64 a0_3) ∧ w'.cell? ⟨gb403, 4, none⟩ = some (.int .i64 a0_4) ∧ w'.cell? ⟨gb403, 5, none⟩ = some (.int .i64 a0_5) ∧ w'.cell? ⟨gb403, 6, none⟩ = some (.int .i64 a0_6) ∧ w'.cell? ⟨gb403, 7, none⟩ = some (.slice A0_7 l0_7.length c0_7)) (ds := []) #[false, false, false, false, false, false, false, false, false, false, false, false] (by kernel_rfl) rfl rfl ⟨(blk_cell BK403.out 0).trans rfl, (blk_cell BK403.out 1).trans rfl, (blk_cell BK403.out 2).trans rfl, (blk_cell BK403.out 3).trans rfl, (blk_cell BK403.out 4).trans rfl, (blk_cell BK403.out 5).trans rfl, (blk_cell BK403.out 6).trans rfl, (blk_cell BK403.out 7).trans rfl⟩ (fun hHeld => ?_); refine with_tabW msg_Vote.tab3 msg_Vote.bits3 (fun HT_ HW_ => ?_)
    generalize w5.drew = w8 at BK403 BK404 HB hHeld ⊢
    refine pure_ (i := 0) (N := some 8) (v := ?_) (a' := ?_) #[true, false, false, false, false, false, false, false, false, false, false, false] rfl rfl (any_of HT_.out (by kernel_rfl)) (fun _ _ _ h => h) (Or.inl ⟨by rfl, ?_⟩) ?_ ?_
    rotate_left
    · intro w'
      go_simp
      with_reducible rfl
    rotate_left
    · simp only [Act.put, List.setIfInBounds_toArray, List.set_cons_zero, List.set_cons_succ, i64_w, i32_w]
      rfl
    refine pure_ (i := 2) (N := some 10) (v := ?_) (a' := ?_) #[true, false, true, false, false, false, false, false, false, false, false, false] rfl rfl (any_of HT_.out (by kernel_rfl)) (fun _ _ _ h => h) (Or.inl ⟨by rfl, ?_⟩) ?_ ?_
    rotate_left
    · intro w'
      go_simp
      with_reducible rfl
    rotate_left
    · simp only [Act.put, List.setIfInBounds_toArray, List.set_cons_zero, List.set_cons_succ, i64_w, i32_w]
      rfl
    refine pure_ (i := 4) (N := some 12) (v := ?_) (a' := ?_) #[true, false, true, false, true, false, false, false, false, false, false, false] rfl rfl (any_of HT_.out (by kernel_rfl)) (fun _ _ _ h => h) (Or.inl ⟨by rfl, ?_⟩) ?_ ?_
    rotate_left
    · intro w'
      go_simp
      with_reducible rfl
    rotate_left
    · simp only [Act.put, List.setIfInBounds_toArray, List.set_cons_zero, List.set_cons_succ, i64_w, i32_w]
      rfl
    refine pure_ (i := 6) (N := some 14) (v := ?_) (a' := ?_) #[true, false, true, false, true, false, true, false, false, false, false, false] rfl rfl (any_of HT_.out (by kernel_rfl)) (fun _ _ _ h => h) (Or.inl ⟨by rfl, ?_⟩) ?_ ?_
    rotate_left
    · intro w'
      go_simp
      with_reducible rfl
    rotate_left
    · simp only [Act.put, List.setIfInBounds_toArray, List.set_cons_zero, List.set_cons_succ, i64_w, i32_w]
      rfl
    refine take_ (i := 1) (N := some 9) (v := ?_) (a' := ?_) #[true, true, true, false, true, false, true, false, false, false, false, false] rfl rfl (take_ofW HT_.out HW_.out (by kernel_rfl)) (fun _ _ _ h => h) (Or.inl ⟨by rfl, ?_⟩) hHeld ?_ ?_
    rotate_left
    · rintro w' ⟨s0, s1, s2, s3, s4, s5, s6, s7⟩
      go_simp
      with_reducible rfl
    rotate_left
    · simp only [Act.put, List.setIfInBounds_toArray, List.set_cons_zero, List.set_cons_succ, i64_w, i32_w]
      rfl
    refine take_ (i := 3) (N := some 11) (v := ?_) (a' := ?_) #[true, true, true, true, true, false, true, false, false, false, false, false] rfl rfl (take_ofW HT_.out HW_.out (by kernel_rfl)) (fun _ _ _ h => h) (Or.inl ⟨by rfl, ?_⟩) hHeld ?_ ?_
    rotate_left
    · rintro w' ⟨s0, s1, s2, s3, s4, s5, s6, s7⟩
      go_simp
      with_reducible rfl
    rotate_left
    · simp only [Act.put, List.setIfInBounds_toArray, List.set_cons_zero, List.set_cons_succ, i64_w, i32_w]
      rfl
    refine take_ (i := 5) (N := some 13) (v := ?_) (a' := ?_) #[true, true, true, true, true, true, true, false, false, false, false, false] rfl rfl (take_ofW HT_.out HW_.out (by kernel_rfl)) (fun _ _ _ h => h) (Or.inl ⟨by rfl, ?_⟩) hHeld ?_ ?_
    rotate_left
    · rintro w' ⟨s0, s1, s2, s3, s4, s5, s6, s7⟩
      go_simp
      with_reducible rfl
    rotate_left
    · simp only [Act.put, List.setIfInBounds_toArray, List.set_cons_zero, List.set_cons_succ, i64_w, i32_w]
      rfl
    refine take_ (i := 7) (N := some 15) (v := ?_) (a' := ?_) #[true, true, true, true, true, true, true, true, false, false, false, false] rfl rfl (take_ofW HT_.out HW_.out (by kernel_rfl)) (fun _ _ _ h => h) (Or.inl ⟨by rfl, ?_⟩) hHeld ?_ ?_
    rotate_left
    · rintro w' ⟨s0, s1, s2, s3, s4, s5, s6, s7⟩
      go_simp
      with_reducible rfl
    rotate_left
    · simp only [Act.put, List.setIfInBounds_toArray, List.set_cons_zero, List.set_cons_succ, i64_w, i32_w]
      rfl
    refine one_ (i := 8) (N := some 16) #[true, true, true, true, true, true, true, true, true, false, false, false] rfl rfl (one_of HT_.out (by kernel_rfl)) (by decide) (fun K hK => ?_)
    refine goes_ Try.func74 (by kernel_rfl) rfl #[.slice A0_7 l0_7.length c0_7] (by rfl) rfl rfl (by (try simp only [List.map_toArray, List.map_cons, List.map_nil]); first | done | rfl | (simp only [List.length_drop, List.length_take]; rfl)) ?_
    with_reducible refine (slices_Clone_string_string.calls _ _ l0_7 t405 _ ?side1 ?side2 A3.out).mono ?_
    (case side1 => repeat (first | exact (Kd.C_below HR0_7.out HB.out) | (with_reducible refine Kd.C_alloc ?_ _) | (with_reducible refine Kd.C_drewN ?_ _) | (with_reducible refine Kd.C_drew ?_)))
    (case side2 => exact HC0_7.out)
    rintro e w9 ⟨v406, rfl, ho0, hb⟩
    refine ⟨_, rfl, ?_⟩
    have n0_ := Aside0.mk (Kd.R_lower ho0 (below_size (by repeat (first | (with_reducible first | exact HB.out | apply below_alloc | apply pw_below_drewN | apply below_drew1 | refine below_set ?_ GE403.out | refine below_set ?_ GE404.out) | exact HB.out))))
    have n1_ := Aside0.mk (blk_below (g := gb403) (o := .cells #[.int .i64 a0_0, .int .i64 a0_1, .int .i64 a0_2, .int .i64 a0_3, .int .i64 a0_4, .int .i64 a0_5, .int .i64 a0_6, .slice A0_7 l0_7.length c0_7] 29 (0, 0)) (by (with_reducible repeat (first | refine blk_drewN ?_ _ | refine blk_drew ?_ | refine blk_alloc ?_ _)); exact BK403.out) hb)
    have n2_ := Aside0.mk (blk_below (g := gb404) (o := .cells #[.int .i64 0, .int .i64 0, .int .i64 0, .slice none 0 0] 54 (0, 0)) (by (with_reducible repeat (first | refine blk_drewN ?_ _ | refine blk_drew ?_ | refine blk_alloc ?_ _)); exact BK404.out) hb)
    have n3_ := Aside0.mk (below_step (by repeat (first | (with_reducible first | exact HB.out | apply below_alloc | apply pw_below_drewN | apply below_drew1 | refine below_set ?_ GE403.out | refine below_set ?_ GE404.out) | exact HB.out)) hb)
    clear BK403
    clear BK404
    clear HB
    have HO407 := n0_
    have BK403 := n1_
    have BK404 := n2_
    have HB := n3_
    clear n0_ n1_ n2_ n3_
    (try clear hb)
    (try clear hb2)
    (try clear hk)
    (try clear hi)
    (try clear ho0)
    obtain ⟨Ao10, co10, eo10⟩ := Kd.R_slice HO407.out
    (first | subst eo10 | (injection eo10 with f1_ f2_ f3_; have f4_ := f1_.symm; have f5_ := f3_.symm; clear f1_ f2_ f3_; subst f4_; subst f5_))
    refine hK.out _ _ ⟨(blk_cell BK403.out 0).trans rfl, (blk_cell BK403.out 1).trans rfl, (blk_cell BK403.out 2).trans rfl, (blk_cell BK403.out 3).trans rfl, (blk_cell BK403.out 4).trans rfl, (blk_cell BK403.out 5).trans rfl, (blk_cell BK403.out 6).trans rfl, (blk_cell BK403.out 7).trans rfl⟩ (fun hHeld => ?_)
    clear hK K
    refine norm_ (a' := ?_) ?_ ?_
    rotate_left
    · show Act.put _ (some 16) _ = _
      simp only [Act.put, List.setIfInBounds_toArray, List.set_cons_zero, List.set_cons_succ, i64_w, i32_w]
      rfl
    refine pure_ (i := 9) (N := some 17) (v := ?_) (a' := ?_) #[true, true, true, true, true, true, true, true, true, true, false, false] rfl rfl (any_of HT_.out (by kernel_rfl)) (fun _ _ _ h => h) (Or.inl ⟨by rfl, ?_⟩) ?_ ?_
    rotate_left
    · intro w'
      go_simp
      with_reducible rfl
    rotate_left
    · simp only [Act.put, List.setIfInBounds_toArray, List.set_cons_zero, List.set_cons_succ, i64_w, i32_w]
      rfl
    refine one_ (i := 10) (N := none) #[true, true, true, true, true, true, true, true, true, true, true, false] rfl rfl (one_of HT_.out (by kernel_rfl)) (by decide) (fun K hK => ?_)
    have hs11 : w9.cell? ⟨gb404, 0, none⟩ = some (.int .i64 0) := (blk_cell BK404.out 0).trans rfl
    have hfs11 := blk_frozen BK404.out 0
    have hns11_0 := NB403_404.out
    have hms11_0 := NB404_403.out
    have hs12 : w9.cell? ⟨gb404, 1, none⟩ = some (.int .i64 0) := (blk_cell BK404.out 1).trans rfl
    have hfs12 := blk_frozen BK404.out 1
    have hns12_0 := NB403_404.out
    have hms12_0 := NB404_403.out
    have hs13 : w9.cell? ⟨gb404, 2, none⟩ = some (.int .i64 0) := (blk_cell BK404.out 2).trans rfl
    have hfs13 := blk_frozen BK404.out 2
    have hns13_0 := NB403_404.out
    have hms13_0 := NB404_403.out
    have hs14 : w9.cell? ⟨gb404, 3, none⟩ = some (.slice none 0 0) := (blk_cell BK404.out 3).trans rfl
    have hfs14 := blk_frozen BK404.out 3
    have hns14_0 := NB403_404.out
    have hms14_0 := NB404_403.out
    refine skip_ (w1 := ?_) (by rfl) rfl ?_ ?_
    rotate_left
    · go_simp
      rfl
    refine hK.out _ _ ⟨((cell_far (p := ⟨gb404, _, none⟩) NB403_404.out _).trans (((cell_far (p := ⟨gb404, _, none⟩) NB403_404.out _).trans (((cell_far (p := ⟨gb404, _, none⟩) NB403_404.out _).trans (((cell_far (p := ⟨gb404, _, none⟩) NB403_404.out _).trans (hHeld.1)))))))), ((cell_far (p := ⟨gb404, _, none⟩) NB403_404.out _).trans (((cell_far (p := ⟨gb404, _, none⟩) NB403_404.out _).trans (((cell_far (p := ⟨gb404, _, none⟩) NB403_404.out _).trans (((cell_far (p := ⟨gb404, _, none⟩) NB403_404.out _).trans (hHeld.2.1)))))))), ((cell_far (p := ⟨gb404, _, none⟩) NB403_404.out _).trans (((cell_far (p := ⟨gb404, _, none⟩) NB403_404.out _).trans (((cell_far (p := ⟨gb404, _, none⟩) NB403_404.out _).trans (((cell_far (p := ⟨gb404, _, none⟩) NB403_404.out _).trans (hHeld.2.2.1)))))))), ((cell_far (p := ⟨gb404, _, none⟩) NB403_404.out _).trans (((cell_far (p := ⟨gb404, _, none⟩) NB403_404.out _).trans (((cell_far (p := ⟨gb404, _, none⟩) NB403_404.out _).trans (((cell_far (p := ⟨gb404, _, none⟩) NB403_404.out _).trans (hHeld.2.2.2.1)))))))), ((cell_far (p := ⟨gb404, _, none⟩) NB403_404.out _).trans (((cell_far (p := ⟨gb404, _, none⟩) NB403_404.out _).trans (((cell_far (p := ⟨gb404, _, none⟩) NB403_404.out _).trans (((cell_far (p := ⟨gb404, _, none⟩) NB403_404.out _).trans (hHeld.2.2.2.2.1)))))))), ((cell_far (p := ⟨gb404, _, none⟩) NB403_404.out _).trans (((cell_far (p := ⟨gb404, _, none⟩) NB403_404.out _).trans (((cell_far (p := ⟨gb404, _, none⟩) NB403_404.out _).trans (((cell_far (p := ⟨gb404, _, none⟩) NB403_404.out _).trans (hHeld.2.2.2.2.2.1)))))))), ((cell_far (p := ⟨gb404, _, none⟩) NB403_404.out _).trans (((cell_far (p := ⟨gb404, _, none⟩) NB403_404.out _).trans (((cell_far (p := ⟨gb404, _, none⟩) NB403_404.out _).trans (((cell_far (p := ⟨gb404, _, none⟩) NB403_404.out _).trans (hHeld.2.2.2.2.2.2.1)))))))), ((cell_far (p := ⟨gb404, _, none⟩) NB403_404.out _).trans (((cell_far (p := ⟨gb404, _, none⟩) NB403_404.out _).trans (((cell_far (p := ⟨gb404, _, none⟩) NB403_404.out _).trans (((cell_far (p := ⟨gb404, _, none⟩) NB403_404.out _).trans (hHeld.2.2.2.2.2.2.2))))))))⟩ (fun hHeld => ?_)
    clear hK K
    refine pure_ (i := 11) (N := some 3) (v := ?_) (a' := ?_) #[true, true, true, true, true, true, true, true, true, true, true, true] rfl rfl (any_of HT_.out (by kernel_rfl)) (fun _ _ _ h => h) (Or.inl ⟨by rfl, ?_⟩) ?_ ?_
    rotate_left
    · intro w'
      go_simp
      with_reducible rfl
    rotate_left
    · simp only [Act.put, List.setIfInBounds_toArray, List.set_cons_zero, List.set_cons_succ, i64_w, i32_w]
      rfl
    refine done_ (done_of HT_.out (by kernel_rfl)) ?_
    try go_wp2
    refine bodyPost_ret (results_ct rfl _ _ gb404 54 #[.int .i64 a0_1, .int .i64 a0_4, .int .i64 a0_5, .slice Ao10 t405.length co10] (0, 0) _ rfl (by (with_reducible repeat (first | refine blk_drewN ?_ _ | refine blk_drew ?_ | refine blk_alloc ?_ _)); refine blk_put (cs := #[.int .i64 a0_1, .int .i64 a0_4, .int .i64 a0_5, .slice none 0 0]) ?_ 3 _ rfl; (with_reducible repeat (first | refine blk_drewN ?_ _ | refine blk_drew ?_ | refine blk_alloc ?_ _)); refine blk_put (cs := #[.int .i64 a0_1, .int .i64 a0_4, .int .i64 0, .slice none 0 0]) ?_ 2 _ rfl; (with_reducible repeat (first | refine blk_drewN ?_ _ | refine blk_drew ?_ | refine blk_alloc ?_ _)); refine blk_put (cs := #[.int .i64 a0_1, .int .i64 0, .int .i64 0, .slice none 0 0]) ?_ 1 _ rfl; (with_reducible repeat (first | refine blk_drewN ?_ _ | refine blk_drew ?_ | refine blk_alloc ?_ _)); refine blk_put (cs := #[.int .i64 0, .int .i64 0, .int .i64 0, .slice none 0 0]) ?_ 0 _ rfl; (with_reducible repeat (first | refine blk_drewN ?_ _ | refine blk_drew ?_ | refine blk_alloc ?_ _)); exact BK404.out) Try.underlying54 rfl (by kernel_rfl)) rfl ?_
    exact ⟨_, by first | rfl | (simp [errW_none, errW_some] <;> rfl) | (simp [*, errW_none, errW_some] <;> rfl), by (with_reducible repeat (first | apply Kd.R_alloc | apply Kd.R_drewN | apply Kd.R_drew)); exact Kd.R_mono (Kd.R_far (p := ⟨gb404, 3, none⟩) (Kd.R_far (p := ⟨gb404, 2, none⟩) (Kd.R_far (p := ⟨gb404, 1, none⟩) (Kd.R_far (p := ⟨gb404, 0, none⟩) (Kd.R_types HO407.out BK404.out (by decide)) (fun _ hk => hk.2) (.int .i64 a0_1)) (fun _ hk => hk.2) (.int .i64 a0_4)) (fun _ hk => hk.2) (.int .i64 a0_5)) (fun _ hk => hk.2) (.slice Ao10 t405.length co10)) (fun _ hk => trivial), by repeat (first | (with_reducible first | exact HB.out | apply below_alloc | apply pw_below_drewN | apply below_drew1 | refine below_set ?_ GE403.out | refine below_set ?_ GE404.out) | exact HB.out)⟩
  · rw [if_neg c2] at H
    have c2b0 : (a0_0 == 3) = false := beq_eq_false_iff_ne.mpr c2
    have c2b1 : (a0_0 != 3) = true := bne_iff_ne.mpr c2
    simp only [Option.some.injEq, Prod.mk.injEq] at H
    obtain ⟨rfl, rfl, rfl, rfl, rfl⟩ := H
    go_enter Try.func42, Try.ntmps42
    go_wp2_with (first | ((with_reducible refine gate_dst (N := 1) rfl ?_); refine box_event ?hg (N := 1) ?hd (cs := #[.int .i64 a0_0, .int .i64 a0_1, .int .i64 a0_2, .int .i64 a0_3, .int .i64 a0_4, .int .i64 a0_5, .int .i64 a0_6, .slice A0_7 l0_7.length c0_7]) (t := 29) ?hr ?_; (case hd => rfl); (case hg => rfl); (case hr => first | (go_simp; done) | (go_simp; rfl)); intro gb403 hg w15 hbox hb; have n0_ := Aside0.mk (below_step (by repeat (first | (with_reducible first | exact HB.out | apply below_alloc | apply pw_below_drewN | apply below_drew1) | exact HB.out)) hb); have n1_ := Aside0.mk (hbox); have n2_ := Aside0.mk ((by rw [hg]; exact (below_size (by repeat (first | (with_reducible first | exact HB.out | apply below_alloc | apply pw_below_drewN | apply below_drew1) | exact HB.out))) : w.heap.size ≤ gb403)); have n3_ := Aside0.mk ((by rw [hg]; exact (below_size (by repeat (first | (with_reducible first | exact HB.out | apply below_alloc | apply pw_below_drewN | apply below_drew1) | exact HB.out))) : w.heap.size ≤ gb403)); clear HB; have HB := n0_; have BK403 := n1_; have GW403 := n2_; have GE403 := n3_; clear n0_ n1_ n2_ n3_; clear hb hbox hg) | ((with_reducible refine gate_dst (N := 2) rfl ?_); refine box_event ?hg (N := 2) ?hd (cs := #[.int .i64 0, .int .i64 0, .int .i64 0, .slice none 0 0]) (t := 54) ?hr ?_; (case hd => rfl); (case hg => rfl); (case hr => first | (go_simp; done) | (go_simp; rfl)); intro gb404 hg w16 hbox hb; have n0_ := Aside0.mk (blk_below (g := gb403) (o := .cells #[.int .i64 a0_0, .int .i64 a0_1, .int .i64 a0_2, .int .i64 a0_3, .int .i64 a0_4, .int .i64 a0_5, .int .i64 a0_6, .slice A0_7 l0_7.length c0_7] 29 (0, 0)) (by (with_reducible repeat (first | refine blk_drewN ?_ _ | refine blk_drew ?_ | refine blk_alloc ?_ _)); exact BK403.out) hb); have n1_ := Aside0.mk (below_step (by repeat (first | (with_reducible first | exact HB.out | apply below_alloc | apply pw_below_drewN | apply below_drew1 | refine below_set ?_ GE403.out) | exact HB.out)) hb); have n2_ := Aside0.mk (hbox); have n3_ := Aside0.mk ((by rw [hg]; exact (below_size (by repeat (first | (with_reducible first | exact HB.out | apply below_alloc | apply pw_below_drewN | apply below_drew1 | refine below_set ?_ GE403.out) | exact HB.out))) : w.heap.size ≤ gb404)); have n4_ := Aside0.mk ((by rw [hg]; exact (below_size (by repeat (first | (with_reducible first | exact HB.out | apply below_alloc | apply pw_below_drewN | apply below_drew1 | refine below_set ?_ GE403.out) | exact HB.out))) : w.heap.size ≤ gb404)); have n5_ := Aside0.mk ((by rw [hg]; exact Nat.ne_of_lt (blk_lt (g := gb403) (o := .cells #[.int .i64 a0_0, .int .i64 a0_1, .int .i64 a0_2, .int .i64 a0_3, .int .i64 a0_4, .int .i64 a0_5, .int .i64 a0_6, .slice A0_7 l0_7.length c0_7] 29 (0, 0)) (by (with_reducible repeat (first | refine blk_drewN ?_ _ | refine blk_drew ?_ | refine blk_alloc ?_ _)); exact BK403.out)) : gb403 ≠ gb404)); have n6_ := Aside0.mk ((by rw [hg]; exact Nat.ne_of_gt (blk_lt (g := gb403) (o := .cells #[.int .i64 a0_0, .int .i64 a0_1, .int .i64 a0_2, .int .i64 a0_3, .int .i64 a0_4, .int .i64 a0_5, .int .i64 a0_6, .slice A0_7 l0_7.length c0_7] 29 (0, 0)) (by (with_reducible repeat (first | refine blk_drewN ?_ _ | refine blk_drew ?_ | refine blk_alloc ?_ _)); exact BK403.out)) : gb404 ≠ gb403)); clear BK403; clear HB; have BK403 := n0_; have HB := n1_; have BK404 := n2_; have GW404 := n3_; have GE404 := n4_; have NB403_404 := n5_; have NB404_403 := n6_; clear n0_ n1_ n2_ n3_ n4_ n5_ n6_; clear hb hbox hg; have hnb17 := NB403_404.out; have hnc17 := NB404_403.out; have hcz18_0 : w16.cell? ⟨gb403, 0, none⟩ = some (.int .i64 a0_0) := (blk_cell BK403.out 0).trans rfl; have hcz18_1 : w16.cell? ⟨gb403, 1, none⟩ = some (.int .i64 a0_1) := (blk_cell BK403.out 1).trans rfl; have hcz18_2 : w16.cell? ⟨gb403, 2, none⟩ = some (.int .i64 a0_2) := (blk_cell BK403.out 2).trans rfl; have hcz18_3 : w16.cell? ⟨gb403, 3, none⟩ = some (.int .i64 a0_3) := (blk_cell BK403.out 3).trans rfl; have hcz18_4 : w16.cell? ⟨gb403, 4, none⟩ = some (.int .i64 a0_4) := (blk_cell BK403.out 4).trans rfl; have hcz18_5 : w16.cell? ⟨gb403, 5, none⟩ = some (.int .i64 a0_5) := (blk_cell BK403.out 5).trans rfl; have hcz18_6 : w16.cell? ⟨gb403, 6, none⟩ = some (.int .i64 a0_6) := (blk_cell BK403.out 6).trans rfl; have hcz18_7 : w16.cell? ⟨gb403, 7, none⟩ = some (.slice A0_7 l0_7.length c0_7) := (blk_cell BK403.out 7).trans rfl; have hfz18_0 := blk_frozen BK403.out 0; have hfz18_1 := blk_frozen BK403.out 1; have hfz18_2 := blk_frozen BK403.out 2; have hfz18_3 := blk_frozen BK403.out 3; have hfz18_4 := blk_frozen BK403.out 4; have hfz18_5 := blk_frozen BK403.out 5; have hfz18_6 := blk_frozen BK403.out 6; have hfz18_7 := blk_frozen BK403.out 7; have hcz19_0 : w16.cell? ⟨gb404, 0, none⟩ = some (.int .i64 0) := (blk_cell BK404.out 0).trans rfl; have hcz19_1 : w16.cell? ⟨gb404, 1, none⟩ = some (.int .i64 0) := (blk_cell BK404.out 1).trans rfl; have hcz19_2 : w16.cell? ⟨gb404, 2, none⟩ = some (.int .i64 0) := (blk_cell BK404.out 2).trans rfl; have hcz19_3 : w16.cell? ⟨gb404, 3, none⟩ = some (.slice none 0 0) := (blk_cell BK404.out 3).trans rfl; have hfz19_0 := blk_frozen BK404.out 0; have hfz19_1 := blk_frozen BK404.out 1; have hfz19_2 := blk_frozen BK404.out 2; have hfz19_3 := blk_frozen BK404.out 3))
    refine bodyPost_ret (results_ct rfl _ _ gb404 54 #[.int .i64 0, .int .i64 0, .int .i64 0, .slice none 0 0] (0, 0) _ rfl (by (with_reducible repeat (first | refine blk_drewN ?_ _ | refine blk_drew ?_ | refine blk_alloc ?_ _)); refine blk_put (cs := #[.int .i64 0, .int .i64 0, .int .i64 0, .slice none 0 0]) ?_ 3 _ rfl; (with_reducible repeat (first | refine blk_drewN ?_ _ | refine blk_drew ?_ | refine blk_alloc ?_ _)); refine blk_put (cs := #[.int .i64 0, .int .i64 0, .int .i64 0, .slice none 0 0]) ?_ 2 _ rfl; (with_reducible repeat (first | refine blk_drewN ?_ _ | refine blk_drew ?_ | refine blk_alloc ?_ _)); refine blk_put (cs := #[.int .i64 0, .int .i64 0, .int .i64 0, .slice none 0 0]) ?_ 1 _ rfl; (with_reducible repeat (first | refine blk_drewN ?_ _ | refine blk_drew ?_ | refine blk_alloc ?_ _)); refine blk_put (cs := #[.int .i64 0, .int .i64 0, .int .i64 0, .slice none 0 0]) ?_ 0 _ rfl; (with_reducible repeat (first | refine blk_drewN ?_ _ | refine blk_drew ?_ | refine blk_alloc ?_ _)); exact BK404.out) Try.underlying54 rfl (by kernel_rfl)) rfl ?_
    exact ⟨_, by first | rfl | (simp [errW_none, errW_some] <;> rfl) | (simp [*, errW_none, errW_some] <;> rfl), by first | exact Kd.R_nil _ _ _ _ _ | exact Kd.N_nil _ _ _ _ _ | exact Kd.V_nil _ _ _ _ _ | exact Kd.Q_nil _ _ _ _ _ | exact Kd.S_nil _ _ _ _ _, by repeat (first | (with_reducible first | exact HB.out | apply below_alloc | apply pw_below_drewN | apply below_drew1 | refine below_set ?_ GE403.out | refine below_set ?_ GE404.out) | exact HB.out)⟩

end Go.Proofs.Ytfejidinfcmfjaa.P
-- Written by a program of this session (xprint.py) over the kit's print.py.
namespace Go.Proofs.Ytfejidinfcmfjaa.P
open Go.RowKit Go.Proofs.YtfejidinfcmfjaaW.PrintWords Go.Proofs.YtfejidinfcmfjaaW.PrintLast Go.Proofs.YtfejidinfcmfjaaW.PrintMore
attribute [local go_sem] max2_int min2_int max_two min_two max_three min_three max_four min_four   -- for this text's walks alone
set_option linter.unusedVariables false
set_option linter.unusedSimpArgs false

/-! ### msg_Ack: function 46 -/
def msg_Ack.f (a0 : Int) (a1 : Int) (a2 : Int) (a3 : Int) : Option (Int × Int × Int × Int × Int × Int × Int × List ByteArray) := some (2, a0, a1, a2, 0, 0, a3, ([] : List ByteArray))
set_option maxHeartbeats 8000000 in
set_option maxRecDepth 100000 in
theorem msg_Ack.calls (a0 : Int) (a1 : Int) (a2 : Int) (a3 : Int) (r1 : Int) (r2 : Int) (r3 : Int) (r4 : Int) (r5 : Int) (r6 : Int) (r7 : Int) (r8 : List ByteArray) (w : World) (h : msg_Ack.f a0 a1 a2 a3 = some (r1, r2, r3, r4, r5, r6, r7, r8)) :
    Calls Try.prog 46 #[.int .i64 a0, .int .i64 a1, .int .i64 a2, .int .i64 a3] w fun e w' => ∃ v7_ : Value, e = .returned (.agg #[.int .i64 r1, .int .i64 r2, .int .i64 r3, .int .i64 r4, .int .i64 r5, .int .i64 r6, .int .i64 r7, v7_]) ∧ Kd.R Kd.string 9 w' w.heap.size (fun _ => True) v7_ r8 ∧ Below w.heap.size w w' := by
  have hu29 := Try.underlying29
  have HB := Aside0.mk (Below.refl w.heap.size w)
  have H : (some (2, a0, a1, a2, 0, 0, a3, ([] : List ByteArray))) = some (r1, r2, r3, r4, r5, r6, r7, r8) := h
  clear h
  simp only [Option.some.injEq, Prod.mk.injEq] at H
  obtain ⟨rfl, rfl, rfl, rfl, rfl, rfl, rfl, rfl⟩ := H
  go_enter Try.func46, Try.ntmps46
  go_wp2_with (first | ((with_reducible refine gate_dst (N := 8) rfl ?_); refine box_event ?hg (N := 8) ?hd (cs := #[.int .i64 0, .int .i64 0, .int .i64 0, .int .i64 0, .int .i64 0, .int .i64 0, .int .i64 0, .slice none 0 0]) (t := 29) ?hr ?_; (case hd => rfl); (case hg => rfl); (case hr => first | (go_simp; done) | (go_simp; rfl)); intro gb408 hg w5 hbox hb; have n0_ := Aside0.mk (below_step (by repeat (first | (with_reducible first | exact HB.out | apply below_alloc | apply pw_below_drewN | apply below_drew1) | exact HB.out)) hb); have n1_ := Aside0.mk (hbox); have n2_ := Aside0.mk ((by rw [hg]; exact (below_size (by repeat (first | (with_reducible first | exact HB.out | apply below_alloc | apply pw_below_drewN | apply below_drew1) | exact HB.out))) : w.heap.size ≤ gb408)); have n3_ := Aside0.mk ((by rw [hg]; exact (below_size (by repeat (first | (with_reducible first | exact HB.out | apply below_alloc | apply pw_below_drewN | apply below_drew1) | exact HB.out))) : w.heap.size ≤ gb408)); clear HB; have HB := n0_; have BK408 := n1_; have GW408 := n2_; have GE408 := n3_; clear n0_ n1_ n2_ n3_; clear hb hbox hg; have hcz6_0 : w5.cell? ⟨gb408, 0, none⟩ = some (.int .i64 0) := (blk_cell BK408.out 0).trans rfl; have hcz6_1 : w5.cell? ⟨gb408, 1, none⟩ = some (.int .i64 0) := (blk_cell BK408.out 1).trans rfl; have hcz6_2 : w5.cell? ⟨gb408, 2, none⟩ = some (.int .i64 0) := (blk_cell BK408.out 2).trans rfl; have hcz6_3 : w5.cell? ⟨gb408, 3, none⟩ = some (.int .i64 0) := (blk_cell BK408.out 3).trans rfl; have hcz6_4 : w5.cell? ⟨gb408, 4, none⟩ = some (.int .i64 0) := (blk_cell BK408.out 4).trans rfl; have hcz6_5 : w5.cell? ⟨gb408, 5, none⟩ = some (.int .i64 0) := (blk_cell BK408.out 5).trans rfl; have hcz6_6 : w5.cell? ⟨gb408, 6, none⟩ = some (.int .i64 0) := (blk_cell BK408.out 6).trans rfl; have hcz6_7 : w5.cell? ⟨gb408, 7, none⟩ = some (.slice none 0 0) := (blk_cell BK408.out 7).trans rfl; have hfz6_0 := blk_frozen BK408.out 0; have hfz6_1 := blk_frozen BK408.out 1; have hfz6_2 := blk_frozen BK408.out 2; have hfz6_3 := blk_frozen BK408.out 3; have hfz6_4 := blk_frozen BK408.out 4; have hfz6_5 := blk_frozen BK408.out 5; have hfz6_6 := blk_frozen BK408.out 6; have hfz6_7 := blk_frozen BK408.out 7))
  refine bodyPost_ret (results_cell_row rfl _ _ gb408 29 #[.int .i64 2, .int .i64 a0, .int .i64 a1, .int .i64 a2, .int .i64 0, .int .i64 0, .int .i64 a3, .slice none 0 0] (0, 0) _ rfl (by (with_reducible repeat (first | refine blk_drewN ?_ _ | refine blk_drew ?_ | refine blk_alloc ?_ _)); refine blk_put (cs := #[.int .i64 2, .int .i64 a0, .int .i64 a1, .int .i64 a2, .int .i64 0, .int .i64 0, .int .i64 a3, .slice none 0 0]) ?_ 7 _ rfl; (with_reducible repeat (first | refine blk_drewN ?_ _ | refine blk_drew ?_ | refine blk_alloc ?_ _)); refine blk_put (cs := #[.int .i64 2, .int .i64 a0, .int .i64 a1, .int .i64 a2, .int .i64 0, .int .i64 0, .int .i64 0, .slice none 0 0]) ?_ 6 _ rfl; (with_reducible repeat (first | refine blk_drewN ?_ _ | refine blk_drew ?_ | refine blk_alloc ?_ _)); refine blk_put (cs := #[.int .i64 2, .int .i64 a0, .int .i64 a1, .int .i64 a2, .int .i64 0, .int .i64 0, .int .i64 0, .slice none 0 0]) ?_ 5 _ rfl; (with_reducible repeat (first | refine blk_drewN ?_ _ | refine blk_drew ?_ | refine blk_alloc ?_ _)); refine blk_put (cs := #[.int .i64 2, .int .i64 a0, .int .i64 a1, .int .i64 a2, .int .i64 0, .int .i64 0, .int .i64 0, .slice none 0 0]) ?_ 4 _ rfl; (with_reducible repeat (first | refine blk_drewN ?_ _ | refine blk_drew ?_ | refine blk_alloc ?_ _)); refine blk_put (cs := #[.int .i64 2, .int .i64 a0, .int .i64 a1, .int .i64 0, .int .i64 0, .int .i64 0, .int .i64 0, .slice none 0 0]) ?_ 3 _ rfl; (with_reducible repeat (first | refine blk_drewN ?_ _ | refine blk_drew ?_ | refine blk_alloc ?_ _)); refine blk_put (cs := #[.int .i64 2, .int .i64 a0, .int .i64 0, .int .i64 0, .int .i64 0, .int .i64 0, .int .i64 0, .slice none 0 0]) ?_ 2 _ rfl; (with_reducible repeat (first | refine blk_drewN ?_ _ | refine blk_drew ?_ | refine blk_alloc ?_ _)); refine blk_put (cs := #[.int .i64 2, .int .i64 0, .int .i64 0, .int .i64 0, .int .i64 0, .int .i64 0, .int .i64 0, .slice none 0 0]) ?_ 1 _ rfl; (with_reducible repeat (first | refine blk_drewN ?_ _ | refine blk_drew ?_ | refine blk_alloc ?_ _)); refine blk_put (cs := #[.int .i64 0, .int .i64 0, .int .i64 0, .int .i64 0, .int .i64 0, .int .i64 0, .int .i64 0, .slice none 0 0]) ?_ 0 _ rfl; (with_reducible repeat (first | refine blk_drewN ?_ _ | refine blk_drew ?_ | refine blk_alloc ?_ _)); exact BK408.out) Try.underlying29 rfl (by kernel_rfl)) rfl ?_
  exact ⟨_, by first | rfl | (simp [errW_none, errW_some] <;> rfl) | (simp [*, errW_none, errW_some] <;> rfl), by first | exact Kd.R_nil _ _ _ _ _ | exact Kd.N_nil _ _ _ _ _ | exact Kd.V_nil _ _ _ _ _ | exact Kd.Q_nil _ _ _ _ _ | exact Kd.S_nil _ _ _ _ _, by repeat (first | (with_reducible first | exact HB.out | apply below_alloc | apply pw_below_drewN | apply below_drew1 | refine below_set ?_ GE408.out) | exact HB.out)⟩

end Go.Proofs.Ytfejidinfcmfjaa.P
/-
  Plain laws on reading a number's bytes: no program in sight.
-/
namespace Go.Proofs.CodecPlain

/-- The number that bytes say, the highest first. -/
def accB (l : List UInt8) : Int := l.foldl (fun a b => a * 256 + (b.toNat : Int)) 0
theorem accB_snoc (l : List UInt8) (b : UInt8) : accB (l ++ [b]) = accB l * 256 + (b.toNat : Int) := by simp [accB]
theorem accB_from (l : List UInt8) : ∀ a : Int, 0 ≤ a → 0 ≤ l.foldl (fun a b => a * 256 + (b.toNat : Int)) a ∧ l.foldl (fun a b => a * 256 + (b.toNat : Int)) a < (a + 1) * 256 ^ l.length := by
  induction l with
  | nil => intro a h; simp; omega
  | cons b l ih =>
    intro a h
    have hb := b.toNat_lt
    have h1 := ih (a * 256 + (b.toNat : Int)) (by omega)
    rw [List.foldl_cons, List.length_cons, Int.pow_succ]
    refine ⟨h1.1, Int.lt_of_lt_of_le h1.2 ?_⟩
    rw [Int.mul_comm (256 ^ l.length) 256, ← Int.mul_assoc]
    exact Int.mul_le_mul_of_nonneg_right (by omega) (Int.le_of_lt (Int.pow_pos (by omega)))
theorem accB_bd (l : List UInt8) : 0 ≤ accB l ∧ accB l < 256 ^ l.length := by
  have := accB_from l 0 (by omega)
  simpa [accB] using this

/-- The first byte of bytes. -/
def hd (s : ByteArray) : Nat := if h : 0 < s.size then (s[0]'h).toNat else 0

/-- What reads as a number at the begin of bytes: it, what stands behind, and whether there is one. -/
def getNum (s : ByteArray) : Int × ByteArray × Bool :=
  if s.size = 0 ∨ 4 < hd s ∨ s.size ≤ hd s then (0, ⟨#[]⟩, false)
  else if hd s ≠ 0 ∧ hd (s.extract 1 (1 + hd s)) = 0 then (0, ⟨#[]⟩, false)
  else (accB (s.extract 1 (1 + hd s)).data.toList, s.extract (1 + hd s) s.size, true)

end Go.Proofs.CodecPlain
/-
  Plain laws on reading texts and rows: no program in sight.
-/
namespace Go.Proofs.CodecPlain

/-- What reads as a text at the begin of bytes. -/
def getText (s : ByteArray) : ByteArray × ByteArray × Bool :=
  if (getNum s).2.2 = true ∧ (getNum s).1 ≤ 4000 ∧ (getNum s).1 ≤ ((getNum s).2.1.size : Int) then
    ((getNum s).2.1.extract 0 (getNum s).1.toNat, (getNum s).2.1.extract (getNum s).1.toNat (getNum s).2.1.size, true)
  else (⟨#[]⟩, ⟨#[]⟩, false)
/-- What reads as n texts, one behind the other. -/
def getTexts : Nat → ByteArray → List ByteArray × ByteArray × Bool
  | 0, s => ([], s, true)
  | n + 1, s => if (getText s).2.2 = true then
      (if (getTexts n (getText s).2.1).2.2 = true then ((getText s).1 :: (getTexts n (getText s).2.1).1, (getTexts n (getText s).2.1).2.1, true) else ([], ⟨#[]⟩, false))
    else ([], ⟨#[]⟩, false)
/-- What reads as a row at the begin of bytes. -/
def getRow (s : ByteArray) : List ByteArray × ByteArray × Bool :=
  if (getNum s).2.2 = true ∧ (getNum s).1 ≤ 1000 then getTexts (getNum s).1.toNat (getNum s).2.1 else ([], ⟨#[]⟩, false)
/-- What is told where some have been read. -/
def withL (l : List ByteArray) (r : List ByteArray × ByteArray × Bool) : List ByteArray × ByteArray × Bool := if r.2.2 = true then (l ++ r.1, r.2.1, true) else ([], ⟨#[]⟩, false)

theorem getNum_bd (s : ByteArray) : 0 ≤ (getNum s).1 ∧ (getNum s).1 < 4294967296 := by
  unfold getNum
  split
  · exact ⟨by decide, by decide⟩
  · split
    · exact ⟨by decide, by decide⟩
    · rename_i h _
      have h1 := accB_bd (s.extract 1 (1 + hd s)).data.toList
      have hl : (s.extract 1 (1 + hd s)).data.toList.length = hd s := by
        rw [Array.length_toList]
        show (s.extract 1 (1 + hd s)).size = _
        rw [ByteArray.size_extract]; omega
      rw [hl] at h1
      refine ⟨h1.1, Int.lt_of_lt_of_le h1.2 ?_⟩
      have : hd s ≤ 4 := by omega
      match hd s, this with
      | 0, _ => decide
      | 1, _ => decide
      | 2, _ => decide
      | 3, _ => decide
      | 4, _ => decide
theorem getTexts_len : ∀ (n : Nat) (s : ByteArray), (getTexts n s).2.2 = true → (getTexts n s).1.length = n
  | 0, s, _ => rfl
  | n + 1, s, h => by
    unfold getTexts at h ⊢
    split at h
    · rename_i h1
      rw [if_pos h1]
      split at h
      · rename_i h2
        rw [if_pos h2]
        simp [getTexts_len n _ h2]
      · cases h
    · cases h
theorem withL_stop (l : List ByteArray) (n : Nat) (s : ByteArray) (h : (getText s).2.2 = false) : withL l (getTexts (n + 1) s) = ([], ⟨#[]⟩, false) := by
  simp [getTexts, h, withL]
theorem withL_step (l : List ByteArray) (n : Nat) (s : ByteArray) (h : (getText s).2.2 = true) : withL l (getTexts (n + 1) s) = withL (l ++ [(getText s).1]) (getTexts n (getText s).2.1) := by
  by_cases h2 : (getTexts n (getText s).2.1).2.2 = true <;> simp [getTexts, h, withL, h2]
theorem withL_nil (n : Nat) (s : ByteArray) : withL [] (getTexts n s) = getTexts n s := by
  cases n with
  | zero => simp [withL, getTexts]
  | succ n =>
    unfold getTexts
    split
    · split <;> simp [withL]
    · simp [withL]

end Go.Proofs.CodecPlain
/-
  codec.GetNumber, by hand. For every text of a size that a text may have.
-/
namespace Go.Proofs.Ytfejidinfcmfjaa.P
open Go.RowKit Go.Proofs.CodecPlain Go.Proofs.YtfejidinfcmfjaaW.PrintWords Go.Proofs.YtfejidinfcmfjaaW.PrintLast

/-- What codec.GetNumber answers. -/
def codec_GetNumber.f (a0 : ByteArray) : Option (Int × ByteArray × Bool) := some (getNum a0)

theorem toList_ne {s : ByteArray} (h : 0 < s.size) : s.toList.isEmpty = false := by
  rw [ByteArray.toList_eq]
  cases e : s.data.toList with
  | nil =>
    have h1 := congrArg List.length e
    rw [Array.length_toList] at h1
    have h2 : s.size = 0 := h1
    omega
  | cons a l => rfl

theorem getNum_no {s : ByteArray} (h : s.size = 0 ∨ 4 < hd s ∨ s.size ≤ hd s) : getNum s = (0, ⟨#[]⟩, false) := by unfold getNum; rw [if_pos h]

theorem getNum_is (s : ByteArray) (q : 0 < s.size) (h4 : hd s ≤ 4) (h5 : hd s < s.size) :
    getNum s = if hd s ≠ 0 ∧ hd (s.extract 1 (1 + hd s)) = 0 then (0, ⟨#[]⟩, false) else (accB (s.extract 1 (1 + hd s)).data.toList, s.extract (1 + hd s) s.size, true) := by
  unfold getNum; rw [if_neg (by omega)]

theorem hd_at {s : ByteArray} (h : 0 < s.size) : ((s[0]'h).toNat : Int) = (hd s : Int) := by simp [hd, h]

set_option maxHeartbeats 4000000 in
set_option maxRecDepth 100000 in
theorem codec_GetNumber_no (s : ByteArray) (w : World) (h : s.size = 0 ∨ 4 < hd s ∨ s.size ≤ hd s) :
    Calls Try.prog 64 #[.string s] w fun e w' => e = .returned (.tuple #[.int .i64 0, .string ⟨#[]⟩, .bool false]) ∧ Drawn0 w w' := by
  by_cases h0 : s.size = 0
  · obtain rfl : s = ⟨#[]⟩ := by
      cases s; rename_i d; simp [ByteArray.size] at h0; subst h0; rfl
    clear h h0
    go_enter Try.func64, Try.ntmps64
    go_wp2
    go_ret3
    exact ⟨rfl, Drawn0.refl _⟩
  · have q : 0 < s.size := by omega
    have hx := hd_at q
    have hlt : hd s < 256 := by unfold hd; rw [dif_pos q]; exact (s[0]).toNat_lt
    have en := toList_ne q
    obtain ⟨m, hm⟩ : ∃ m, m = hd s := ⟨_, rfl⟩
    rw [← hm] at hx h hlt
    clear h0 hm
    by_cases h4 : 4 < m
    · clear h
      go_enter Try.func64, Try.ntmps64
      go_wp2
      go_ret3
      exact ⟨rfl, Drawn0.refl _⟩
    · have h5 : s.size ≤ m := by omega
      clear h
      go_enter Try.func64, Try.ntmps64
      go_wp2
      go_ret3
      exact ⟨rfl, Drawn0.refl _⟩

theorem accB_take (b : ByteArray) (k : Nat) (h : k < b.size) : accB (b.data.toList.take (k + 1)) = accB (b.data.toList.take k) * 256 + (b[k].toNat : Int) := by
  have hl : k < b.data.toList.length := by rw [Array.length_toList]; exact h
  rw [List.take_succ_eq_append_getElem hl, accB_snoc]
  rfl
theorem accB_lt (b : ByteArray) (k : Nat) (h : k ≤ b.size) (h4 : b.size ≤ 4) (hk : k < b.size) : 0 ≤ accB (b.data.toList.take k) ∧ accB (b.data.toList.take k) < 16777216 := by
  have h1 := accB_bd (b.data.toList.take k)
  have hl : (b.data.toList.take k).length = k := by rw [List.length_take, Array.length_toList]; exact Nat.min_eq_left h
  rw [hl] at h1
  refine ⟨h1.1, Int.lt_of_lt_of_le h1.2 ?_⟩
  match k, h, hk with
  | 0, _, _ => decide
  | 1, _, _ => decide
  | 2, _, _ => decide
  | 3, _, _ => decide
  | k + 4, _, hk => omega
theorem accB_whole (b : ByteArray) : accB (b.data.toList.take b.size) = accB b.data.toList := by
  rw [List.take_of_length_le]; rw [Array.length_toList]; exact Nat.le_refl _
theorem or_byte (x y : Int) (hx : 0 ≤ x) (hx1 : x < 16777216) (hy : 0 ≤ y) (hy1 : y < 256) : Go.bits .or .i64 (x * 256) y = x * 256 + y :=
  bits_join .i64 63 (by decide) (fun n h0 h1 => IntWalk.i64_in n ⟨by omega, by omega⟩) 8 (x * 256) y (by omega) (by omega) (by omega) hy (by omega) (by omega)

set_option maxHeartbeats 4000000 in
set_option maxRecDepth 100000 in
theorem codec_GetNumber_0 (s : ByteArray) (w : World) (q : 0 < s.size) (hm : hd s = 0) (h5 : 0 < s.size) :
    Calls Try.prog 64 #[.string s] w fun e w' => e = .returned (.tuple #[.int .i64 (getNum s).1, .string (getNum s).2.1, .bool (getNum s).2.2]) ∧ Drawn0 w w' := by
  have hx := hd_at q
  have en := toList_ne q
  have hg0 := getNum_is s q (by omega) (by omega)
  rw [hm] at hx hg0
  have HG := Aside0.mk hg0
  clear hg0 hm
  have hw0 : IntKind.i64.wrap (1 + 0) = 1 := rfl
  have hi0 : (1 : Int) ≤ 1 := by omega
  have hi1 : 1 ≤ s.size := by omega
  have hi2 : (1 : Int) ≤ (s.size : Int) := by omega
  have hem : decide (s = ByteArray.empty) = false := decide_eq_false (by rintro rfl; exact absurd q (by decide))
  have hbs := Aside0.mk (show (s.extract 1 1).size = 0 by rw [ByteArray.size_extract]; omega)
  go_enter Try.func64, Try.ntmps64
  go_wp2
  go_quiet (fail)
  clear en hi1 hi2 hx hw0 hi0 h5 hem
  have he : s.extract 1 1 = ⟨#[]⟩ := by
    have := hbs.out
    cases h : s.extract 1 1 with
    | mk d => rw [h] at this; simp [ByteArray.size] at this; rw [this]
  have he0 : ByteArray.empty = ⟨#[]⟩ := rfl
  rw [he0]
  clear he0
  go_wp2
  go_loopw [7, 8, 46] (fun v _ i wr => v = .int .i64 0 ∧ i = .int .i64 0 ∧ Drawn0 w wr) (fun _ _ i _ => 0)
  case atStart => exact ⟨rfl, rfl, by repeat (first | exact Drawn0.refl _ | apply Drawn0.step)⟩
  case round =>
    obtain ⟨rfl, rfl, ⟨n, rfl⟩⟩ := hrel
    go_wp2
    go_ret3
    refine ⟨?_, ⟨_, rfl⟩⟩
    rw [HG.out, if_neg (by simp)]
    simp only [Nat.add_zero, he]
    rfl
set_option maxHeartbeats 4000000 in
set_option maxRecDepth 100000 in
theorem codec_GetNumber_1 (s : ByteArray) (w : World) (q : 0 < s.size) (hm : hd s = 1) (h5 : 1 < s.size) :
    Calls Try.prog 64 #[.string s] w fun e w' => e = .returned (.tuple #[.int .i64 (getNum s).1, .string (getNum s).2.1, .bool (getNum s).2.2]) ∧ Drawn0 w w' := by
  have hx := hd_at q
  have en := toList_ne q
  have hg0 := getNum_is s q (by omega) (by omega)
  rw [hm] at hx hg0
  have HG := Aside0.mk hg0
  clear hg0 hm
  have hw0 : IntKind.i64.wrap (1 + 1) = 2 := rfl
  have hi0 : (1 : Int) ≤ 2 := by omega
  have hi1 : 2 ≤ s.size := by omega
  have hi2 : (2 : Int) ≤ (s.size : Int) := by omega
  have hem : decide (s = ByteArray.empty) = false := decide_eq_false (by rintro rfl; exact absurd q (by decide))
  have hbs := Aside0.mk (show (s.extract 1 2).size = 1 by rw [ByteArray.size_extract]; omega)
  go_enter Try.func64, Try.ntmps64
  go_wp2
  go_quiet (fail)
  clear en hi1 hi2 hx hw0 hi0 h5 hem
  generalize s.extract 1 2 = b at *
  have q0 : 0 < b.size := by rw [hbs.out]; omega
  have hx := hd_at q0
  have en := toList_ne q0
  have en2 : b.toList ≠ [] := by intro h; rw [h] at en; cases en
  obtain ⟨h0, hh0⟩ : ∃ h0, h0 = hd b := ⟨_, rfl⟩
  rw [← hh0] at hx
  have HH := Aside0.mk hh0
  clear hh0
  by_cases hz : (h0 : Int) = 0
  · have e1 : ((h0 : Int) == 0) = true := by simpa using hz
    have HZ := Aside0.mk hz
    clear hz
    go_wp2
    go_ret3
    refine ⟨?_, by repeat (first | exact Drawn0.refl _ | apply Drawn0.step)⟩
    rw [HG.out, if_pos ⟨by omega, by rw [← HH.out]; have := HZ.out; omega⟩]
    rfl
  · have e1 : ((h0 : Int) == 0) = false := by simpa using hz
    have HZ := Aside0.mk hz
    clear hz
    go_wp2
    clear en en2 e1 hx
    clear q0
    have hlen : (b.size : Int) = 1 := by rw [hbs.out]; rfl
    go_loopw [7, 8, 46] (fun v _ i wr => ∃ k : Nat, k ≤ b.size ∧ i = .int .i64 k ∧ v = .int .i64 (accB (b.data.toList.take k)) ∧ Drawn0 w wr) (fun _ _ i _ => b.size - (intOf i).toNat)
    case atStart => exact ⟨0, Nat.zero_le _, rfl, rfl, by repeat (first | exact Drawn0.refl _ | apply Drawn0.step)⟩
    case round =>
      obtain ⟨k, hk, rfl, rfl, ⟨n, rfl⟩⟩ := hrel
      by_cases hlt : k < b.size
      · have hb1 := accB_lt b k hk (by omega) hlt
        have hb2 := b[k].toNat_lt
        have hob := or_byte (accB (b.data.toList.take k)) (b[k].toNat : Int) hb1.1 hb1.2 (by omega) (by omega)
        have hnx := Aside0.mk (accB_take b k hlt)
        go_wp2
        go_roundw
        case rel => exact ⟨k + 1, by omega, by go_num, by rw [hnx.out], ⟨_, rfl⟩⟩
        case measure => simp [intOf]; omega
      · obtain rfl : k = b.size := by omega
        have haw := Aside0.mk (accB_whole b)
        go_wp2
        go_ret3
        refine ⟨?_, ⟨_, rfl⟩⟩
        rw [HG.out, if_neg (by rintro ⟨_, h⟩; have h1 := HH.out; have h2 := HZ.out; omega), haw.out]
        rfl
set_option maxHeartbeats 4000000 in
set_option maxRecDepth 100000 in
theorem codec_GetNumber_2 (s : ByteArray) (w : World) (q : 0 < s.size) (hm : hd s = 2) (h5 : 2 < s.size) :
    Calls Try.prog 64 #[.string s] w fun e w' => e = .returned (.tuple #[.int .i64 (getNum s).1, .string (getNum s).2.1, .bool (getNum s).2.2]) ∧ Drawn0 w w' := by
  have hx := hd_at q
  have en := toList_ne q
  have hg0 := getNum_is s q (by omega) (by omega)
  rw [hm] at hx hg0
  have HG := Aside0.mk hg0
  clear hg0 hm
  have hw0 : IntKind.i64.wrap (1 + 2) = 3 := rfl
  have hi0 : (1 : Int) ≤ 3 := by omega
  have hi1 : 3 ≤ s.size := by omega
  have hi2 : (3 : Int) ≤ (s.size : Int) := by omega
  have hem : decide (s = ByteArray.empty) = false := decide_eq_false (by rintro rfl; exact absurd q (by decide))
  have hbs := Aside0.mk (show (s.extract 1 3).size = 2 by rw [ByteArray.size_extract]; omega)
  go_enter Try.func64, Try.ntmps64
  go_wp2
  go_quiet (fail)
  clear en hi1 hi2 hx hw0 hi0 h5 hem
  generalize s.extract 1 3 = b at *
  have q0 : 0 < b.size := by rw [hbs.out]; omega
  have hx := hd_at q0
  have en := toList_ne q0
  have en2 : b.toList ≠ [] := by intro h; rw [h] at en; cases en
  obtain ⟨h0, hh0⟩ : ∃ h0, h0 = hd b := ⟨_, rfl⟩
  rw [← hh0] at hx
  have HH := Aside0.mk hh0
  clear hh0
  by_cases hz : (h0 : Int) = 0
  · have e1 : ((h0 : Int) == 0) = true := by simpa using hz
    have HZ := Aside0.mk hz
    clear hz
    go_wp2
    go_ret3
    refine ⟨?_, by repeat (first | exact Drawn0.refl _ | apply Drawn0.step)⟩
    rw [HG.out, if_pos ⟨by omega, by rw [← HH.out]; have := HZ.out; omega⟩]
    rfl
  · have e1 : ((h0 : Int) == 0) = false := by simpa using hz
    have HZ := Aside0.mk hz
    clear hz
    go_wp2
    clear en en2 e1 hx
    clear q0
    have hlen : (b.size : Int) = 2 := by rw [hbs.out]; rfl
    go_loopw [7, 8, 46] (fun v _ i wr => ∃ k : Nat, k ≤ b.size ∧ i = .int .i64 k ∧ v = .int .i64 (accB (b.data.toList.take k)) ∧ Drawn0 w wr) (fun _ _ i _ => b.size - (intOf i).toNat)
    case atStart => exact ⟨0, Nat.zero_le _, rfl, rfl, by repeat (first | exact Drawn0.refl _ | apply Drawn0.step)⟩
    case round =>
      obtain ⟨k, hk, rfl, rfl, ⟨n, rfl⟩⟩ := hrel
      by_cases hlt : k < b.size
      · have hb1 := accB_lt b k hk (by omega) hlt
        have hb2 := b[k].toNat_lt
        have hob := or_byte (accB (b.data.toList.take k)) (b[k].toNat : Int) hb1.1 hb1.2 (by omega) (by omega)
        have hnx := Aside0.mk (accB_take b k hlt)
        go_wp2
        go_roundw
        case rel => exact ⟨k + 1, by omega, by go_num, by rw [hnx.out], ⟨_, rfl⟩⟩
        case measure => simp [intOf]; omega
      · obtain rfl : k = b.size := by omega
        have haw := Aside0.mk (accB_whole b)
        go_wp2
        go_ret3
        refine ⟨?_, ⟨_, rfl⟩⟩
        rw [HG.out, if_neg (by rintro ⟨_, h⟩; have h1 := HH.out; have h2 := HZ.out; omega), haw.out]
        rfl
set_option maxHeartbeats 4000000 in
set_option maxRecDepth 100000 in
theorem codec_GetNumber_3 (s : ByteArray) (w : World) (q : 0 < s.size) (hm : hd s = 3) (h5 : 3 < s.size) :
    Calls Try.prog 64 #[.string s] w fun e w' => e = .returned (.tuple #[.int .i64 (getNum s).1, .string (getNum s).2.1, .bool (getNum s).2.2]) ∧ Drawn0 w w' := by
  have hx := hd_at q
  have en := toList_ne q
  have hg0 := getNum_is s q (by omega) (by omega)
  rw [hm] at hx hg0
  have HG := Aside0.mk hg0
  clear hg0 hm
  have hw0 : IntKind.i64.wrap (1 + 3) = 4 := rfl
  have hi0 : (1 : Int) ≤ 4 := by omega
  have hi1 : 4 ≤ s.size := by omega
  have hi2 : (4 : Int) ≤ (s.size : Int) := by omega
  have hem : decide (s = ByteArray.empty) = false := decide_eq_false (by rintro rfl; exact absurd q (by decide))
  have hbs := Aside0.mk (show (s.extract 1 4).size = 3 by rw [ByteArray.size_extract]; omega)
  go_enter Try.func64, Try.ntmps64
  go_wp2
  go_quiet (fail)
  clear en hi1 hi2 hx hw0 hi0 h5 hem
  generalize s.extract 1 4 = b at *
  have q0 : 0 < b.size := by rw [hbs.out]; omega
  have hx := hd_at q0
  have en := toList_ne q0
  have en2 : b.toList ≠ [] := by intro h; rw [h] at en; cases en
  obtain ⟨h0, hh0⟩ : ∃ h0, h0 = hd b := ⟨_, rfl⟩
  rw [← hh0] at hx
  have HH := Aside0.mk hh0
  clear hh0
  by_cases hz : (h0 : Int) = 0
  · have e1 : ((h0 : Int) == 0) = true := by simpa using hz
    have HZ := Aside0.mk hz
    clear hz
    go_wp2
    go_ret3
    refine ⟨?_, by repeat (first | exact Drawn0.refl _ | apply Drawn0.step)⟩
    rw [HG.out, if_pos ⟨by omega, by rw [← HH.out]; have := HZ.out; omega⟩]
    rfl
  · have e1 : ((h0 : Int) == 0) = false := by simpa using hz
    have HZ := Aside0.mk hz
    clear hz
    go_wp2
    clear en en2 e1 hx
    clear q0
    have hlen : (b.size : Int) = 3 := by rw [hbs.out]; rfl
    go_loopw [7, 8, 46] (fun v _ i wr => ∃ k : Nat, k ≤ b.size ∧ i = .int .i64 k ∧ v = .int .i64 (accB (b.data.toList.take k)) ∧ Drawn0 w wr) (fun _ _ i _ => b.size - (intOf i).toNat)
    case atStart => exact ⟨0, Nat.zero_le _, rfl, rfl, by repeat (first | exact Drawn0.refl _ | apply Drawn0.step)⟩
    case round =>
      obtain ⟨k, hk, rfl, rfl, ⟨n, rfl⟩⟩ := hrel
      by_cases hlt : k < b.size
      · have hb1 := accB_lt b k hk (by omega) hlt
        have hb2 := b[k].toNat_lt
        have hob := or_byte (accB (b.data.toList.take k)) (b[k].toNat : Int) hb1.1 hb1.2 (by omega) (by omega)
        have hnx := Aside0.mk (accB_take b k hlt)
        go_wp2
        go_roundw
        case rel => exact ⟨k + 1, by omega, by go_num, by rw [hnx.out], ⟨_, rfl⟩⟩
        case measure => simp [intOf]; omega
      · obtain rfl : k = b.size := by omega
        have haw := Aside0.mk (accB_whole b)
        go_wp2
        go_ret3
        refine ⟨?_, ⟨_, rfl⟩⟩
        rw [HG.out, if_neg (by rintro ⟨_, h⟩; have h1 := HH.out; have h2 := HZ.out; omega), haw.out]
        rfl
set_option maxHeartbeats 4000000 in
set_option maxRecDepth 100000 in
theorem codec_GetNumber_4 (s : ByteArray) (w : World) (q : 0 < s.size) (hm : hd s = 4) (h5 : 4 < s.size) :
    Calls Try.prog 64 #[.string s] w fun e w' => e = .returned (.tuple #[.int .i64 (getNum s).1, .string (getNum s).2.1, .bool (getNum s).2.2]) ∧ Drawn0 w w' := by
  have hx := hd_at q
  have en := toList_ne q
  have hg0 := getNum_is s q (by omega) (by omega)
  rw [hm] at hx hg0
  have HG := Aside0.mk hg0
  clear hg0 hm
  have hw0 : IntKind.i64.wrap (1 + 4) = 5 := rfl
  have hi0 : (1 : Int) ≤ 5 := by omega
  have hi1 : 5 ≤ s.size := by omega
  have hi2 : (5 : Int) ≤ (s.size : Int) := by omega
  have hem : decide (s = ByteArray.empty) = false := decide_eq_false (by rintro rfl; exact absurd q (by decide))
  have hbs := Aside0.mk (show (s.extract 1 5).size = 4 by rw [ByteArray.size_extract]; omega)
  go_enter Try.func64, Try.ntmps64
  go_wp2
  go_quiet (fail)
  clear en hi1 hi2 hx hw0 hi0 h5 hem
  generalize s.extract 1 5 = b at *
  have q0 : 0 < b.size := by rw [hbs.out]; omega
  have hx := hd_at q0
  have en := toList_ne q0
  have en2 : b.toList ≠ [] := by intro h; rw [h] at en; cases en
  obtain ⟨h0, hh0⟩ : ∃ h0, h0 = hd b := ⟨_, rfl⟩
  rw [← hh0] at hx
  have HH := Aside0.mk hh0
  clear hh0
  by_cases hz : (h0 : Int) = 0
  · have e1 : ((h0 : Int) == 0) = true := by simpa using hz
    have HZ := Aside0.mk hz
    clear hz
    go_wp2
    go_ret3
    refine ⟨?_, by repeat (first | exact Drawn0.refl _ | apply Drawn0.step)⟩
    rw [HG.out, if_pos ⟨by omega, by rw [← HH.out]; have := HZ.out; omega⟩]
    rfl
  · have e1 : ((h0 : Int) == 0) = false := by simpa using hz
    have HZ := Aside0.mk hz
    clear hz
    go_wp2
    clear en en2 e1 hx
    clear q0
    have hlen : (b.size : Int) = 4 := by rw [hbs.out]; rfl
    go_loopw [7, 8, 46] (fun v _ i wr => ∃ k : Nat, k ≤ b.size ∧ i = .int .i64 k ∧ v = .int .i64 (accB (b.data.toList.take k)) ∧ Drawn0 w wr) (fun _ _ i _ => b.size - (intOf i).toNat)
    case atStart => exact ⟨0, Nat.zero_le _, rfl, rfl, by repeat (first | exact Drawn0.refl _ | apply Drawn0.step)⟩
    case round =>
      obtain ⟨k, hk, rfl, rfl, ⟨n, rfl⟩⟩ := hrel
      by_cases hlt : k < b.size
      · have hb1 := accB_lt b k hk (by omega) hlt
        have hb2 := b[k].toNat_lt
        have hob := or_byte (accB (b.data.toList.take k)) (b[k].toNat : Int) hb1.1 hb1.2 (by omega) (by omega)
        have hnx := Aside0.mk (accB_take b k hlt)
        go_wp2
        go_roundw
        case rel => exact ⟨k + 1, by omega, by go_num, by rw [hnx.out], ⟨_, rfl⟩⟩
        case measure => simp [intOf]; omega
      · obtain rfl : k = b.size := by omega
        have haw := Aside0.mk (accB_whole b)
        go_wp2
        go_ret3
        refine ⟨?_, ⟨_, rfl⟩⟩
        rw [HG.out, if_neg (by rintro ⟨_, h⟩; have h1 := HH.out; have h2 := HZ.out; omega), haw.out]
        rfl
theorem codec_GetNumber.calls (a0 : ByteArray) (r1 : Int) (r2 : ByteArray) (r3 : Bool) (w : World) (h : codec_GetNumber.f a0 = some (r1, r2, r3)) :
    Calls Try.prog 64 #[.string a0] w fun e w' => e = .returned (.tuple #[.int .i64 r1, .string r2, .bool r3]) ∧ Drawn0 w w' := by
  have hg : getNum a0 = (r1, r2, r3) := by simpa [codec_GetNumber.f] using h
  by_cases hno : a0.size = 0 ∨ 4 < hd a0 ∨ a0.size ≤ hd a0
  · have h2 := getNum_no hno
    rw [hg] at h2
    simp only [Prod.mk.injEq] at h2
    obtain ⟨rfl, rfl, rfl⟩ := h2
    exact codec_GetNumber_no a0 w hno
  · have q : 0 < a0.size := by omega
    have h5 : hd a0 < a0.size := by omega
    have hm : hd a0 = 0 ∨ hd a0 = 1 ∨ hd a0 = 2 ∨ hd a0 = 3 ∨ hd a0 = 4 := by omega
    rcases hm with hm | hm | hm | hm | hm
    · have := codec_GetNumber_0 a0 w q hm (by omega); rw [hg] at this; exact this
    · have := codec_GetNumber_1 a0 w q hm (by omega); rw [hg] at this; exact this
    · have := codec_GetNumber_2 a0 w q hm (by omega); rw [hg] at this; exact this
    · have := codec_GetNumber_3 a0 w q hm (by omega); rw [hg] at this; exact this
    · have := codec_GetNumber_4 a0 w q hm (by omega); rw [hg] at this; exact this
end Go.Proofs.Ytfejidinfcmfjaa.P
-- Written by a program of this session (xprint.py) over the kit's print.py.
namespace Go.Proofs.Ytfejidinfcmfjaa.P
open Go.RowKit Go.Proofs.YtfejidinfcmfjaaW.PrintWords Go.Proofs.YtfejidinfcmfjaaW.PrintLast Go.Proofs.YtfejidinfcmfjaaW.PrintMore
attribute [local go_sem] max2_int min2_int max_two min_two max_three min_three max_four min_four   -- for this text's walks alone
set_option linter.unusedVariables false
set_option linter.unusedSimpArgs false

/-! ### codec_GetText: function 88 -/
def codec_GetText.f (a0 : ByteArray) : Option (ByteArray × ByteArray × Bool) := (codec_GetNumber.f a0).bind fun bt356 => (if bt356.2.2 = true then (if bt356.1 > 4000 then (some ((⟨#[]⟩ : ByteArray), (⟨#[]⟩ : ByteArray), false)) else (if bt356.1 > (bt356.2.1.size : Int) then (some ((⟨#[]⟩ : ByteArray), (⟨#[]⟩ : ByteArray), false)) else (if 0 ≤ bt356.1 then (if bt356.1 ≤ (bt356.2.1.size : Int) then (some (bt356.2.1.extract 0 (bt356.1 : Int).toNat, bt356.2.1.extract (bt356.1 : Int).toNat bt356.2.1.size, true)) else (none)) else (none)))) else (some ((⟨#[]⟩ : ByteArray), (⟨#[]⟩ : ByteArray), false)))
set_option maxHeartbeats 8000000 in
set_option maxRecDepth 100000 in
theorem codec_GetText.calls (a0 : ByteArray) (r1 : ByteArray) (r2 : ByteArray) (r3 : Bool) (w : World) (h : codec_GetText.f a0 = some (r1, r2, r3)) :
    Calls Try.prog 88 #[.string a0] w fun e w' => e = .returned (.tuple #[.string r1, .string r2, .bool r3]) ∧ Drawn0 w w' := by
  have H : ((codec_GetNumber.f a0).bind fun bt356 => (if bt356.2.2 = true then (if bt356.1 > 4000 then (some ((⟨#[]⟩ : ByteArray), (⟨#[]⟩ : ByteArray), false)) else (if bt356.1 > (bt356.2.1.size : Int) then (some ((⟨#[]⟩ : ByteArray), (⟨#[]⟩ : ByteArray), false)) else (if 0 ≤ bt356.1 then (if bt356.1 ≤ (bt356.2.1.size : Int) then (some (bt356.2.1.extract 0 (bt356.1 : Int).toNat, bt356.2.1.extract (bt356.1 : Int).toNat bt356.2.1.size, true)) else (none)) else (none)))) else (some ((⟨#[]⟩ : ByteArray), (⟨#[]⟩ : ByteArray), false)))) = some (r1, r2, r3) := h
  clear h
  replace H := Option.bind_eq_some_iff.mp H
  obtain ⟨⟨t356, t357, t358⟩, A20, H⟩ := H
  replace H : (if t358 = true then (if t356 > 4000 then (some ((⟨#[]⟩ : ByteArray), (⟨#[]⟩ : ByteArray), false)) else (if t356 > (t357.size : Int) then (some ((⟨#[]⟩ : ByteArray), (⟨#[]⟩ : ByteArray), false)) else (if 0 ≤ t356 then (if t356 ≤ (t357.size : Int) then (some (t357.extract 0 (t356 : Int).toNat, t357.extract (t356 : Int).toNat t357.size, true)) else (none)) else (none)))) else (some ((⟨#[]⟩ : ByteArray), (⟨#[]⟩ : ByteArray), false))) = some (r1, r2, r3) := H
  have A2 := Aside0.mk A20
  clear A20
  by_cases c3 : t358 = true
  · subst c3
    have H1 : (if t356 > 4000 then (some ((⟨#[]⟩ : ByteArray), (⟨#[]⟩ : ByteArray), false)) else (if t356 > (t357.size : Int) then (some ((⟨#[]⟩ : ByteArray), (⟨#[]⟩ : ByteArray), false)) else (if 0 ≤ t356 then (if t356 ≤ (t357.size : Int) then (some (t357.extract 0 (t356 : Int).toNat, t357.extract (t356 : Int).toNat t357.size, true)) else (none)) else (none)))) = some (r1, r2, r3) := by rw [if_pos rfl] at H; exact H
    clear H
    have H := H1
    clear H1
    by_cases c4 : t356 > 4000
    · rw [if_pos c4] at H
      have c4b0 : decide (4000 < t356) = true := decide_eq_true c4
      clear c4
      simp only [Option.some.injEq, Prod.mk.injEq] at H
      obtain ⟨rfl, rfl, rfl⟩ := H
      go_enter Try.func88, Try.ntmps88
      go_wp2_with (first | (go_at_call 64; (with_reducible refine (codec_GetNumber.calls a0 t356 t357 true _ A2.out).mono ?_); rintro e w' ⟨rfl, ⟨nd, rfl⟩⟩; (try first | exact ⟨rfl, _, World.drewN_drewN _ _ _⟩ | exact ⟨rfl, _, Eq.trans (World.drewN_drewN _ _ _) (congrArg (World.drewN _) (Nat.add_assoc _ _ _))⟩)))
      repeat (go_quiet (first | (go_at_call 64; (with_reducible refine (codec_GetNumber.calls a0 t356 t357 true _ A2.out).mono ?_); rintro e w' ⟨rfl, ⟨nd, rfl⟩⟩; (try first | exact ⟨rfl, _, World.drewN_drewN _ _ _⟩ | exact ⟨rfl, _, Eq.trans (World.drewN_drewN _ _ _) (congrArg (World.drewN _) (Nat.add_assoc _ _ _))⟩))); try go_wp2_with (first | (go_at_call 64; (with_reducible refine (codec_GetNumber.calls a0 t356 t357 true _ A2.out).mono ?_); rintro e w' ⟨rfl, ⟨nd, rfl⟩⟩; (try first | exact ⟨rfl, _, World.drewN_drewN _ _ _⟩ | exact ⟨rfl, _, Eq.trans (World.drewN_drewN _ _ _) (congrArg (World.drewN _) (Nat.add_assoc _ _ _))⟩))))
      go_ret3
      exact ⟨by first | rfl | (simp; done) | (simp [*]; done), by repeat (first | exact Drawn0.refl _ | apply Drawn0.step)⟩
    · rw [if_neg c4] at H
      have c4b0 : decide (4000 < t356) = false := decide_eq_false c4
      clear c4
      by_cases c5 : t356 > (t357.size : Int)
      · rw [if_pos c5] at H
        have c5b0 : decide ((t357.size : Int) < t356) = true := decide_eq_true c5
        clear c5
        simp only [Option.some.injEq, Prod.mk.injEq] at H
        obtain ⟨rfl, rfl, rfl⟩ := H
        go_enter Try.func88, Try.ntmps88
        go_wp2_with (first | (go_at_call 64; (with_reducible refine (codec_GetNumber.calls a0 t356 t357 true _ A2.out).mono ?_); rintro e w' ⟨rfl, ⟨nd, rfl⟩⟩; (try first | exact ⟨rfl, _, World.drewN_drewN _ _ _⟩ | exact ⟨rfl, _, Eq.trans (World.drewN_drewN _ _ _) (congrArg (World.drewN _) (Nat.add_assoc _ _ _))⟩)))
        repeat (go_quiet (first | (go_at_call 64; (with_reducible refine (codec_GetNumber.calls a0 t356 t357 true _ A2.out).mono ?_); rintro e w' ⟨rfl, ⟨nd, rfl⟩⟩; (try first | exact ⟨rfl, _, World.drewN_drewN _ _ _⟩ | exact ⟨rfl, _, Eq.trans (World.drewN_drewN _ _ _) (congrArg (World.drewN _) (Nat.add_assoc _ _ _))⟩))); try go_wp2_with (first | (go_at_call 64; (with_reducible refine (codec_GetNumber.calls a0 t356 t357 true _ A2.out).mono ?_); rintro e w' ⟨rfl, ⟨nd, rfl⟩⟩; (try first | exact ⟨rfl, _, World.drewN_drewN _ _ _⟩ | exact ⟨rfl, _, Eq.trans (World.drewN_drewN _ _ _) (congrArg (World.drewN _) (Nat.add_assoc _ _ _))⟩))))
        go_ret3
        exact ⟨by first | rfl | (simp; done) | (simp [*]; done), by repeat (first | exact Drawn0.refl _ | apply Drawn0.step)⟩
      · rw [if_neg c5] at H
        have c5b0 : decide ((t357.size : Int) < t356) = false := decide_eq_false c5
        clear c5
        by_cases c6 : 0 ≤ t356
        · rw [if_pos c6] at H
          have c6b0 := eq_true c6
          have c6b1 : decide (0 ≤ t356) = true := decide_eq_true c6
          clear c6
          by_cases c7 : t356 ≤ (t357.size : Int)
          · rw [if_pos c7] at H
            have c7b0 := eq_true c7
            have c7b1 : decide (t356 ≤ (t357.size : Int)) = true := decide_eq_true c7
            clear c7
            have c8b0 := eq_true (of_decide_eq_true (by first | (with_reducible assumption) | assumption) : 0 ≤ t356)
            have c9b0 := eq_true (of_decide_eq_true (by first | (with_reducible assumption) | assumption) : t356 ≤ (t357.size : Int))
            simp only [Option.some.injEq, Prod.mk.injEq] at H
            obtain ⟨rfl, rfl, rfl⟩ := H
            go_enter Try.func88, Try.ntmps88
            go_wp2_with (first | (go_at_call 64; (with_reducible refine (codec_GetNumber.calls a0 t356 t357 true _ A2.out).mono ?_); rintro e w' ⟨rfl, ⟨nd, rfl⟩⟩; (try first | exact ⟨rfl, _, World.drewN_drewN _ _ _⟩ | exact ⟨rfl, _, Eq.trans (World.drewN_drewN _ _ _) (congrArg (World.drewN _) (Nat.add_assoc _ _ _))⟩)))
            repeat (go_quiet (first | (go_at_call 64; (with_reducible refine (codec_GetNumber.calls a0 t356 t357 true _ A2.out).mono ?_); rintro e w' ⟨rfl, ⟨nd, rfl⟩⟩; (try first | exact ⟨rfl, _, World.drewN_drewN _ _ _⟩ | exact ⟨rfl, _, Eq.trans (World.drewN_drewN _ _ _) (congrArg (World.drewN _) (Nat.add_assoc _ _ _))⟩))); try go_wp2_with (first | (go_at_call 64; (with_reducible refine (codec_GetNumber.calls a0 t356 t357 true _ A2.out).mono ?_); rintro e w' ⟨rfl, ⟨nd, rfl⟩⟩; (try first | exact ⟨rfl, _, World.drewN_drewN _ _ _⟩ | exact ⟨rfl, _, Eq.trans (World.drewN_drewN _ _ _) (congrArg (World.drewN _) (Nat.add_assoc _ _ _))⟩))))
            go_ret3
            exact ⟨by first | rfl | (simp; done) | (simp [*]; done), by repeat (first | exact Drawn0.refl _ | apply Drawn0.step)⟩
          · rw [if_neg c7] at H
            exact absurd H (by simp)
        · rw [if_neg c6] at H
          exact absurd H (by simp)
  · replace c3 := Bool.eq_false_iff.mpr c3
    subst c3
    have H1 : (some ((⟨#[]⟩ : ByteArray), (⟨#[]⟩ : ByteArray), false)) = some (r1, r2, r3) := by rw [if_neg (show ¬ (false = true) by decide)] at H; exact H
    clear H
    have H := H1
    clear H1
    simp only [Option.some.injEq, Prod.mk.injEq] at H
    obtain ⟨rfl, rfl, rfl⟩ := H
    go_enter Try.func88, Try.ntmps88
    go_wp2_with (first | (go_at_call 64; (with_reducible refine (codec_GetNumber.calls a0 t356 t357 false _ A2.out).mono ?_); rintro e w' ⟨rfl, ⟨nd, rfl⟩⟩; (try first | exact ⟨rfl, _, World.drewN_drewN _ _ _⟩ | exact ⟨rfl, _, Eq.trans (World.drewN_drewN _ _ _) (congrArg (World.drewN _) (Nat.add_assoc _ _ _))⟩)))
    repeat (go_quiet (first | (go_at_call 64; (with_reducible refine (codec_GetNumber.calls a0 t356 t357 false _ A2.out).mono ?_); rintro e w' ⟨rfl, ⟨nd, rfl⟩⟩; (try first | exact ⟨rfl, _, World.drewN_drewN _ _ _⟩ | exact ⟨rfl, _, Eq.trans (World.drewN_drewN _ _ _) (congrArg (World.drewN _) (Nat.add_assoc _ _ _))⟩))); try go_wp2_with (first | (go_at_call 64; (with_reducible refine (codec_GetNumber.calls a0 t356 t357 false _ A2.out).mono ?_); rintro e w' ⟨rfl, ⟨nd, rfl⟩⟩; (try first | exact ⟨rfl, _, World.drewN_drewN _ _ _⟩ | exact ⟨rfl, _, Eq.trans (World.drewN_drewN _ _ _) (congrArg (World.drewN _) (Nat.add_assoc _ _ _))⟩))))
    go_ret3
    exact ⟨by first | rfl | (simp; done) | (simp [*]; done), by repeat (first | exact Drawn0.refl _ | apply Drawn0.step)⟩

end Go.Proofs.Ytfejidinfcmfjaa.P
/-
  codec.GetRow, by hand, and the function value that it takes one text behind the other from. For every text.
-/
namespace Go.Proofs.Ytfejidinfcmfjaa.P
open Go.RowKit Go.Proofs.CodecPlain Go.Proofs.YtfejidinfcmfjaaW.PrintWords Go.Proofs.YtfejidinfcmfjaaW.PrintLast Go.Proofs.YtfejidinfcmfjaaW.PrintMore

theorem getText_f (s : ByteArray) : codec_GetText.f s = some (getText s) := by
  unfold codec_GetText.f codec_GetNumber.f getText
  simp only [Option.bind_some]
  have := getNum_bd s
  by_cases h1 : (getNum s).2.2 = true
  · rw [if_pos h1]
    by_cases h2 : (getNum s).1 > 4000
    · rw [if_pos h2, if_neg (by omega)]
    · rw [if_neg h2]
      by_cases h3 : (getNum s).1 > ((getNum s).2.1.size : Int)
      · rw [if_pos h3, if_neg (by omega)]
      · rw [if_neg h3, if_pos (by omega), if_pos (by omega), if_pos ⟨h1, by omega, by omega⟩]
  · rw [if_neg h1, if_neg (by rintro ⟨h, _⟩; exact h1 h)]

set_option maxHeartbeats 1000000 in
theorem codec_texts_calls (s : ByteArray) (w : World) :
    Calls Try.prog 81 #[.string s] w fun e w' => e = .returned (.func (.func 87) #[] #[.pointer (some ⟨w.heap.size, 0, none⟩)]) ∧ w' = w.alloc (.cells #[.string s] 9) := by
  go_enter Try.func81, Try.ntmps81
  go_wp2
  go_ret
  exact ⟨rfl, rfl⟩

theorem keep_set {w : World} {B n m : Nat} {v : Value} : KeepBut w (((w.drewN m).setCell ⟨B, 0, none⟩ v).drewN n) B none :=
  ⟨by show w.heap.size ≤ (w.heap.modify _ _).size; rw [Array.size_modify]; exact Nat.le_refl _, fun i _ h _ => Below.heap_setCell w ⟨B, 0, none⟩ v i h⟩

set_option maxHeartbeats 1000000 in
theorem codec_texts1_calls (s : ByteArray) (B : Nat) (w : World) (hb : Boxed w B 9 (.string s)) (r1 r2 : ByteArray) (r3 : Bool) (hgt : getText s = (r1, r2, r3)) :
    Calls Try.prog 87 #[.pointer (some ⟨B, 0, none⟩)] w fun e w' => e = .returned (.tuple #[.string r1, .string r2, .bool r3]) ∧
      Aside0 (Boxed w' B 9 (.string r2)) ∧ Aside0 (KeepBut w w' B none) ∧ Aside0 (∀ n₀, n₀ ≤ B → Below n₀ w w') := by
  have hc := hb.cell
  have hf := hb.frozen
  have hg := Aside0.mk (getText_f s)
  rw [hgt] at hg
  have HB := Aside0.mk hb
  clear hb hgt
  go_enter Try.func87, Try.ntmps87
  go_wp2_with (go_at_call 88; refine (codec_GetText.calls _ _ _ _ _ hg.out).mono ?_; rintro e w3 ⟨rfl, ⟨n3, rfl⟩⟩)
  have HB2 := Aside0.mk (HB.out.set (.string r2))
  have hc2 := HB2.out.cell
  repeat (go_quiet (fail); try go_wp2)
  go_ret3
  exact ⟨rfl, ⟨HB2.out⟩, ⟨keep_set⟩, ⟨fun n₀ h => pw_below_drewN ((pw_below_drewN (Below.refl _ _) _).setCell (p := ⟨B, 0, none⟩) h _) _⟩⟩

theorem infoStr : (Try.prog.info? 9).map (fun i => (i.zero, i.size, i.bytes)) = some (some (.string ⟨#[]⟩), 1, 16) := by kernel_rfl

/-- What codec.GetRow answers. -/
def codec_GetRow.f (a0 : ByteArray) : Option (List ByteArray × ByteArray × Bool) := some (getRow a0)

set_option maxHeartbeats 4000000 in
set_option maxRecDepth 100000 in
theorem codec_GetRow_in (s : ByteArray) (w : World) (h1 : (getNum s).2.2 = true) (h2 : (getNum s).1 ≤ 1000) :
    Calls Try.prog 65 #[.string s] w fun e w' => ∃ (v : Value) (r1 : List ByteArray) (r2 : ByteArray) (r3 : Bool), Aside0 (getRow s = (r1, r2, r3)) ∧ e = .returned (.tuple #[v, .string r2, .bool r3]) ∧ Kd.R Kd.string 9 w' w.heap.size (fun _ => True) v r1 ∧ Below w.heap.size w w' := by
  have hb0 := getNum_bd s
  have hrow := Aside0.mk (show getRow s = getTexts (getNum s).1.toNat (getNum s).2.1 by unfold getRow; rw [if_pos ⟨h1, h2⟩])
  have hf0 : codec_GetNumber.f s = some (getNum s) := rfl
  obtain ⟨n, rest, ok, hn⟩ : ∃ n rest ok, getNum s = (n, rest, ok) := ⟨_, _, _, rfl⟩
  rw [hn] at h1 h2 hb0 hrow hf0
  have hf := Aside0.mk hf0
  simp only at h1 h2 hb0 hrow
  subst h1
  obtain ⟨N, rfl⟩ : ∃ N : Nat, n = N := ⟨n.toNat, by omega⟩
  clear hn hf0 hb0
  rw [Int.toNat_natCast] at hrow
  go_enter Try.func65, Try.ntmps65
  go_wp2_with (go_at_call 64; refine (codec_GetNumber.calls _ _ _ _ _ hf.out).mono ?_; rintro e w3 ⟨rfl, ⟨n3, rfl⟩⟩)
  go_wp2_with (go_at_call 81; refine (codec_texts_calls _ _).mono ?_; rintro e w3 ⟨rfl, rfl⟩)
  have hbx := Aside0.mk (Boxed.new (w.drewN n3) 9 (.string rest))
  have HB := Aside0.mk ((pw_below_drewN (Below.refl w.heap.size w) n3).alloc (Nat.le_refl _) (.cells #[.string rest] 9))
  go_loopw [6, 8, 28] (fun r v i wr => ∃ (k : Nat) (L : List ByteArray) (cur c2 : ByteArray), k ≤ N ∧ i = .int .i64 k ∧ r = .string cur ∧ c2 = cur ∧ Aside0 (getRow s = withL L (getTexts (N - k) cur)) ∧ Aside0 (L.length = k) ∧ Aside0 (Boxed wr w.heap.size 9 (.string c2)) ∧ Aside0 (Kd.R Kd.string 9 wr w.heap.size (fun q => q ≠ w.heap.size) v L) ∧ Aside0 (Below w.heap.size w wr))
    (fun _ _ i _ => N - (intOf i).toNat)
  case atStart => exact ⟨0, [], rest, rest, Nat.zero_le _, rfl, rfl, rfl, ⟨by rw [hrow.out, withL_nil, Nat.sub_zero]⟩, ⟨rfl⟩, ⟨hbx.out⟩, ⟨Kd.R_nil _ _ _ _ _⟩, HB⟩
  case round =>
    clear hrow hbx HB
    obtain ⟨k, L, cur, c2, hk, rfl, rfl, rfl, HG, HL, hbx, HO, HB⟩ := hrel
    by_cases hlt : k < N
    · obtain ⟨r1, r2, r3, hgt⟩ : ∃ r1 r2 r3, getText c2 = (r1, r2, r3) := ⟨_, _, _, rfl⟩
      have HT := Aside0.mk hgt
      clear hgt
      cases r3
      · have hres := Aside0.mk (show getRow s = ([], ⟨#[]⟩, false) by
          rw [HG.out, show N - k = (N - k - 1) + 1 by omega]; exact withL_stop _ _ _ (by rw [HT.out]))
        go_wp2_with (go_at_call 87; refine (codec_texts1_calls _ _ _ hbx.out _ _ _ HT.out).mono ?_; rintro e w4 ⟨rfl, hbx4, hk4, hb4⟩)
        go_ret3
        exact ⟨_, _, _, _, hres, rfl, Kd.R_nil _ _ _ _ _, HB.out.trans (hb4.out _ (Nat.le_refl _))⟩
      · have hnx := Aside0.mk (show getRow s = withL (L ++ [r1]) (getTexts (N - (k + 1)) r2) by
          rw [HG.out, show N - k = (N - (k + 1)) + 1 by omega, withL_step _ _ _ (by rw [HT.out]), HT.out])
        go_wp2_with (first | (go_at_call 87; refine (codec_texts1_calls _ _ _ hbx.out _ _ _ HT.out).mono ?_; rintro e w4 ⟨rfl, hbx4, hk4, hb4⟩; have HO4 := Aside0.mk (Kd.R_keep HO.out hk4.out (fun k hk => hk)); have HB4 := Aside0.mk (HB.out.trans (hb4.out _ (Nat.le_refl _))); clear hk4 hb4 HO HB) | ((with_reducible refine gate_builtin (b := .append) (xs := #[.tmp 38, .tmp 40]) rfl ?_); at_builtin; refine Kd.R_append Kd.string (w0 := w) w.heap.size rfl (.tmp 38) (.tmp 40) 27 9 (.string ⟨#[]⟩) 16 rfl Try.underlying27 infoStr rfl (by decide) (by omega) _ L r1 [.string r1] (fun q => q ≠ w.heap.size) (fun _ => False) rfl rfl ?aP (fun _ hk => hk.elim) ?aF ?aO ?aB ?aS ?aL ?_; (case aP => exact rfl); (case aB => exact HB4.out); (case aF => exact (fun q hq => by have := hbx4.out.lt; omega)); (case aO => exact HO4.out); (case aS => exact HB4.out.size); (case aL => have := HL.out; omega); intro v1 w5 ho hb hg hat; have HO5 := Aside0.mk ho; have HB5 := Aside0.mk hb; have hbx5 := Aside0.mk (hbx4.out.kept hg (fun e => by have := (HO4.out).1 _ e.symm; omega)); clear ho hb hg hat))
        go_roundw
        case rel => exact ⟨k + 1, L ++ [r1], r2, r2, by omega, by go_num, rfl, rfl, hnx, ⟨by simp [HL.out]⟩, hbx5, HO5, HB5⟩
        case measure => simp [intOf]; omega
    · obtain rfl : k = N := by omega
      have hres := Aside0.mk (show getRow s = (L, c2, true) by
        rw [HG.out, Nat.sub_self]; simp [withL, getTexts])
      go_wp2
      go_ret3
      exact ⟨_, _, _, _, hres, rfl, Kd.R_mono HO.out (fun _ _ => trivial), HB.out⟩

theorem codec_GetRow.calls (a0 : ByteArray) (r1 : List ByteArray) (r2 : ByteArray) (r3 : Bool) (w : World) (h : codec_GetRow.f a0 = some (r1, r2, r3)) :
    Calls Try.prog 65 #[.string a0] w fun e w' => ∃ v0_ : Value, e = .returned (.tuple #[v0_, .string r2, .bool r3]) ∧ Kd.R Kd.string 9 w' w.heap.size (fun _ => True) v0_ r1 ∧ Below w.heap.size w w' := by
  have hg : getRow a0 = (r1, r2, r3) := by simpa [codec_GetRow.f] using h
  clear h
  by_cases hc : (getNum a0).2.2 = true ∧ (getNum a0).1 ≤ 1000
  · refine (codec_GetRow_in a0 w hc.1 hc.2).mono ?_
    rintro e w' ⟨v, s1, s2, s3, hs, rfl, hR, hB⟩
    have := hs.out.symm.trans hg
    simp only [Prod.mk.injEq] at this
    obtain ⟨rfl, rfl, rfl⟩ := this
    exact ⟨v, rfl, hR, hB⟩
  · have h2 : getRow a0 = ([], ⟨#[]⟩, false) := by unfold getRow; rw [if_neg hc]
    rw [hg] at h2
    simp only [Prod.mk.injEq] at h2
    obtain ⟨rfl, rfl, rfl⟩ := h2
    clear hg
    have hf0 : codec_GetNumber.f a0 = some (getNum a0) := rfl
    obtain ⟨n, rest, ok, hn⟩ : ∃ n rest ok, getNum a0 = (n, rest, ok) := ⟨_, _, _, rfl⟩
    rw [hn] at hc hf0
    have hf := Aside0.mk hf0
    clear hf0 hn
    cases ok
    · clear hc
      go_enter Try.func65, Try.ntmps65
      go_wp2_with (go_at_call 64; refine (codec_GetNumber.calls _ _ _ _ _ hf.out).mono ?_; rintro e w3 ⟨rfl, ⟨n3, rfl⟩⟩)
      go_ret3
      exact ⟨_, rfl, Kd.R_nil _ _ _ _ _, pw_below_drewN (Below.refl _ _) _⟩
    · have hgt : 1000 < n := by simpa using hc
      clear hc
      go_enter Try.func65, Try.ntmps65
      go_wp2_with (go_at_call 64; refine (codec_GetNumber.calls _ _ _ _ _ hf.out).mono ?_; rintro e w3 ⟨rfl, ⟨n3, rfl⟩⟩)
      go_ret3
      exact ⟨_, rfl, Kd.R_nil _ _ _ _ _, pw_below_drewN (Below.refl _ _) _⟩
end Go.Proofs.Ytfejidinfcmfjaa.P
/-
  msg.Get, by hand.
-/
namespace Go.Proofs.Ytfejidinfcmfjaa.P
open Go.RowKit Go.Shelf Go.Proofs Go.Proofs.CodecPlain Go.Proofs.YtfejidinfcmfjaaW.PrintWords Go.Proofs.YtfejidinfcmfjaaW.PrintLast

/-- Numbers, one behind the other. -/
def getNs : Nat → ByteArray → List Int × ByteArray × Bool
  | 0, s => ([], s, true)
  | n + 1, s => if (getNum s).2.2 = true then ((getNum s).1 :: (getNs n (getNum s).2.1).1, (getNs n (getNum s).2.1).2.1, (getNs n (getNum s).2.1).2.2) else ([], ⟨#[]⟩, false)
def withN (a : List Int) (r : List Int × ByteArray × Bool) : List Int × ByteArray × Bool := (a ++ r.1, r.2.1, r.2.2)
theorem getNs_step (a : List Int) (n : Nat) (s : ByteArray) (h : (getNum s).2.2 = true) : withN a (getNs (n + 1) s) = withN (a ++ [(getNum s).1]) (getNs n (getNum s).2.1) := by
  unfold withN
  simp only [getNs]
  rw [if_pos h]
  simp
theorem getNs_stop (a : List Int) (n : Nat) (s : ByteArray) (h : (getNum s).2.2 = false) : (withN a (getNs (n + 1) s)).2.2 = false := by
  unfold withN
  simp only [getNs]
  rw [if_neg (by rw [h]; decide)]
/-- What msg.Get makes of numbers and what stands behind. -/
def getM (r : List Int × ByteArray × Bool) : Int × Int × Int × Int × Int × Int × Int × List ByteArray × Int :=
  match r with
  | ([n0, n1, n2, n3, n4, n5, n6], rest, true) => if (getRow rest).2.2 = true ∧ (getRow rest).2.1 = ⟨#[]⟩ ∧ isB n0 n1 n2 n3 n4 n5 n6 (getRow rest).1 = true then (n0, n1, n2, n3, n4, n5, n6, (getRow rest).1, 0) else (0, 0, 0, 0, 0, 0, 0, [], 30)
  | _ => (0, 0, 0, 0, 0, 0, 0, [], 30)
theorem getM_no {r : List Int × ByteArray × Bool} (h : r.2.2 = false) : getM r = (0, 0, 0, 0, 0, 0, 0, [], 30) := by
  obtain ⟨l, s, b⟩ := r
  simp only at h
  subst h
  unfold getM
  split
  · rename_i e; injection e with _ e; injection e with _ e; cases e
  · rfl
def msg_Get.f (a0 : ByteArray) : Option (Int × Int × Int × Int × Int × Int × Int × List ByteArray × Int) := some (getM (getNs 7 a0))
theorem zero_msg (w : World) : Sem.run Try.prog (zeroValue 29) w = .ok (.agg #[.int .i64 0, .int .i64 0, .int .i64 0, .int .i64 0, .int .i64 0, .int .i64 0, .int .i64 0, .slice none 0 0]) w := by kernel_rfl
attribute [local go_sem] zero_msg
/-- A message's block. -/
def blkM (n0 n1 n2 n3 n4 n5 n6 : Int) (v : Value) : Array Value := #[.int .i64 n0, .int .i64 n1, .int .i64 n2, .int .i64 n3, .int .i64 n4, .int .i64 n5, .int .i64 n6, v]
theorem blkM_one (n0 n1 n2 n3 n4 n5 n6 : Int) (v : Value) (hv : v.oneCell' = true) : ∀ q ∈ (blkM n0 n1 n2 n3 n4 n5 n6 v).toList, q.oneCell' = true := by
  intro q hq
  simp only [blkM, List.mem_cons, List.not_mem_nil, or_false] at hq
  rcases hq with rfl | rfl | rfl | rfl | rfl | rfl | rfl | rfl <;> first | rfl | exact hv
/-- A whole message stored into a message's block. -/
theorem store_msg {W : World} {g : Nat} {cur : Array Value} (hh : W.heap[g]? = some (.cells cur 29 (0, 0))) (hs : cur.size = 8) (n0 n1 n2 n3 n4 n5 n6 : Int) (v : Value) (hv : v.oneCell' = true) :
    (Instr.storeAt 29 (.pointer (some ⟨g, 0, none⟩)) (.agg (blkM n0 n1 n2 n3 n4 n5 n6 v))).run Try.prog W = .ok () (W.setCells g 0 (blkM n0 n1 n2 n3 n4 n5 n6 v).toList) ∧
    (W.setCells g 0 (blkM n0 n1 n2 n3 n4 n5 n6 v).toList).heap[g]? = some (.cells (blkM n0 n1 n2 n3 n4 n5 n6 v) 29 (0, 0)) := by
  have hl : (blkM n0 n1 n2 n3 n4 n5 n6 v).toList.length = 8 := rfl
  refine ⟨run_store_run (P := Try.prog) (o := 0) 29 _ _ hh rfl (by rw [hl]; kernel_rfl) (by omega) (blkM_one n0 n1 n2 n3 n4 n5 n6 v hv), ?_⟩
  obtain ⟨cur', h1, h2, h3⟩ := setCells_row (blkM n0 n1 n2 n3 n4 n5 n6 v).toList 0 W cur hh (by omega)
  rw [h1]
  have : cur' = blkM n0 n1 n2 n3 n4 n5 n6 v := by
    apply Array.toList_inj.1
    rw [h3, List.take_zero, List.nil_append, hl, List.drop_of_length_le (by rw [Array.length_toList]; omega), List.append_nil]
  rw [this]
theorem below_cells {B g : Nat} {w W : World} (h : Below B w W) (hg : B ≤ g) (vs : List Value) : Below B w (W.setCells g 0 vs) := by
  have hs := setCells_same g vs 0 W
  exact h.trans ⟨hs.1, hs.2.1, hs.2.2.1, Nat.le_of_eq hs.2.2.2.symm, fun k hk => setCells_far _ _ k (by omega)⟩
theorem R_cells {α : Type} {d : Kd α} {e : Nat} {W : World} {base : Nat} {v : Value} {xs : List α} (h : d.R e W base (fun _ => True) v xs) {g t : Nat} {cells : Array Value} (hb : W.heap[g]? = some (.cells cells t (0, 0))) (ht : ∀ q, q ∈ e :: d.E → q ≠ t) (vs : List Value) : d.R e (W.setCells g 0 vs) base (fun _ => True) v xs :=
  Kd.R_mono (Kd.R_step (Kd.R_types h hb ht) (fun k hk _ => setCells_far _ _ k hk.2)) (fun _ _ => trivial)


set_option maxHeartbeats 32000000 in
set_option maxRecDepth 100000 in
theorem msg_Get_any (s : ByteArray) (w : World) :
    Calls Try.prog 33 #[.string s] w fun e w' => ∃ r1 r2 r3 r4 r5 r6 r7 r8 r9, Aside0 (getM (getNs 7 s) = (r1, r2, r3, r4, r5, r6, r7, r8, r9)) ∧ ∃ v7_ : Value, e = .returned (.tuple #[.agg #[.int .i64 r1, .int .i64 r2, .int .i64 r3, .int .i64 r4, .int .i64 r5, .int .i64 r6, .int .i64 r7, v7_], .int .i64 r9]) ∧ Kd.R Kd.string 9 w' w.heap.size (fun _ => True) v7_ r8 ∧ Below w.heap.size w w' := by
  have HB0 := Aside0.mk (((Below.refl w.heap.size w).alloc (Nat.le_refl _) (.cells (blkM 0 0 0 0 0 0 0 (.slice none 0 0)) 29)).alloc (by simp) (.cells (blkM 0 0 0 0 0 0 0 (.slice none 0 0)) 29))
  have HE1 := Aside0.mk (blk_alloc (blk_new w (.cells (blkM 0 0 0 0 0 0 0 (.slice none 0 0)) 29)) (.cells (blkM 0 0 0 0 0 0 0 (.slice none 0 0)) 29))
  have hE2 := blk_new (w.alloc (.cells (blkM 0 0 0 0 0 0 0 (.slice none 0 0)) 29)) (.cells (blkM 0 0 0 0 0 0 0 (.slice none 0 0)) 29)
  rw [World.size_alloc] at hE2
  have HE2 := Aside0.mk hE2
  clear hE2
  go_enter Try.func33, Try.ntmps33
  go_wp2_with (first | (go_at_call 57; (with_reducible refine (msg_fields_calls (w.heap.size + 1) _).mono ?_); rintro e w2 ⟨rfl, hb2⟩; have HB2 := Aside0.mk (HB0.out.trans (hb2.mono HB0.out.size)); have HF1 := Aside0.mk (blk_below HE1.out hb2); have HF2 := Aside0.mk (blk_below HE2.out hb2); clear hb2))
  simp only [ptrs]
  clear HB0 HE1 HE2
  go_loopw [0, 6, 7, 8, 9, 14] (fun cur _ _ _ _ i wr => ∃ (k : Nat) (a : List Int) (sk : ByteArray) (n0 n1 n2 n3 n4 n5 n6 : Int), k ≤ 7 ∧ i = .int .i64 k ∧ cur = .string sk ∧ Aside0 (getNs 7 s = withN a (getNs (7 - k) sk)) ∧ Aside0 (a = [n0, n1, n2, n3, n4, n5, n6].take k) ∧ Aside0 (wr.heap[w.heap.size + 1]? = some (.cells (blkM n0 n1 n2 n3 n4 n5 n6 (.slice none 0 0)) 29 (0, 0))) ∧ Aside0 (wr.heap[w.heap.size]? = some (.cells (blkM 0 0 0 0 0 0 0 (.slice none 0 0)) 29 (0, 0))) ∧ Aside0 (Below w.heap.size w wr))
    (fun _ _ _ _ _ i _ => 7 - (intOf i).toNat)
  case atStart => exact ⟨0, [], s, 0, 0, 0, 0, 0, 0, 0, Nat.zero_le _, rfl, rfl, ⟨by simp [withN]⟩, ⟨rfl⟩, HF2, HF1, HB2⟩
  case round =>
    clear HF1 HF2 HB2
    obtain ⟨k, a, sk, n0, n1, n2, n3, n4, n5, n6, hk, rfl, rfl, HG, HA, HC2, HC1, HB⟩ := hrel
    have hks : k = 0 ∨ k = 1 ∨ k = 2 ∨ k = 3 ∨ k = 4 ∨ k = 5 ∨ k = 6 ∨ k = 7 := by omega
    rcases hks with rfl | rfl | rfl | rfl | rfl | rfl | rfl | rfl
    · obtain ⟨x, sn, ok, hgn⟩ : ∃ x sn ok, getNum sk = (x, sn, ok) := ⟨_, _, _, rfl⟩
      have HN := Aside0.mk (fun W => codec_GetNumber.calls sk x sn ok W (by unfold codec_GetNumber.f; rw [hgn]))
      cases ok
      · have hst := Aside0.mk (getM_no (getNs_stop a 6 sk (by rw [hgn])))
        obtain ⟨hrun, hblk⟩ := store_msg HC1.out rfl 0 0 0 0 0 0 0 (.slice none 0 0) rfl
        have HRun := Aside0.mk (fun n => (store_msg (W := wr.drewN n) (blk_drewN HC1.out n) rfl 0 0 0 0 0 0 0 (.slice none 0 0) rfl))
        clear hgn hrun hblk
        go_wp2_with (first | ((with_reducible refine gate_dst (N := 16) rfl ?_); refine Kd.event_run (v := .pointer (some ⟨w.heap.size + 1, 0, none⟩)) (w1 := wr) rfl ?hx ?_; (case hx => kernel_rfl)) | (go_at_call 64; (with_reducible refine (HN.out _).mono ?_); rintro e w4 ⟨rfl, ⟨nd, rfl⟩⟩) | ((with_reducible refine gate_store (t := 29) (p := 2) rfl ?_); refine store_event (t := 29) (p := 2) (w1 := (wr.drewN nd).setCells w.heap.size 0 (blkM 0 0 0 0 0 0 0 (.slice none 0 0)).toList) rfl rfl rfl ?hr ?_; (case hr => (unfold execOp; simp only [Act.eval, Sem.run_bind, Sem.run_pure, Result.andThen_ok]; show ((Sem.run Try.prog (Instr.storeAt 29 (.pointer (some ⟨w.heap.size, 0, none⟩)) (.agg (blkM 0 0 0 0 0 0 0 (.slice none 0 0)))) (wr.drewN nd)).andThen _) = _; rw [(HRun.out nd).1]; try rfl)); intro w5 hw5; have HC5 := Aside0.mk (hw5 ▸ (HRun.out nd).2 : w5.heap[w.heap.size]? = some (.cells (blkM 0 0 0 0 0 0 0 (.slice none 0 0)) 29 (0, 0))); have HB5 := Aside0.mk (show Below w.heap.size w w5 by rw [hw5]; exact below_cells (pw_below_drewN HB.out nd) (Nat.le_refl _) _); clear hw5))
        have d0 := blk_cell HC5.out 0
        have d1 := blk_cell HC5.out 1
        have d2 := blk_cell HC5.out 2
        have d3 := blk_cell HC5.out 3
        have d4 := blk_cell HC5.out 4
        have d5 := blk_cell HC5.out 5
        have d6 := blk_cell HC5.out 6
        have d7 := blk_cell HC5.out 7
        simp only [blkM, List.getElem?_toArray, List.getElem?_cons_zero, List.getElem?_cons_succ] at d0 d1 d2 d3 d4 d5 d6 d7
        refine bodyPost_ret (v := .tuple #[.agg (blkM 0 0 0 0 0 0 0 (.slice none 0 0)), .int .i64 30]) ?_ rfl ⟨0, 0, 0, 0, 0, 0, 0, [], 30, ⟨by rw [HG.out]; exact hst.out⟩, _, rfl, Kd.R_nil _ _ _ _ _, HB5.out⟩
        simp [results, Try.results33, go_sem, blkM, d0, d1, d2, d3, d4, d5, d6, d7]
      · have hStep := Aside0.mk (show withN a (getNs (6 + 1) sk) = withN (a ++ [x]) (getNs 6 sn) by
          have := getNs_step a 6 sk (by rw [hgn])
          rw [hgn] at this
          exact this)
        have c2 := blk_cell HC2.out 0
        have f2 := blk_frozen HC2.out 0
        simp only [blkM, List.getElem?_toArray, List.getElem?_cons_zero, List.getElem?_cons_succ] at c2
        clear hgn
        go_wp2_with (first | ((with_reducible refine gate_dst (N := 16) rfl ?_); refine Kd.event_run (v := .pointer (some ⟨w.heap.size + 1, 0, none⟩)) (w1 := wr) rfl ?hx ?_; (case hx => kernel_rfl)) | (go_at_call 64; (with_reducible refine (HN.out _).mono ?_); rintro e w4 ⟨rfl, ⟨nd, rfl⟩⟩))
        go_roundw
        case measure => simp [intOf]
        case rel =>
        refine ⟨1, a ++ [x], sn, x, n1, n2, n3, n4, n5, n6, by omega, by go_num, rfl, ⟨by rw [HG.out]; exact hStep.out⟩, ⟨by rw [HA.out]; rfl⟩, ⟨blk_set (blk_drewN HC2.out nd) 0 (.int .i64 x)⟩, ⟨blk_far (blk_drewN HC1.out nd) (by show w.heap.size ≠ w.heap.size + 1; omega) _⟩, ⟨(pw_below_drewN HB.out nd).setCell (p := ⟨w.heap.size + 1, 0, none⟩) (by show w.heap.size ≤ w.heap.size + 1; omega) _⟩⟩
    · obtain ⟨x, sn, ok, hgn⟩ : ∃ x sn ok, getNum sk = (x, sn, ok) := ⟨_, _, _, rfl⟩
      have HN := Aside0.mk (fun W => codec_GetNumber.calls sk x sn ok W (by unfold codec_GetNumber.f; rw [hgn]))
      cases ok
      · have hst := Aside0.mk (getM_no (getNs_stop a 5 sk (by rw [hgn])))
        obtain ⟨hrun, hblk⟩ := store_msg HC1.out rfl 0 0 0 0 0 0 0 (.slice none 0 0) rfl
        have HRun := Aside0.mk (fun n => (store_msg (W := wr.drewN n) (blk_drewN HC1.out n) rfl 0 0 0 0 0 0 0 (.slice none 0 0) rfl))
        clear hgn hrun hblk
        go_wp2_with (first | ((with_reducible refine gate_dst (N := 16) rfl ?_); refine Kd.event_run (v := .pointer (some ⟨w.heap.size + 1, 1, none⟩)) (w1 := wr) rfl ?hx ?_; (case hx => kernel_rfl)) | (go_at_call 64; (with_reducible refine (HN.out _).mono ?_); rintro e w4 ⟨rfl, ⟨nd, rfl⟩⟩) | ((with_reducible refine gate_store (t := 29) (p := 2) rfl ?_); refine store_event (t := 29) (p := 2) (w1 := (wr.drewN nd).setCells w.heap.size 0 (blkM 0 0 0 0 0 0 0 (.slice none 0 0)).toList) rfl rfl rfl ?hr ?_; (case hr => (unfold execOp; simp only [Act.eval, Sem.run_bind, Sem.run_pure, Result.andThen_ok]; show ((Sem.run Try.prog (Instr.storeAt 29 (.pointer (some ⟨w.heap.size, 0, none⟩)) (.agg (blkM 0 0 0 0 0 0 0 (.slice none 0 0)))) (wr.drewN nd)).andThen _) = _; rw [(HRun.out nd).1]; try rfl)); intro w5 hw5; have HC5 := Aside0.mk (hw5 ▸ (HRun.out nd).2 : w5.heap[w.heap.size]? = some (.cells (blkM 0 0 0 0 0 0 0 (.slice none 0 0)) 29 (0, 0))); have HB5 := Aside0.mk (show Below w.heap.size w w5 by rw [hw5]; exact below_cells (pw_below_drewN HB.out nd) (Nat.le_refl _) _); clear hw5))
        have d0 := blk_cell HC5.out 0
        have d1 := blk_cell HC5.out 1
        have d2 := blk_cell HC5.out 2
        have d3 := blk_cell HC5.out 3
        have d4 := blk_cell HC5.out 4
        have d5 := blk_cell HC5.out 5
        have d6 := blk_cell HC5.out 6
        have d7 := blk_cell HC5.out 7
        simp only [blkM, List.getElem?_toArray, List.getElem?_cons_zero, List.getElem?_cons_succ] at d0 d1 d2 d3 d4 d5 d6 d7
        refine bodyPost_ret (v := .tuple #[.agg (blkM 0 0 0 0 0 0 0 (.slice none 0 0)), .int .i64 30]) ?_ rfl ⟨0, 0, 0, 0, 0, 0, 0, [], 30, ⟨by rw [HG.out]; exact hst.out⟩, _, rfl, Kd.R_nil _ _ _ _ _, HB5.out⟩
        simp [results, Try.results33, go_sem, blkM, d0, d1, d2, d3, d4, d5, d6, d7]
      · have hStep := Aside0.mk (show withN a (getNs (5 + 1) sk) = withN (a ++ [x]) (getNs 5 sn) by
          have := getNs_step a 5 sk (by rw [hgn])
          rw [hgn] at this
          exact this)
        have c2 := blk_cell HC2.out 1
        have f2 := blk_frozen HC2.out 1
        simp only [blkM, List.getElem?_toArray, List.getElem?_cons_zero, List.getElem?_cons_succ] at c2
        clear hgn
        go_wp2_with (first | ((with_reducible refine gate_dst (N := 16) rfl ?_); refine Kd.event_run (v := .pointer (some ⟨w.heap.size + 1, 1, none⟩)) (w1 := wr) rfl ?hx ?_; (case hx => kernel_rfl)) | (go_at_call 64; (with_reducible refine (HN.out _).mono ?_); rintro e w4 ⟨rfl, ⟨nd, rfl⟩⟩))
        go_roundw
        case measure => simp [intOf]
        case rel =>
        refine ⟨2, a ++ [x], sn, n0, x, n2, n3, n4, n5, n6, by omega, by go_num, rfl, ⟨by rw [HG.out]; exact hStep.out⟩, ⟨by rw [HA.out]; rfl⟩, ⟨blk_set (blk_drewN HC2.out nd) 1 (.int .i64 x)⟩, ⟨blk_far (blk_drewN HC1.out nd) (by show w.heap.size ≠ w.heap.size + 1; omega) _⟩, ⟨(pw_below_drewN HB.out nd).setCell (p := ⟨w.heap.size + 1, 1, none⟩) (by show w.heap.size ≤ w.heap.size + 1; omega) _⟩⟩
    · obtain ⟨x, sn, ok, hgn⟩ : ∃ x sn ok, getNum sk = (x, sn, ok) := ⟨_, _, _, rfl⟩
      have HN := Aside0.mk (fun W => codec_GetNumber.calls sk x sn ok W (by unfold codec_GetNumber.f; rw [hgn]))
      cases ok
      · have hst := Aside0.mk (getM_no (getNs_stop a 4 sk (by rw [hgn])))
        obtain ⟨hrun, hblk⟩ := store_msg HC1.out rfl 0 0 0 0 0 0 0 (.slice none 0 0) rfl
        have HRun := Aside0.mk (fun n => (store_msg (W := wr.drewN n) (blk_drewN HC1.out n) rfl 0 0 0 0 0 0 0 (.slice none 0 0) rfl))
        clear hgn hrun hblk
        go_wp2_with (first | ((with_reducible refine gate_dst (N := 16) rfl ?_); refine Kd.event_run (v := .pointer (some ⟨w.heap.size + 1, 2, none⟩)) (w1 := wr) rfl ?hx ?_; (case hx => kernel_rfl)) | (go_at_call 64; (with_reducible refine (HN.out _).mono ?_); rintro e w4 ⟨rfl, ⟨nd, rfl⟩⟩) | ((with_reducible refine gate_store (t := 29) (p := 2) rfl ?_); refine store_event (t := 29) (p := 2) (w1 := (wr.drewN nd).setCells w.heap.size 0 (blkM 0 0 0 0 0 0 0 (.slice none 0 0)).toList) rfl rfl rfl ?hr ?_; (case hr => (unfold execOp; simp only [Act.eval, Sem.run_bind, Sem.run_pure, Result.andThen_ok]; show ((Sem.run Try.prog (Instr.storeAt 29 (.pointer (some ⟨w.heap.size, 0, none⟩)) (.agg (blkM 0 0 0 0 0 0 0 (.slice none 0 0)))) (wr.drewN nd)).andThen _) = _; rw [(HRun.out nd).1]; try rfl)); intro w5 hw5; have HC5 := Aside0.mk (hw5 ▸ (HRun.out nd).2 : w5.heap[w.heap.size]? = some (.cells (blkM 0 0 0 0 0 0 0 (.slice none 0 0)) 29 (0, 0))); have HB5 := Aside0.mk (show Below w.heap.size w w5 by rw [hw5]; exact below_cells (pw_below_drewN HB.out nd) (Nat.le_refl _) _); clear hw5))
        have d0 := blk_cell HC5.out 0
        have d1 := blk_cell HC5.out 1
        have d2 := blk_cell HC5.out 2
        have d3 := blk_cell HC5.out 3
        have d4 := blk_cell HC5.out 4
        have d5 := blk_cell HC5.out 5
        have d6 := blk_cell HC5.out 6
        have d7 := blk_cell HC5.out 7
        simp only [blkM, List.getElem?_toArray, List.getElem?_cons_zero, List.getElem?_cons_succ] at d0 d1 d2 d3 d4 d5 d6 d7
        refine bodyPost_ret (v := .tuple #[.agg (blkM 0 0 0 0 0 0 0 (.slice none 0 0)), .int .i64 30]) ?_ rfl ⟨0, 0, 0, 0, 0, 0, 0, [], 30, ⟨by rw [HG.out]; exact hst.out⟩, _, rfl, Kd.R_nil _ _ _ _ _, HB5.out⟩
        simp [results, Try.results33, go_sem, blkM, d0, d1, d2, d3, d4, d5, d6, d7]
      · have hStep := Aside0.mk (show withN a (getNs (4 + 1) sk) = withN (a ++ [x]) (getNs 4 sn) by
          have := getNs_step a 4 sk (by rw [hgn])
          rw [hgn] at this
          exact this)
        have c2 := blk_cell HC2.out 2
        have f2 := blk_frozen HC2.out 2
        simp only [blkM, List.getElem?_toArray, List.getElem?_cons_zero, List.getElem?_cons_succ] at c2
        clear hgn
        go_wp2_with (first | ((with_reducible refine gate_dst (N := 16) rfl ?_); refine Kd.event_run (v := .pointer (some ⟨w.heap.size + 1, 2, none⟩)) (w1 := wr) rfl ?hx ?_; (case hx => kernel_rfl)) | (go_at_call 64; (with_reducible refine (HN.out _).mono ?_); rintro e w4 ⟨rfl, ⟨nd, rfl⟩⟩))
        go_roundw
        case measure => simp [intOf]
        case rel =>
        refine ⟨3, a ++ [x], sn, n0, n1, x, n3, n4, n5, n6, by omega, by go_num, rfl, ⟨by rw [HG.out]; exact hStep.out⟩, ⟨by rw [HA.out]; rfl⟩, ⟨blk_set (blk_drewN HC2.out nd) 2 (.int .i64 x)⟩, ⟨blk_far (blk_drewN HC1.out nd) (by show w.heap.size ≠ w.heap.size + 1; omega) _⟩, ⟨(pw_below_drewN HB.out nd).setCell (p := ⟨w.heap.size + 1, 2, none⟩) (by show w.heap.size ≤ w.heap.size + 1; omega) _⟩⟩
    · obtain ⟨x, sn, ok, hgn⟩ : ∃ x sn ok, getNum sk = (x, sn, ok) := ⟨_, _, _, rfl⟩
      have HN := Aside0.mk (fun W => codec_GetNumber.calls sk x sn ok W (by unfold codec_GetNumber.f; rw [hgn]))
      cases ok
      · have hst := Aside0.mk (getM_no (getNs_stop a 3 sk (by rw [hgn])))
        obtain ⟨hrun, hblk⟩ := store_msg HC1.out rfl 0 0 0 0 0 0 0 (.slice none 0 0) rfl
        have HRun := Aside0.mk (fun n => (store_msg (W := wr.drewN n) (blk_drewN HC1.out n) rfl 0 0 0 0 0 0 0 (.slice none 0 0) rfl))
        clear hgn hrun hblk
        go_wp2_with (first | ((with_reducible refine gate_dst (N := 16) rfl ?_); refine Kd.event_run (v := .pointer (some ⟨w.heap.size + 1, 3, none⟩)) (w1 := wr) rfl ?hx ?_; (case hx => kernel_rfl)) | (go_at_call 64; (with_reducible refine (HN.out _).mono ?_); rintro e w4 ⟨rfl, ⟨nd, rfl⟩⟩) | ((with_reducible refine gate_store (t := 29) (p := 2) rfl ?_); refine store_event (t := 29) (p := 2) (w1 := (wr.drewN nd).setCells w.heap.size 0 (blkM 0 0 0 0 0 0 0 (.slice none 0 0)).toList) rfl rfl rfl ?hr ?_; (case hr => (unfold execOp; simp only [Act.eval, Sem.run_bind, Sem.run_pure, Result.andThen_ok]; show ((Sem.run Try.prog (Instr.storeAt 29 (.pointer (some ⟨w.heap.size, 0, none⟩)) (.agg (blkM 0 0 0 0 0 0 0 (.slice none 0 0)))) (wr.drewN nd)).andThen _) = _; rw [(HRun.out nd).1]; try rfl)); intro w5 hw5; have HC5 := Aside0.mk (hw5 ▸ (HRun.out nd).2 : w5.heap[w.heap.size]? = some (.cells (blkM 0 0 0 0 0 0 0 (.slice none 0 0)) 29 (0, 0))); have HB5 := Aside0.mk (show Below w.heap.size w w5 by rw [hw5]; exact below_cells (pw_below_drewN HB.out nd) (Nat.le_refl _) _); clear hw5))
        have d0 := blk_cell HC5.out 0
        have d1 := blk_cell HC5.out 1
        have d2 := blk_cell HC5.out 2
        have d3 := blk_cell HC5.out 3
        have d4 := blk_cell HC5.out 4
        have d5 := blk_cell HC5.out 5
        have d6 := blk_cell HC5.out 6
        have d7 := blk_cell HC5.out 7
        simp only [blkM, List.getElem?_toArray, List.getElem?_cons_zero, List.getElem?_cons_succ] at d0 d1 d2 d3 d4 d5 d6 d7
        refine bodyPost_ret (v := .tuple #[.agg (blkM 0 0 0 0 0 0 0 (.slice none 0 0)), .int .i64 30]) ?_ rfl ⟨0, 0, 0, 0, 0, 0, 0, [], 30, ⟨by rw [HG.out]; exact hst.out⟩, _, rfl, Kd.R_nil _ _ _ _ _, HB5.out⟩
        simp [results, Try.results33, go_sem, blkM, d0, d1, d2, d3, d4, d5, d6, d7]
      · have hStep := Aside0.mk (show withN a (getNs (3 + 1) sk) = withN (a ++ [x]) (getNs 3 sn) by
          have := getNs_step a 3 sk (by rw [hgn])
          rw [hgn] at this
          exact this)
        have c2 := blk_cell HC2.out 3
        have f2 := blk_frozen HC2.out 3
        simp only [blkM, List.getElem?_toArray, List.getElem?_cons_zero, List.getElem?_cons_succ] at c2
        clear hgn
        go_wp2_with (first | ((with_reducible refine gate_dst (N := 16) rfl ?_); refine Kd.event_run (v := .pointer (some ⟨w.heap.size + 1, 3, none⟩)) (w1 := wr) rfl ?hx ?_; (case hx => kernel_rfl)) | (go_at_call 64; (with_reducible refine (HN.out _).mono ?_); rintro e w4 ⟨rfl, ⟨nd, rfl⟩⟩))
        go_roundw
        case measure => simp [intOf]
        case rel =>
        refine ⟨4, a ++ [x], sn, n0, n1, n2, x, n4, n5, n6, by omega, by go_num, rfl, ⟨by rw [HG.out]; exact hStep.out⟩, ⟨by rw [HA.out]; rfl⟩, ⟨blk_set (blk_drewN HC2.out nd) 3 (.int .i64 x)⟩, ⟨blk_far (blk_drewN HC1.out nd) (by show w.heap.size ≠ w.heap.size + 1; omega) _⟩, ⟨(pw_below_drewN HB.out nd).setCell (p := ⟨w.heap.size + 1, 3, none⟩) (by show w.heap.size ≤ w.heap.size + 1; omega) _⟩⟩
    · obtain ⟨x, sn, ok, hgn⟩ : ∃ x sn ok, getNum sk = (x, sn, ok) := ⟨_, _, _, rfl⟩
      have HN := Aside0.mk (fun W => codec_GetNumber.calls sk x sn ok W (by unfold codec_GetNumber.f; rw [hgn]))
      cases ok
      · have hst := Aside0.mk (getM_no (getNs_stop a 2 sk (by rw [hgn])))
        obtain ⟨hrun, hblk⟩ := store_msg HC1.out rfl 0 0 0 0 0 0 0 (.slice none 0 0) rfl
        have HRun := Aside0.mk (fun n => (store_msg (W := wr.drewN n) (blk_drewN HC1.out n) rfl 0 0 0 0 0 0 0 (.slice none 0 0) rfl))
        clear hgn hrun hblk
        go_wp2_with (first | ((with_reducible refine gate_dst (N := 16) rfl ?_); refine Kd.event_run (v := .pointer (some ⟨w.heap.size + 1, 4, none⟩)) (w1 := wr) rfl ?hx ?_; (case hx => kernel_rfl)) | (go_at_call 64; (with_reducible refine (HN.out _).mono ?_); rintro e w4 ⟨rfl, ⟨nd, rfl⟩⟩) | ((with_reducible refine gate_store (t := 29) (p := 2) rfl ?_); refine store_event (t := 29) (p := 2) (w1 := (wr.drewN nd).setCells w.heap.size 0 (blkM 0 0 0 0 0 0 0 (.slice none 0 0)).toList) rfl rfl rfl ?hr ?_; (case hr => (unfold execOp; simp only [Act.eval, Sem.run_bind, Sem.run_pure, Result.andThen_ok]; show ((Sem.run Try.prog (Instr.storeAt 29 (.pointer (some ⟨w.heap.size, 0, none⟩)) (.agg (blkM 0 0 0 0 0 0 0 (.slice none 0 0)))) (wr.drewN nd)).andThen _) = _; rw [(HRun.out nd).1]; try rfl)); intro w5 hw5; have HC5 := Aside0.mk (hw5 ▸ (HRun.out nd).2 : w5.heap[w.heap.size]? = some (.cells (blkM 0 0 0 0 0 0 0 (.slice none 0 0)) 29 (0, 0))); have HB5 := Aside0.mk (show Below w.heap.size w w5 by rw [hw5]; exact below_cells (pw_below_drewN HB.out nd) (Nat.le_refl _) _); clear hw5))
        have d0 := blk_cell HC5.out 0
        have d1 := blk_cell HC5.out 1
        have d2 := blk_cell HC5.out 2
        have d3 := blk_cell HC5.out 3
        have d4 := blk_cell HC5.out 4
        have d5 := blk_cell HC5.out 5
        have d6 := blk_cell HC5.out 6
        have d7 := blk_cell HC5.out 7
        simp only [blkM, List.getElem?_toArray, List.getElem?_cons_zero, List.getElem?_cons_succ] at d0 d1 d2 d3 d4 d5 d6 d7
        refine bodyPost_ret (v := .tuple #[.agg (blkM 0 0 0 0 0 0 0 (.slice none 0 0)), .int .i64 30]) ?_ rfl ⟨0, 0, 0, 0, 0, 0, 0, [], 30, ⟨by rw [HG.out]; exact hst.out⟩, _, rfl, Kd.R_nil _ _ _ _ _, HB5.out⟩
        simp [results, Try.results33, go_sem, blkM, d0, d1, d2, d3, d4, d5, d6, d7]
      · have hStep := Aside0.mk (show withN a (getNs (2 + 1) sk) = withN (a ++ [x]) (getNs 2 sn) by
          have := getNs_step a 2 sk (by rw [hgn])
          rw [hgn] at this
          exact this)
        have c2 := blk_cell HC2.out 4
        have f2 := blk_frozen HC2.out 4
        simp only [blkM, List.getElem?_toArray, List.getElem?_cons_zero, List.getElem?_cons_succ] at c2
        clear hgn
        go_wp2_with (first | ((with_reducible refine gate_dst (N := 16) rfl ?_); refine Kd.event_run (v := .pointer (some ⟨w.heap.size + 1, 4, none⟩)) (w1 := wr) rfl ?hx ?_; (case hx => kernel_rfl)) | (go_at_call 64; (with_reducible refine (HN.out _).mono ?_); rintro e w4 ⟨rfl, ⟨nd, rfl⟩⟩))
        go_roundw
        case measure => simp [intOf]
        case rel =>
        refine ⟨5, a ++ [x], sn, n0, n1, n2, n3, x, n5, n6, by omega, by go_num, rfl, ⟨by rw [HG.out]; exact hStep.out⟩, ⟨by rw [HA.out]; rfl⟩, ⟨blk_set (blk_drewN HC2.out nd) 4 (.int .i64 x)⟩, ⟨blk_far (blk_drewN HC1.out nd) (by show w.heap.size ≠ w.heap.size + 1; omega) _⟩, ⟨(pw_below_drewN HB.out nd).setCell (p := ⟨w.heap.size + 1, 4, none⟩) (by show w.heap.size ≤ w.heap.size + 1; omega) _⟩⟩
    · obtain ⟨x, sn, ok, hgn⟩ : ∃ x sn ok, getNum sk = (x, sn, ok) := ⟨_, _, _, rfl⟩
      have HN := Aside0.mk (fun W => codec_GetNumber.calls sk x sn ok W (by unfold codec_GetNumber.f; rw [hgn]))
      cases ok
      · have hst := Aside0.mk (getM_no (getNs_stop a 1 sk (by rw [hgn])))
        obtain ⟨hrun, hblk⟩ := store_msg HC1.out rfl 0 0 0 0 0 0 0 (.slice none 0 0) rfl
        have HRun := Aside0.mk (fun n => (store_msg (W := wr.drewN n) (blk_drewN HC1.out n) rfl 0 0 0 0 0 0 0 (.slice none 0 0) rfl))
        clear hgn hrun hblk
        go_wp2_with (first | ((with_reducible refine gate_dst (N := 16) rfl ?_); refine Kd.event_run (v := .pointer (some ⟨w.heap.size + 1, 5, none⟩)) (w1 := wr) rfl ?hx ?_; (case hx => kernel_rfl)) | (go_at_call 64; (with_reducible refine (HN.out _).mono ?_); rintro e w4 ⟨rfl, ⟨nd, rfl⟩⟩) | ((with_reducible refine gate_store (t := 29) (p := 2) rfl ?_); refine store_event (t := 29) (p := 2) (w1 := (wr.drewN nd).setCells w.heap.size 0 (blkM 0 0 0 0 0 0 0 (.slice none 0 0)).toList) rfl rfl rfl ?hr ?_; (case hr => (unfold execOp; simp only [Act.eval, Sem.run_bind, Sem.run_pure, Result.andThen_ok]; show ((Sem.run Try.prog (Instr.storeAt 29 (.pointer (some ⟨w.heap.size, 0, none⟩)) (.agg (blkM 0 0 0 0 0 0 0 (.slice none 0 0)))) (wr.drewN nd)).andThen _) = _; rw [(HRun.out nd).1]; try rfl)); intro w5 hw5; have HC5 := Aside0.mk (hw5 ▸ (HRun.out nd).2 : w5.heap[w.heap.size]? = some (.cells (blkM 0 0 0 0 0 0 0 (.slice none 0 0)) 29 (0, 0))); have HB5 := Aside0.mk (show Below w.heap.size w w5 by rw [hw5]; exact below_cells (pw_below_drewN HB.out nd) (Nat.le_refl _) _); clear hw5))
        have d0 := blk_cell HC5.out 0
        have d1 := blk_cell HC5.out 1
        have d2 := blk_cell HC5.out 2
        have d3 := blk_cell HC5.out 3
        have d4 := blk_cell HC5.out 4
        have d5 := blk_cell HC5.out 5
        have d6 := blk_cell HC5.out 6
        have d7 := blk_cell HC5.out 7
        simp only [blkM, List.getElem?_toArray, List.getElem?_cons_zero, List.getElem?_cons_succ] at d0 d1 d2 d3 d4 d5 d6 d7
        refine bodyPost_ret (v := .tuple #[.agg (blkM 0 0 0 0 0 0 0 (.slice none 0 0)), .int .i64 30]) ?_ rfl ⟨0, 0, 0, 0, 0, 0, 0, [], 30, ⟨by rw [HG.out]; exact hst.out⟩, _, rfl, Kd.R_nil _ _ _ _ _, HB5.out⟩
        simp [results, Try.results33, go_sem, blkM, d0, d1, d2, d3, d4, d5, d6, d7]
      · have hStep := Aside0.mk (show withN a (getNs (1 + 1) sk) = withN (a ++ [x]) (getNs 1 sn) by
          have := getNs_step a 1 sk (by rw [hgn])
          rw [hgn] at this
          exact this)
        have c2 := blk_cell HC2.out 5
        have f2 := blk_frozen HC2.out 5
        simp only [blkM, List.getElem?_toArray, List.getElem?_cons_zero, List.getElem?_cons_succ] at c2
        clear hgn
        go_wp2_with (first | ((with_reducible refine gate_dst (N := 16) rfl ?_); refine Kd.event_run (v := .pointer (some ⟨w.heap.size + 1, 5, none⟩)) (w1 := wr) rfl ?hx ?_; (case hx => kernel_rfl)) | (go_at_call 64; (with_reducible refine (HN.out _).mono ?_); rintro e w4 ⟨rfl, ⟨nd, rfl⟩⟩))
        go_roundw
        case measure => simp [intOf]
        case rel =>
        refine ⟨6, a ++ [x], sn, n0, n1, n2, n3, n4, x, n6, by omega, by go_num, rfl, ⟨by rw [HG.out]; exact hStep.out⟩, ⟨by rw [HA.out]; rfl⟩, ⟨blk_set (blk_drewN HC2.out nd) 5 (.int .i64 x)⟩, ⟨blk_far (blk_drewN HC1.out nd) (by show w.heap.size ≠ w.heap.size + 1; omega) _⟩, ⟨(pw_below_drewN HB.out nd).setCell (p := ⟨w.heap.size + 1, 5, none⟩) (by show w.heap.size ≤ w.heap.size + 1; omega) _⟩⟩
    · obtain ⟨x, sn, ok, hgn⟩ : ∃ x sn ok, getNum sk = (x, sn, ok) := ⟨_, _, _, rfl⟩
      have HN := Aside0.mk (fun W => codec_GetNumber.calls sk x sn ok W (by unfold codec_GetNumber.f; rw [hgn]))
      cases ok
      · have hst := Aside0.mk (getM_no (getNs_stop a 0 sk (by rw [hgn])))
        obtain ⟨hrun, hblk⟩ := store_msg HC1.out rfl 0 0 0 0 0 0 0 (.slice none 0 0) rfl
        have HRun := Aside0.mk (fun n => (store_msg (W := wr.drewN n) (blk_drewN HC1.out n) rfl 0 0 0 0 0 0 0 (.slice none 0 0) rfl))
        clear hgn hrun hblk
        go_wp2_with (first | ((with_reducible refine gate_dst (N := 16) rfl ?_); refine Kd.event_run (v := .pointer (some ⟨w.heap.size + 1, 6, none⟩)) (w1 := wr) rfl ?hx ?_; (case hx => kernel_rfl)) | (go_at_call 64; (with_reducible refine (HN.out _).mono ?_); rintro e w4 ⟨rfl, ⟨nd, rfl⟩⟩) | ((with_reducible refine gate_store (t := 29) (p := 2) rfl ?_); refine store_event (t := 29) (p := 2) (w1 := (wr.drewN nd).setCells w.heap.size 0 (blkM 0 0 0 0 0 0 0 (.slice none 0 0)).toList) rfl rfl rfl ?hr ?_; (case hr => (unfold execOp; simp only [Act.eval, Sem.run_bind, Sem.run_pure, Result.andThen_ok]; show ((Sem.run Try.prog (Instr.storeAt 29 (.pointer (some ⟨w.heap.size, 0, none⟩)) (.agg (blkM 0 0 0 0 0 0 0 (.slice none 0 0)))) (wr.drewN nd)).andThen _) = _; rw [(HRun.out nd).1]; try rfl)); intro w5 hw5; have HC5 := Aside0.mk (hw5 ▸ (HRun.out nd).2 : w5.heap[w.heap.size]? = some (.cells (blkM 0 0 0 0 0 0 0 (.slice none 0 0)) 29 (0, 0))); have HB5 := Aside0.mk (show Below w.heap.size w w5 by rw [hw5]; exact below_cells (pw_below_drewN HB.out nd) (Nat.le_refl _) _); clear hw5))
        have d0 := blk_cell HC5.out 0
        have d1 := blk_cell HC5.out 1
        have d2 := blk_cell HC5.out 2
        have d3 := blk_cell HC5.out 3
        have d4 := blk_cell HC5.out 4
        have d5 := blk_cell HC5.out 5
        have d6 := blk_cell HC5.out 6
        have d7 := blk_cell HC5.out 7
        simp only [blkM, List.getElem?_toArray, List.getElem?_cons_zero, List.getElem?_cons_succ] at d0 d1 d2 d3 d4 d5 d6 d7
        refine bodyPost_ret (v := .tuple #[.agg (blkM 0 0 0 0 0 0 0 (.slice none 0 0)), .int .i64 30]) ?_ rfl ⟨0, 0, 0, 0, 0, 0, 0, [], 30, ⟨by rw [HG.out]; exact hst.out⟩, _, rfl, Kd.R_nil _ _ _ _ _, HB5.out⟩
        simp [results, Try.results33, go_sem, blkM, d0, d1, d2, d3, d4, d5, d6, d7]
      · have hStep := Aside0.mk (show withN a (getNs (0 + 1) sk) = withN (a ++ [x]) (getNs 0 sn) by
          have := getNs_step a 0 sk (by rw [hgn])
          rw [hgn] at this
          exact this)
        have c2 := blk_cell HC2.out 6
        have f2 := blk_frozen HC2.out 6
        simp only [blkM, List.getElem?_toArray, List.getElem?_cons_zero, List.getElem?_cons_succ] at c2
        clear hgn
        go_wp2_with (first | ((with_reducible refine gate_dst (N := 16) rfl ?_); refine Kd.event_run (v := .pointer (some ⟨w.heap.size + 1, 6, none⟩)) (w1 := wr) rfl ?hx ?_; (case hx => kernel_rfl)) | (go_at_call 64; (with_reducible refine (HN.out _).mono ?_); rintro e w4 ⟨rfl, ⟨nd, rfl⟩⟩))
        go_roundw
        case measure => simp [intOf]
        case rel =>
        refine ⟨7, a ++ [x], sn, n0, n1, n2, n3, n4, n5, x, by omega, by go_num, rfl, ⟨by rw [HG.out]; exact hStep.out⟩, ⟨by rw [HA.out]; rfl⟩, ⟨blk_set (blk_drewN HC2.out nd) 6 (.int .i64 x)⟩, ⟨blk_far (blk_drewN HC1.out nd) (by show w.heap.size ≠ w.heap.size + 1; omega) _⟩, ⟨(pw_below_drewN HB.out nd).setCell (p := ⟨w.heap.size + 1, 6, none⟩) (by show w.heap.size ≤ w.heap.size + 1; omega) _⟩⟩
    · obtain ⟨l, rest, ok, hgr⟩ : ∃ l rest ok, getRow sk = (l, rest, ok) := ⟨_, _, _, rfl⟩
      have HGR := Aside0.mk (fun W => codec_GetRow.calls sk l rest ok W (by unfold codec_GetRow.f; rw [hgr]))
      have HM := Aside0.mk (show getM (getNs 7 s) = (if ok = true ∧ rest = ⟨#[]⟩ ∧ isB n0 n1 n2 n3 n4 n5 n6 l = true then (n0, n1, n2, n3, n4, n5, n6, l, 0) else (0, 0, 0, 0, 0, 0, 0, [], 30)) by
        rw [HG.out, HA.out]
        show getM ([n0, n1, n2, n3, n4, n5, n6] ++ [], sk, true) = _
        rw [List.append_nil]
        unfold getM
        simp only [hgr])
      clear hgr HG HA
      cases ok
      · have HRes := Aside0.mk (show getM (getNs 7 s) = (0, 0, 0, 0, 0, 0, 0, [], 30) by rw [HM.out, if_neg (by simp)])
        clear HM
        go_wp2_with (first | (go_at_call 65; (with_reducible refine (HGR.out _).mono ?_); rintro e w4 ⟨v0, rfl, hR4, hb4⟩; obtain ⟨A8, c8, rfl⟩ := Kd.R_slice hR4; have HR4 := Aside0.mk (Kd.R_lower hR4 HB.out.size); have HB4 := Aside0.mk (HB.out.trans (hb4.mono HB.out.size)); have HC14 := Aside0.mk (blk_below HC1.out hb4); have HC24 := Aside0.mk (blk_below HC2.out hb4); clear hR4 hb4; have c7 := blk_cell HC24.out 7; have f7 := blk_frozen HC24.out 7; simp only [blkM, List.getElem?_toArray, List.getElem?_cons_zero, List.getElem?_cons_succ] at c7; have HC15 := Aside0.mk (blk_far HC14.out (p := ⟨w.heap.size + 1, 7, none⟩) (by show w.heap.size ≠ w.heap.size + 1; omega) (.slice A8 l.length c8)); have HC25 := Aside0.mk (show (w4.setCell ⟨w.heap.size + 1, 7, none⟩ (.slice A8 l.length c8)).heap[w.heap.size + 1]? = some (.cells (blkM n0 n1 n2 n3 n4 n5 n6 (.slice A8 l.length c8)) 29 (0, 0)) from blk_set HC24.out 7 (.slice A8 l.length c8)); have HB5 := Aside0.mk (HB4.out.setCell (p := ⟨w.heap.size + 1, 7, none⟩) (by show w.heap.size ≤ w.heap.size + 1; omega) (.slice A8 l.length c8)); have HR5 := Aside0.mk (Kd.R_set HR4.out HC24.out (by intro q hq; simp [Kd.string, Kd.scalar] at hq; subst hq; decide) 7 (.slice A8 l.length c8)); clear HR4 HC14) | ((with_reducible refine gate_store (t := 29) (p := 2) rfl ?_); refine store_event (t := 29) (p := 2) (w1 := (w4.setCell ⟨w.heap.size + 1, 7, none⟩ (.slice A8 l.length c8)).setCells w.heap.size 0 (blkM 0 0 0 0 0 0 0 (.slice none 0 0)).toList) rfl rfl rfl ?hr ?_; (case hr => (unfold execOp; simp only [Act.eval, Sem.run_bind, Sem.run_pure, Result.andThen_ok]; show ((Sem.run Try.prog (Instr.storeAt 29 (.pointer (some ⟨w.heap.size, 0, none⟩)) (.agg (blkM 0 0 0 0 0 0 0 (.slice none 0 0)))) (w4.setCell ⟨w.heap.size + 1, 7, none⟩ (.slice A8 l.length c8))).andThen _) = _; rw [(store_msg HC15.out rfl 0 0 0 0 0 0 0 (.slice none 0 0) rfl).1]; try rfl)); intro w9 hw9; have HC9 := Aside0.mk (hw9 ▸ (store_msg HC15.out rfl 0 0 0 0 0 0 0 (.slice none 0 0) rfl).2 : w9.heap[w.heap.size]? = some (.cells (blkM 0 0 0 0 0 0 0 (.slice none 0 0)) 29 (0, 0))); have HB9 := Aside0.mk (show Below w.heap.size w w9 by rw [hw9]; exact below_cells HB5.out (Nat.le_refl _) _); clear hw9))
        have d0 := blk_cell HC9.out 0
        have d1 := blk_cell HC9.out 1
        have d2 := blk_cell HC9.out 2
        have d3 := blk_cell HC9.out 3
        have d4 := blk_cell HC9.out 4
        have d5 := blk_cell HC9.out 5
        have d6 := blk_cell HC9.out 6
        have d7 := blk_cell HC9.out 7
        simp only [blkM, List.getElem?_toArray, List.getElem?_cons_zero, List.getElem?_cons_succ] at d0 d1 d2 d3 d4 d5 d6 d7
        refine bodyPost_ret (v := .tuple #[.agg (blkM 0 0 0 0 0 0 0 (.slice none 0 0)), .int .i64 30]) ?_ rfl ⟨0, 0, 0, 0, 0, 0, 0, [], 30, ⟨HRes.out⟩, _, rfl, Kd.R_nil _ _ _ _ _, HB9.out⟩
        simp [results, Try.results33, go_sem, blkM, d0, d1, d2, d3, d4, d5, d6, d7]
      · by_cases hre : rest = ⟨#[]⟩
        · subst hre
          cases hib : isB n0 n1 n2 n3 n4 n5 n6 l
          · have HRes := Aside0.mk (show getM (getNs 7 s) = (0, 0, 0, 0, 0, 0, 0, [], 30) by rw [HM.out, if_neg (by rw [hib]; simp)])
            have HIB := Aside0.mk hib
            clear HM hib
            go_wp2_with (first | (go_at_call 65; (with_reducible refine (HGR.out _).mono ?_); rintro e w4 ⟨v0, rfl, hR4, hb4⟩; obtain ⟨A8, c8, rfl⟩ := Kd.R_slice hR4; have HR4 := Aside0.mk (Kd.R_lower hR4 HB.out.size); have HB4 := Aside0.mk (HB.out.trans (hb4.mono HB.out.size)); have HC14 := Aside0.mk (blk_below HC1.out hb4); have HC24 := Aside0.mk (blk_below HC2.out hb4); clear hR4 hb4; have c7 := blk_cell HC24.out 7; have f7 := blk_frozen HC24.out 7; simp only [blkM, List.getElem?_toArray, List.getElem?_cons_zero, List.getElem?_cons_succ] at c7; have HC15 := Aside0.mk (blk_far HC14.out (p := ⟨w.heap.size + 1, 7, none⟩) (by show w.heap.size ≠ w.heap.size + 1; omega) (.slice A8 l.length c8)); have HC25 := Aside0.mk (show (w4.setCell ⟨w.heap.size + 1, 7, none⟩ (.slice A8 l.length c8)).heap[w.heap.size + 1]? = some (.cells (blkM n0 n1 n2 n3 n4 n5 n6 (.slice A8 l.length c8)) 29 (0, 0)) from blk_set HC24.out 7 (.slice A8 l.length c8)); have HB5 := Aside0.mk (HB4.out.setCell (p := ⟨w.heap.size + 1, 7, none⟩) (by show w.heap.size ≤ w.heap.size + 1; omega) (.slice A8 l.length c8)); have HR5 := Aside0.mk (Kd.R_set HR4.out HC24.out (by intro q hq; simp [Kd.string, Kd.scalar] at hq; subst hq; decide) 7 (.slice A8 l.length c8)); clear HR4 HC14; have g0 := blk_cell HC25.out 0; have g1 := blk_cell HC25.out 1; have g2 := blk_cell HC25.out 2; have g3 := blk_cell HC25.out 3; have g4 := blk_cell HC25.out 4; have g5 := blk_cell HC25.out 5; have g6 := blk_cell HC25.out 6; have g7 := blk_cell HC25.out 7; simp only [blkM, List.getElem?_toArray, List.getElem?_cons_zero, List.getElem?_cons_succ] at g0 g1 g2 g3 g4 g5 g6 g7) | (go_at_call 36; (with_reducible refine (msg_Is.calls 1 n0 n1 n2 n3 n4 n5 n6 A8 c8 l false _ (Kd.R_reads' HR5.out).2.2 (Kd.R_reads' HR5.out).2.1 (by rw [msg_is_f 0, HIB.out])).mono ?_); rintro e w6 ⟨rfl, hb6⟩; have HC16 := Aside0.mk (blk_below HC15.out hb6); have HC26 := Aside0.mk (blk_below HC25.out hb6); have HB6 := Aside0.mk (HB5.out.trans (hb6.mono HB5.out.size)); have HR6 := Aside0.mk (Kd.R_below HR5.out hb6); clear hb6 g0 g1 g2 g3 g4 g5 g6 g7; have g0 := blk_cell HC26.out 0; have g1 := blk_cell HC26.out 1; have g2 := blk_cell HC26.out 2; have g3 := blk_cell HC26.out 3; have g4 := blk_cell HC26.out 4; have g5 := blk_cell HC26.out 5; have g6 := blk_cell HC26.out 6; have g7 := blk_cell HC26.out 7; simp only [blkM, List.getElem?_toArray, List.getElem?_cons_zero, List.getElem?_cons_succ] at g0 g1 g2 g3 g4 g5 g6 g7) | ((with_reducible refine gate_store (t := 29) (p := 2) rfl ?_); refine store_event (t := 29) (p := 2) (w1 := w6.setCells w.heap.size 0 (blkM 0 0 0 0 0 0 0 (.slice none 0 0)).toList) rfl rfl rfl ?hr ?_; (case hr => (unfold execOp; simp only [Act.eval, Sem.run_bind, Sem.run_pure, Result.andThen_ok]; show ((Sem.run Try.prog (Instr.storeAt 29 (.pointer (some ⟨w.heap.size, 0, none⟩)) (.agg (blkM 0 0 0 0 0 0 0 (.slice none 0 0)))) w6).andThen _) = _; rw [(store_msg HC16.out rfl 0 0 0 0 0 0 0 (.slice none 0 0) rfl).1]; try rfl)); intro w9 hw9; have HC9 := Aside0.mk (hw9 ▸ (store_msg HC16.out rfl 0 0 0 0 0 0 0 (.slice none 0 0) rfl).2 : w9.heap[w.heap.size]? = some (.cells (blkM 0 0 0 0 0 0 0 (.slice none 0 0)) 29 (0, 0))); have HB9 := Aside0.mk (show Below w.heap.size w w9 by rw [hw9]; exact below_cells HB6.out (Nat.le_refl _) _); clear hw9))
            have d0 := blk_cell HC9.out 0
            have d1 := blk_cell HC9.out 1
            have d2 := blk_cell HC9.out 2
            have d3 := blk_cell HC9.out 3
            have d4 := blk_cell HC9.out 4
            have d5 := blk_cell HC9.out 5
            have d6 := blk_cell HC9.out 6
            have d7 := blk_cell HC9.out 7
            simp only [blkM, List.getElem?_toArray, List.getElem?_cons_zero, List.getElem?_cons_succ] at d0 d1 d2 d3 d4 d5 d6 d7
            refine bodyPost_ret (v := .tuple #[.agg (blkM 0 0 0 0 0 0 0 (.slice none 0 0)), .int .i64 30]) ?_ rfl ⟨0, 0, 0, 0, 0, 0, 0, [], 30, ⟨HRes.out⟩, _, rfl, Kd.R_nil _ _ _ _ _, HB9.out⟩
            simp [results, Try.results33, go_sem, blkM, d0, d1, d2, d3, d4, d5, d6, d7]
          · have HRes := Aside0.mk (show getM (getNs 7 s) = (n0, n1, n2, n3, n4, n5, n6, l, 0) by rw [HM.out, if_pos ⟨rfl, rfl, hib⟩])
            have HIB := Aside0.mk hib
            clear HM hib
            go_wp2_with (first | (go_at_call 65; (with_reducible refine (HGR.out _).mono ?_); rintro e w4 ⟨v0, rfl, hR4, hb4⟩; obtain ⟨A8, c8, rfl⟩ := Kd.R_slice hR4; have HR4 := Aside0.mk (Kd.R_lower hR4 HB.out.size); have HB4 := Aside0.mk (HB.out.trans (hb4.mono HB.out.size)); have HC14 := Aside0.mk (blk_below HC1.out hb4); have HC24 := Aside0.mk (blk_below HC2.out hb4); clear hR4 hb4; have c7 := blk_cell HC24.out 7; have f7 := blk_frozen HC24.out 7; simp only [blkM, List.getElem?_toArray, List.getElem?_cons_zero, List.getElem?_cons_succ] at c7; have HC15 := Aside0.mk (blk_far HC14.out (p := ⟨w.heap.size + 1, 7, none⟩) (by show w.heap.size ≠ w.heap.size + 1; omega) (.slice A8 l.length c8)); have HC25 := Aside0.mk (show (w4.setCell ⟨w.heap.size + 1, 7, none⟩ (.slice A8 l.length c8)).heap[w.heap.size + 1]? = some (.cells (blkM n0 n1 n2 n3 n4 n5 n6 (.slice A8 l.length c8)) 29 (0, 0)) from blk_set HC24.out 7 (.slice A8 l.length c8)); have HB5 := Aside0.mk (HB4.out.setCell (p := ⟨w.heap.size + 1, 7, none⟩) (by show w.heap.size ≤ w.heap.size + 1; omega) (.slice A8 l.length c8)); have HR5 := Aside0.mk (Kd.R_set HR4.out HC24.out (by intro q hq; simp [Kd.string, Kd.scalar] at hq; subst hq; decide) 7 (.slice A8 l.length c8)); clear HR4 HC14; have g0 := blk_cell HC25.out 0; have g1 := blk_cell HC25.out 1; have g2 := blk_cell HC25.out 2; have g3 := blk_cell HC25.out 3; have g4 := blk_cell HC25.out 4; have g5 := blk_cell HC25.out 5; have g6 := blk_cell HC25.out 6; have g7 := blk_cell HC25.out 7; simp only [blkM, List.getElem?_toArray, List.getElem?_cons_zero, List.getElem?_cons_succ] at g0 g1 g2 g3 g4 g5 g6 g7) | (go_at_call 36; (with_reducible refine (msg_Is.calls 1 n0 n1 n2 n3 n4 n5 n6 A8 c8 l true _ (Kd.R_reads' HR5.out).2.2 (Kd.R_reads' HR5.out).2.1 (by rw [msg_is_f 0, HIB.out])).mono ?_); rintro e w6 ⟨rfl, hb6⟩; have HC16 := Aside0.mk (blk_below HC15.out hb6); have HC26 := Aside0.mk (blk_below HC25.out hb6); have HB6 := Aside0.mk (HB5.out.trans (hb6.mono HB5.out.size)); have HR6 := Aside0.mk (Kd.R_below HR5.out hb6); clear hb6 g0 g1 g2 g3 g4 g5 g6 g7; have g0 := blk_cell HC26.out 0; have g1 := blk_cell HC26.out 1; have g2 := blk_cell HC26.out 2; have g3 := blk_cell HC26.out 3; have g4 := blk_cell HC26.out 4; have g5 := blk_cell HC26.out 5; have g6 := blk_cell HC26.out 6; have g7 := blk_cell HC26.out 7; simp only [blkM, List.getElem?_toArray, List.getElem?_cons_zero, List.getElem?_cons_succ] at g0 g1 g2 g3 g4 g5 g6 g7) | ((with_reducible refine gate_store (t := 29) (p := 2) rfl ?_); refine store_event (t := 29) (p := 2) (w1 := w6.setCells w.heap.size 0 (blkM n0 n1 n2 n3 n4 n5 n6 (.slice A8 l.length c8)).toList) rfl rfl rfl ?hr ?_; (case hr => (unfold execOp; simp only [Act.eval, Sem.run_bind, Sem.run_pure, Result.andThen_ok]; show ((Sem.run Try.prog (Instr.storeAt 29 (.pointer (some ⟨w.heap.size, 0, none⟩)) (.agg (blkM n0 n1 n2 n3 n4 n5 n6 (.slice A8 l.length c8)))) w6).andThen _) = _; rw [(store_msg HC16.out rfl n0 n1 n2 n3 n4 n5 n6 (.slice A8 l.length c8) rfl).1]; try rfl)); intro w9 hw9; have HC9 := Aside0.mk (hw9 ▸ (store_msg HC16.out rfl n0 n1 n2 n3 n4 n5 n6 (.slice A8 l.length c8) rfl).2 : w9.heap[w.heap.size]? = some (.cells (blkM n0 n1 n2 n3 n4 n5 n6 (.slice A8 l.length c8)) 29 (0, 0))); have HB9 := Aside0.mk (show Below w.heap.size w w9 by rw [hw9]; exact below_cells HB6.out (Nat.le_refl _) _); have HR9 := Aside0.mk (show Kd.R Kd.string 9 w9 w.heap.size (fun _ => True) (.slice A8 l.length c8) l by rw [hw9]; exact R_cells HR6.out HC16.out (by intro q hq; simp [Kd.string, Kd.scalar] at hq; subst hq; decide) _); clear hw9))
            have d0 := blk_cell HC9.out 0
            have d1 := blk_cell HC9.out 1
            have d2 := blk_cell HC9.out 2
            have d3 := blk_cell HC9.out 3
            have d4 := blk_cell HC9.out 4
            have d5 := blk_cell HC9.out 5
            have d6 := blk_cell HC9.out 6
            have d7 := blk_cell HC9.out 7
            simp only [blkM, List.getElem?_toArray, List.getElem?_cons_zero, List.getElem?_cons_succ] at d0 d1 d2 d3 d4 d5 d6 d7
            refine bodyPost_ret (v := .tuple #[.agg (blkM n0 n1 n2 n3 n4 n5 n6 (.slice A8 l.length c8)), .int .i64 0]) ?_ rfl ⟨n0, n1, n2, n3, n4, n5, n6, l, 0, ⟨HRes.out⟩, _, rfl, HR9.out, HB9.out⟩
            simp [results, Try.results33, go_sem, blkM, d0, d1, d2, d3, d4, d5, d6, d7]
        · have HRes := Aside0.mk (show getM (getNs 7 s) = (0, 0, 0, 0, 0, 0, 0, [], 30) by rw [HM.out, if_neg (by intro h; exact hre h.2.1)])
          have hr1 : rest.toList.isEmpty = false := by
            rw [List.isEmpty_eq_false_iff]; intro h; apply hre; rw [ByteArray.toList_eq] at h; exact ByteArray.ext (Array.toList_inj.1 h)
          have hr2 : (rest.toList == []) = false := by
            rw [beq_eq_false_iff_ne]; intro h; rw [h] at hr1; cases hr1
          clear HM hre
          go_wp2_with (first | (go_at_call 65; (with_reducible refine (HGR.out _).mono ?_); rintro e w4 ⟨v0, rfl, hR4, hb4⟩; obtain ⟨A8, c8, rfl⟩ := Kd.R_slice hR4; have HR4 := Aside0.mk (Kd.R_lower hR4 HB.out.size); have HB4 := Aside0.mk (HB.out.trans (hb4.mono HB.out.size)); have HC14 := Aside0.mk (blk_below HC1.out hb4); have HC24 := Aside0.mk (blk_below HC2.out hb4); clear hR4 hb4; have c7 := blk_cell HC24.out 7; have f7 := blk_frozen HC24.out 7; simp only [blkM, List.getElem?_toArray, List.getElem?_cons_zero, List.getElem?_cons_succ] at c7; have HC15 := Aside0.mk (blk_far HC14.out (p := ⟨w.heap.size + 1, 7, none⟩) (by show w.heap.size ≠ w.heap.size + 1; omega) (.slice A8 l.length c8)); have HC25 := Aside0.mk (show (w4.setCell ⟨w.heap.size + 1, 7, none⟩ (.slice A8 l.length c8)).heap[w.heap.size + 1]? = some (.cells (blkM n0 n1 n2 n3 n4 n5 n6 (.slice A8 l.length c8)) 29 (0, 0)) from blk_set HC24.out 7 (.slice A8 l.length c8)); have HB5 := Aside0.mk (HB4.out.setCell (p := ⟨w.heap.size + 1, 7, none⟩) (by show w.heap.size ≤ w.heap.size + 1; omega) (.slice A8 l.length c8)); have HR5 := Aside0.mk (Kd.R_set HR4.out HC24.out (by intro q hq; simp [Kd.string, Kd.scalar] at hq; subst hq; decide) 7 (.slice A8 l.length c8)); clear HR4 HC14) | ((with_reducible refine gate_store (t := 29) (p := 2) rfl ?_); refine store_event (t := 29) (p := 2) (w1 := (w4.setCell ⟨w.heap.size + 1, 7, none⟩ (.slice A8 l.length c8)).setCells w.heap.size 0 (blkM 0 0 0 0 0 0 0 (.slice none 0 0)).toList) rfl rfl rfl ?hr ?_; (case hr => (unfold execOp; simp only [Act.eval, Sem.run_bind, Sem.run_pure, Result.andThen_ok]; show ((Sem.run Try.prog (Instr.storeAt 29 (.pointer (some ⟨w.heap.size, 0, none⟩)) (.agg (blkM 0 0 0 0 0 0 0 (.slice none 0 0)))) (w4.setCell ⟨w.heap.size + 1, 7, none⟩ (.slice A8 l.length c8))).andThen _) = _; rw [(store_msg HC15.out rfl 0 0 0 0 0 0 0 (.slice none 0 0) rfl).1]; try rfl)); intro w9 hw9; have HC9 := Aside0.mk (hw9 ▸ (store_msg HC15.out rfl 0 0 0 0 0 0 0 (.slice none 0 0) rfl).2 : w9.heap[w.heap.size]? = some (.cells (blkM 0 0 0 0 0 0 0 (.slice none 0 0)) 29 (0, 0))); have HB9 := Aside0.mk (show Below w.heap.size w w9 by rw [hw9]; exact below_cells HB5.out (Nat.le_refl _) _); clear hw9))
          have d0 := blk_cell HC9.out 0
          have d1 := blk_cell HC9.out 1
          have d2 := blk_cell HC9.out 2
          have d3 := blk_cell HC9.out 3
          have d4 := blk_cell HC9.out 4
          have d5 := blk_cell HC9.out 5
          have d6 := blk_cell HC9.out 6
          have d7 := blk_cell HC9.out 7
          simp only [blkM, List.getElem?_toArray, List.getElem?_cons_zero, List.getElem?_cons_succ] at d0 d1 d2 d3 d4 d5 d6 d7
          refine bodyPost_ret (v := .tuple #[.agg (blkM 0 0 0 0 0 0 0 (.slice none 0 0)), .int .i64 30]) ?_ rfl ⟨0, 0, 0, 0, 0, 0, 0, [], 30, ⟨HRes.out⟩, _, rfl, Kd.R_nil _ _ _ _ _, HB9.out⟩
          simp [results, Try.results33, go_sem, blkM, d0, d1, d2, d3, d4, d5, d6, d7]
theorem msg_Get.calls (a0 : ByteArray) (r1 r2 r3 r4 r5 r6 r7 : Int) (r8 : List ByteArray) (r9 : Int) (w : World) (h : msg_Get.f a0 = some (r1, r2, r3, r4, r5, r6, r7, r8, r9)) :
    Calls Try.prog 33 #[.string a0] w fun e w' => ∃ v7_ : Value, e = .returned (.tuple #[.agg #[.int .i64 r1, .int .i64 r2, .int .i64 r3, .int .i64 r4, .int .i64 r5, .int .i64 r6, .int .i64 r7, v7_], .int .i64 r9]) ∧ Kd.R Kd.string 9 w' w.heap.size (fun _ => True) v7_ r8 ∧ Below w.heap.size w w' := by
  have hg := Option.some.inj h
  refine (msg_Get_any a0 w).mono ?_
  rintro e w' ⟨s1, s2, s3, s4, s5, s6, s7, s8, s9, hs, v, rfl, hR, hB⟩
  have := hs.out.symm.trans hg
  simp only [Prod.mk.injEq] at this
  obtain ⟨rfl, rfl, rfl, rfl, rfl, rfl, rfl, rfl, rfl⟩ := this
  exact ⟨v, rfl, hR, hB⟩
end Go.Proofs.Ytfejidinfcmfjaa.P
