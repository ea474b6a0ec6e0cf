/-
  Texts that the claims of this chapter share, joined.
-/
import Derived.OwnWalk
import Derived.LoopTactic
import Derived.WalkLawsBesides
import Derived.Defers
import Derived.Recover
import Derived.StillTactics
import Derived.Deep.RegionWith
import Derived.Test.YtfdpebipnapelaaC12a
import Derived.Test.YtfdpebipnapelaaShelf
import Derived.Test.YtfdpebipnapelaaWMore
import Derived.Test.YtfdpebipnapelaaPx0
import Derived.Test.YtfdpebipnapelaaWNEv
/-
  meta.Get, by hand.
-/
namespace Go.Proofs.Ytfdpebipnapelaa.P
open Go.RowKit Go.Proofs Go.Proofs.CodecPlain Go.Proofs.YtfdpebipnapelaaW.PrintWords Go.Proofs.YtfdpebipnapelaaW.PrintLast

attribute [local go_sem] zero_meta zero_errno
set_option maxHeartbeats 8000000 in
set_option maxRecDepth 100000 in
theorem meta_Get_any (s : ByteArray) (w : World) :
    Calls Try.prog 16 #[.string s] w (GetPost (metaG (readNs 3 s)) w) := by
  obtain ⟨x1, s1, ok1, hg1⟩ : ∃ x s' ok, getNum s = (x, s', ok) := ⟨_, _, _, rfl⟩
  have hmf : ∀ (fn : Fn) (first cap : Array Value) (w : World), (Instr.makeFunc fn first cap).run Try.prog w = .ok (.func fn first cap) w := fun _ _ _ _ => rfl
  have HE0 : Aside0 ((((w.alloc (.cells #[.int .i64 0, .int .i64 0, .slice none 0 0] 24)).alloc (.cells #[.int .i64 0] 27)).alloc (.cells #[.string s] 71)).heap[w.heap.size]? = some (.cells (blkE 0 0 (.slice none 0 0)) 24 (0, 0))) := ⟨blk_alloc (blk_alloc (blk_new w (.cells #[.int .i64 0, .int .i64 0, .slice none 0 0] 24)) (.cells #[.int .i64 0] 27)) (.cells #[.string s] 71)⟩
  have hq := blk_alloc (blk_new (w.alloc (.cells #[.int .i64 0, .int .i64 0, .slice none 0 0] 24)) (.cells #[.int .i64 0] 27)) (.cells #[.string s] 71)
  rw [World.size_alloc] at hq
  have HX0 := Aside0.mk hq
  have hr := blk_new ((w.alloc (.cells #[.int .i64 0, .int .i64 0, .slice none 0 0] 24)).alloc (.cells #[.int .i64 0] 27)) (.cells #[.string s] 71)
  rw [World.size_alloc, World.size_alloc] at hr
  have HR0 := Aside0.mk hr
  have HB0 := Aside0.mk ((((Below.refl w.heap.size w).alloc (Nat.le_refl _) (.cells #[.int .i64 0, .int .i64 0, .slice none 0 0] 24)).alloc (by simp) (.cells #[.int .i64 0] 27)).alloc (by simp; omega) (.cells #[.string s] 71))
  clear hq hr
  cases ok1
  · have HG1 := Aside0.mk hg1
    clear hg1
    go_enter_defers Try.func16, Try.ntmps16
    go_wp2_with (first | (go_at_call 48; (with_reducible refine (number_no (w.heap.size + 1 + 1) s x1 s1 _ HR0.out HG1.out).mono ?_); rintro e w1 ⟨rfl, n, rfl⟩))
    have hst : Aside0 (metaG (readNs 3 s) = (0, 0, [], 30)) := ⟨metaG_no (by simp only [readNs, HG1.out]; rfl)⟩
    exact door_panics _ w _ 0 0 (.slice none 0 0) 0 _ hst rfl rfl ⟨blk_drewN HE0.out n⟩ ⟨blk_drewN HX0.out n⟩ ⟨pw_below_drewN HB0.out n⟩
  · obtain ⟨x2, s2, ok2, hg2⟩ : ∃ x s' ok, getNum s1 = (x, s', ok) := ⟨_, _, _, rfl⟩
    have HG1 := Aside0.mk hg1
    have HG2 := Aside0.mk hg2
    clear hg1 hg2
    cases ok2
    · go_enter_defers Try.func16, Try.ntmps16
      go_wp2_with (first | (go_at_call 48; (with_reducible refine (number_reads (w.heap.size + 1 + 1) s x1 s1 _ ?hb HG1.out).mono ?_); (case hb => exact HR0.out); rintro e w1 ⟨rfl, HO⟩; have HR1 := Aside0.mk HO.out.here; have HX1 := Aside0.mk (HO.out.blk HX0.out (by omega)); have HE1 := Aside0.mk (HO.out.blk HE0.out (by omega)); have HB1 := Aside0.mk (HO.out.keeps _ _ (by omega) HB0.out); clear HO; have e1 := blk_cell HE1.out 0; have f1 := blk_frozen HE1.out 0; have HF1 := Aside0.mk (blk_set HE1.out 0 (.int .i64 x1))) | (go_at_call 48; (with_reducible refine (number_no (w.heap.size + 1 + 1) s1 x2 s2 _ ?hb HG2.out).mono ?_); (case hb => exact (blk_far HR1.out (by show w.heap.size + 1 + 1 ≠ w.heap.size; omega) _)); rintro e w2 ⟨rfl, n, rfl⟩))
      have hst : Aside0 (metaG (readNs 3 s) = (0, 0, [], 30)) := ⟨metaG_no (by simp only [readNs, HG1.out, HG2.out]; rfl)⟩
      exact door_panics _ w _ x1 0 (.slice none 0 0) 0 _ hst rfl rfl ⟨blk_drewN HF1.out n⟩ ⟨blk_drewN (blk_far HX1.out (by show w.heap.size + 1 ≠ w.heap.size; omega) _) n⟩ ⟨pw_below_drewN (HB1.out.setCell (p := ⟨w.heap.size, 0, none⟩) (Nat.le_refl _) _) n⟩
    · obtain ⟨x3, s3, ok3, hg3⟩ : ∃ x s' ok, getNum s2 = (x, s', ok) := ⟨_, _, _, rfl⟩
      have HG3 := Aside0.mk hg3
      clear hg3
      cases ok3
      · go_enter_defers Try.func16, Try.ntmps16
        go_wp2_with (first | (go_at_call 48; (with_reducible refine (number_reads (w.heap.size + 1 + 1) s x1 s1 _ ?hb HG1.out).mono ?_); (case hb => exact HR0.out); rintro e w1 ⟨rfl, HO⟩; have HR1 := Aside0.mk HO.out.here; have HX1 := Aside0.mk (HO.out.blk HX0.out (by omega)); have HE1 := Aside0.mk (HO.out.blk HE0.out (by omega)); have HB1 := Aside0.mk (HO.out.keeps _ _ (by omega) HB0.out); clear HO; have e1 := blk_cell HE1.out 0; have f1 := blk_frozen HE1.out 0; have HF1 := Aside0.mk (blk_set HE1.out 0 (.int .i64 x1))) | (go_at_call 48; (with_reducible refine (number_reads (w.heap.size + 1 + 1) s1 x2 s2 _ ?hb HG2.out).mono ?_); (case hb => exact (blk_far HR1.out (by show w.heap.size + 1 + 1 ≠ w.heap.size; omega) _)); rintro e w2 ⟨rfl, HO⟩; have HR2 := Aside0.mk HO.out.here; have HX2 := Aside0.mk (HO.out.blk (blk_far HX1.out (by show w.heap.size + 1 ≠ w.heap.size; omega) _) (by omega)); have HE2 := Aside0.mk (HO.out.blk HF1.out (by omega)); have HB2 := Aside0.mk (HO.out.keeps _ _ (by omega) (HB1.out.setCell (p := ⟨w.heap.size, 0, none⟩) (Nat.le_refl _) _)); clear HO; have e2 := blk_cell HE2.out 1; have f2 := blk_frozen HE2.out 1; have HF2 := Aside0.mk (blk_set HE2.out 1 (.int .i64 x2))) | (go_at_call 48; (with_reducible refine (number_no (w.heap.size + 1 + 1) s2 x3 s3 _ ?hb HG3.out).mono ?_); (case hb => exact (blk_far HR2.out (by show w.heap.size + 1 + 1 ≠ w.heap.size; omega) _)); rintro e w3 ⟨rfl, n, rfl⟩))
        have hst : Aside0 (metaG (readNs 3 s) = (0, 0, [], 30)) := ⟨metaG_no (by simp only [readNs, HG1.out, HG2.out, HG3.out]; rfl)⟩
        exact door_panics _ w _ x1 x2 (.slice none 0 0) 0 _ hst rfl rfl ⟨blk_drewN HF2.out n⟩ ⟨blk_drewN (blk_far HX2.out (by show w.heap.size + 1 ≠ w.heap.size; omega) _) n⟩ ⟨pw_below_drewN (HB2.out.setCell (p := ⟨w.heap.size, 1, none⟩) (Nat.le_refl _) _) n⟩
      · have HS : Aside0 (metaG (readNs 3 s) = if x3 ≤ 16 then metaG2 x1 x2 (readNs x3.toNat s3) else (0, 0, [], 30)) := ⟨by simp only [readNs, HG1.out, HG2.out, HG3.out]; rfl⟩
        have hx3 := getNum_bd s2
        rw [HG3.out] at hx3
        simp only at hx3
        obtain ⟨hx30, hx31⟩ := hx3
        by_cases h16 : x3 ≤ 16
        · rw [if_pos h16] at HS
          have h16b : decide (16 < x3) = false := decide_eq_false (by omega)
          exact meta_Get_yes s s1 s2 s3 x1 x2 x3 w HG1 HG2 HG3 _ HS hx30 h16
        · rw [if_neg h16] at HS
          have h16b : decide (16 < x3) = true := decide_eq_true (by omega)
          go_enter_defers Try.func16, Try.ntmps16
          go_wp2_with (first | (go_at_call 48; (with_reducible refine (number_reads (w.heap.size + 1 + 1) s x1 s1 _ ?hb HG1.out).mono ?_); (case hb => exact HR0.out); rintro e w1 ⟨rfl, HO⟩; have HR1 := Aside0.mk HO.out.here; have HX1 := Aside0.mk (HO.out.blk HX0.out (by omega)); have HE1 := Aside0.mk (HO.out.blk HE0.out (by omega)); have HB1 := Aside0.mk (HO.out.keeps _ _ (by omega) HB0.out); clear HO; have e1 := blk_cell HE1.out 0; have f1 := blk_frozen HE1.out 0; have HF1 := Aside0.mk (blk_set HE1.out 0 (.int .i64 x1))) | (go_at_call 48; (with_reducible refine (number_reads (w.heap.size + 1 + 1) s1 x2 s2 _ ?hb HG2.out).mono ?_); (case hb => exact (blk_far HR1.out (by show w.heap.size + 1 + 1 ≠ w.heap.size; omega) _)); rintro e w2 ⟨rfl, HO⟩; have HR2 := Aside0.mk HO.out.here; have HX2 := Aside0.mk (HO.out.blk (blk_far HX1.out (by show w.heap.size + 1 ≠ w.heap.size; omega) _) (by omega)); have HE2 := Aside0.mk (HO.out.blk HF1.out (by omega)); have HB2 := Aside0.mk (HO.out.keeps _ _ (by omega) (HB1.out.setCell (p := ⟨w.heap.size, 0, none⟩) (Nat.le_refl _) _)); clear HO; have e2 := blk_cell HE2.out 1; have f2 := blk_frozen HE2.out 1; have HF2 := Aside0.mk (blk_set HE2.out 1 (.int .i64 x2))) | (go_at_call 48; (with_reducible refine (number_reads (w.heap.size + 1 + 1) s2 x3 s3 _ ?hb HG3.out).mono ?_); (case hb => exact (blk_far HR2.out (by show w.heap.size + 1 + 1 ≠ w.heap.size; omega) _)); rintro e w3 ⟨rfl, HO⟩; have HR3 := Aside0.mk HO.out.here; have HX3 := Aside0.mk (HO.out.blk (blk_far HX2.out (by show w.heap.size + 1 ≠ w.heap.size; omega) _) (by omega)); have HE3 := Aside0.mk (HO.out.blk HF2.out (by omega)); have HB3 := Aside0.mk (HO.out.keeps _ _ (by omega) (HB2.out.setCell (p := ⟨w.heap.size, 1, none⟩) (Nat.le_refl _) _)); clear HO))
          exact door_panics _ w _ x1 x2 (.slice none 0 0) 0 _ HS rfl rfl HE3 HX3 HB3
theorem meta_Get.calls (a0 : ByteArray) (r1 : Int) (r2 : Int) (r3 : List Int) (r4 : Int) (w : World) (h : meta_Get.f a0 = some (r1, r2, r3, r4)) :
    Calls Try.prog 16 #[.string a0] w fun e w' => ∃ v2_ : Value, e = .returned (.tuple #[.agg #[.int .i64 r1, .int .i64 r2, v2_], .int .i64 r4]) ∧ Kd.R (Kd.int .i64) 3 w' w.heap.size (fun _ => True) v2_ r3 ∧ Below w.heap.size w w' := by
  have hg := Option.some.inj h
  refine (meta_Get_any a0 w).mono ?_
  rintro e w' ⟨s1, s2, s3, s4, hs, v, rfl, hR, hB⟩
  have := hs.symm.trans hg
  simp only [Prod.mk.injEq] at this
  obtain ⟨rfl, rfl, rfl, rfl⟩ := this
  exact ⟨v, rfl, hR, hB⟩
end Go.Proofs.Ytfdpebipnapelaa.P
/-
  strings.CutPrefix, out of the shelf's contract.
-/
namespace Go.Proofs.Ytfdpebipnapelaa.P
open Go.RowKit Go.Shelf Go.Proofs Go.Proofs.YtfdpebipnapelaaW.PrintWords Go.Proofs.YtfdpebipnapelaaW.PrintLast

/-- What strings.CutPrefix answers. -/
def strings_CutPrefix.f (s p : ByteArray) : Option (ByteArray × Bool) := some (⟨(Lib.trimPrefix s.data.toList p.data.toList).toArray⟩, Lib.hasPrefix s.data.toList p.data.toList)
theorem strings_CutPrefix.calls (a0 a1 : ByteArray) (r1 : ByteArray) (r2 : Bool) (w : World) (h : strings_CutPrefix.f a0 a1 = some (r1, r2)) :
    Calls Try.prog 50 #[.string a0, .string a1] w fun e w' => e = .returned (.tuple #[.string r1, .bool r2]) ∧ Below w.heap.size w w' := by
  unfold strings_CutPrefix.f at h
  simp only [Option.some.injEq, Prod.mk.injEq] at h
  obtain ⟨rfl, rfl⟩ := h
  refine (Try.strings_CutPrefix a0 a1 w).mono ?_
  rintro e w' ⟨rfl, rfl⟩
  exact ⟨rfl, Below.refl _ _⟩
end Go.Proofs.Ytfdpebipnapelaa.P
-- Written by a program of this session (xprint.py) over the kit's print.py.
namespace Go.Proofs.Ytfdpebipnapelaa.P
open Go.RowKit Go.Proofs.YtfdpebipnapelaaW.PrintWords Go.Proofs.YtfdpebipnapelaaW.PrintLast Go.Proofs.YtfdpebipnapelaaW.PrintMore
attribute [local go_sem] max2_int min2_int max_two min_two max_three min_three max_four min_four   -- for this text's walks alone
set_option linter.unusedVariables false
set_option linter.unusedSimpArgs false

/-! ### meta_Read: function 20 -/
def meta_Read.f (a0 : ByteArray) : Option (Int × Int × List Int × Bool × Int) := if a0.toList = ([0] : List UInt8) then (some (0, 0, ([] : List Int), true, 0)) else ((strings_CutPrefix.f a0 (⟨#[1]⟩ : ByteArray)).bind fun bt148 => (if bt148.2 = true then ((meta_Get.f bt148.1).bind fun bt150 => (some (bt150.1, bt150.2.1, bt150.2.2.1, false, bt150.2.2.2))) else (some (0, 0, ([] : List Int), false, 30))))
set_option maxHeartbeats 8000000 in
set_option maxRecDepth 100000 in
theorem meta_Read.calls (a0 : ByteArray) (r1 : Int) (r2 : Int) (r3 : List Int) (r4 : Bool) (r5 : Int) (w : World) (h : meta_Read.f a0 = some (r1, r2, r3, r4, r5)) :
    Calls Try.prog 20 #[.string a0] w fun e w' => ∃ v2_ : Value, e = .returned (.tuple #[.agg #[.int .i64 r1, .int .i64 r2, v2_], .bool r4, .int .i64 r5]) ∧ Kd.R (Kd.int .i64) 3 w' w.heap.size (fun _ => True) v2_ r3 ∧ Below w.heap.size w w' := by
  have hu24 := Try.underlying24
  have HB := Aside0.mk (Below.refl w.heap.size w)
  have H : (if a0.toList = ([0] : List UInt8) then (some (0, 0, ([] : List Int), true, 0)) else ((strings_CutPrefix.f a0 (⟨#[1]⟩ : ByteArray)).bind fun bt148 => (if bt148.2 = true then ((meta_Get.f bt148.1).bind fun bt150 => (some (bt150.1, bt150.2.1, bt150.2.2.1, false, bt150.2.2.2))) else (some (0, 0, ([] : List Int), false, 30))))) = some (r1, r2, r3, r4, r5) := h
  clear h
  by_cases c2 : a0.toList = ([0] : List UInt8)
  · rw [if_pos c2] at H
    have c2b0 : (a0.toList == ([0] : List UInt8)) = true := beq_iff_eq.mpr c2
    have c2b1 : (a0.toList != ([0] : List UInt8)) = false := bne_eq_false_iff_eq.mpr c2
    clear c2
    simp only [Option.some.injEq, Prod.mk.injEq] at H
    obtain ⟨rfl, rfl, rfl, rfl, rfl⟩ := H
    go_enter Try.func20, Try.ntmps20
    go_wp2_with (first | ((with_reducible refine gate_dst (N := 2) rfl ?_); refine box_event ?hg (N := 2) ?hd (cs := #[.int .i64 0, .int .i64 0, .slice none 0 0]) (t := 24) ?hr ?_; (case hd => rfl); (case hg => rfl); (case hr => first | (go_simp; done) | (go_simp; rfl)); intro gb147 hg w3 hbox hb; have n0_ := Aside0.mk (below_step (by repeat (first | (with_reducible first | exact HB.out | apply below_alloc | apply pw_below_drewN | apply below_drew1) | exact HB.out)) hb); have n1_ := Aside0.mk (hbox); have n2_ := Aside0.mk ((by rw [hg]; exact (below_size (by repeat (first | (with_reducible first | exact HB.out | apply below_alloc | apply pw_below_drewN | apply below_drew1) | exact HB.out))) : w.heap.size ≤ gb147)); have n3_ := Aside0.mk ((by rw [hg]; exact (below_size (by repeat (first | (with_reducible first | exact HB.out | apply below_alloc | apply pw_below_drewN | apply below_drew1) | exact HB.out))) : w.heap.size ≤ gb147)); clear HB; have HB := n0_; have BK147 := n1_; have GW147 := n2_; have GE147 := n3_; clear n0_ n1_ n2_ n3_; clear hb hbox hg; have hcz4_0 : w3.cell? ⟨gb147, 0, none⟩ = some (.int .i64 0) := (blk_cell BK147.out 0).trans rfl; have hcz4_1 : w3.cell? ⟨gb147, 1, none⟩ = some (.int .i64 0) := (blk_cell BK147.out 1).trans rfl; have hcz4_2 : w3.cell? ⟨gb147, 2, none⟩ = some (.slice none 0 0) := (blk_cell BK147.out 2).trans rfl; have hfz4_0 := blk_frozen BK147.out 0; have hfz4_1 := blk_frozen BK147.out 1; have hfz4_2 := blk_frozen BK147.out 2))
    refine bodyPost_ret (results_ctt rfl _ _ gb147 24 #[.int .i64 0, .int .i64 0, .slice none 0 0] (0, 0) _ rfl (by (with_reducible repeat (first | refine blk_drewN ?_ _ | refine blk_drew ?_ | refine blk_alloc ?_ _)); refine blk_put (cs := #[.int .i64 0, .int .i64 0, .slice none 0 0]) ?_ 2 _ rfl; (with_reducible repeat (first | refine blk_drewN ?_ _ | refine blk_drew ?_ | refine blk_alloc ?_ _)); refine blk_put (cs := #[.int .i64 0, .int .i64 0, .slice none 0 0]) ?_ 1 _ rfl; (with_reducible repeat (first | refine blk_drewN ?_ _ | refine blk_drew ?_ | refine blk_alloc ?_ _)); refine blk_put (cs := #[.int .i64 0, .int .i64 0, .slice none 0 0]) ?_ 0 _ rfl; (with_reducible repeat (first | refine blk_drewN ?_ _ | refine blk_drew ?_ | refine blk_alloc ?_ _)); exact BK147.out) Try.underlying24 rfl (by kernel_rfl)) rfl ?_
    exact ⟨_, by first | rfl | (simp [errW_none, errW_some] <;> rfl) | (simp [*, errW_none, errW_some] <;> rfl), by first | exact Kd.R_nil _ _ _ _ _ | exact Kd.N_nil _ _ _ _ _ | exact Kd.V_nil _ _ _ _ _ | exact Kd.Q_nil _ _ _ _ _ | exact Kd.S_nil _ _ _ _ _, by repeat (first | (with_reducible first | exact HB.out | apply below_alloc | apply pw_below_drewN | apply below_drew1 | refine below_set ?_ GE147.out) | exact HB.out)⟩
  · rw [if_neg c2] at H
    have c2b0 : (a0.toList == ([0] : List UInt8)) = false := beq_eq_false_iff_ne.mpr c2
    have c2b1 : (a0.toList != ([0] : List UInt8)) = true := bne_iff_ne.mpr c2
    replace H := Option.bind_eq_some_iff.mp H
    obtain ⟨⟨t148, t149⟩, A50, H⟩ := H
    replace H : (if t149 = true then ((meta_Get.f t148).bind fun bt150 => (some (bt150.1, bt150.2.1, bt150.2.2.1, false, bt150.2.2.2))) else (some (0, 0, ([] : List Int), false, 30))) = some (r1, r2, r3, r4, r5) := H
    have A5 := Aside0.mk A50
    clear A50
    by_cases c6 : t149 = true
    · subst c6
      have H1 : ((meta_Get.f t148).bind fun bt150 => (some (bt150.1, bt150.2.1, bt150.2.2.1, false, bt150.2.2.2))) = some (r1, r2, r3, r4, r5) := by rw [if_pos rfl] at H; exact H
      clear H
      have H := H1
      clear H1
      replace H := Option.bind_eq_some_iff.mp H
      obtain ⟨⟨t150, t151, t152, t155⟩, A70, H⟩ := H
      replace H : (some (t150, t151, t152, false, t155)) = some (r1, r2, r3, r4, r5) := H
      have A7 := Aside0.mk A70
      clear A70
      simp only [Option.some.injEq, Prod.mk.injEq] at H
      obtain ⟨rfl, rfl, rfl, rfl, rfl⟩ := H
      go_enter Try.func20, Try.ntmps20
      go_wp2_with (first | ((with_reducible refine gate_dst (N := 2) rfl ?_); refine box_event ?hg (N := 2) ?hd (cs := #[.int .i64 0, .int .i64 0, .slice none 0 0]) (t := 24) ?hr ?_; (case hd => rfl); (case hg => rfl); (case hr => first | (go_simp; done) | (go_simp; rfl)); intro gb147 hg w8 hbox hb; have n0_ := Aside0.mk (below_step (by repeat (first | (with_reducible first | exact HB.out | apply below_alloc | apply pw_below_drewN | apply below_drew1) | exact HB.out)) hb); have n1_ := Aside0.mk (hbox); have n2_ := Aside0.mk ((by rw [hg]; exact (below_size (by repeat (first | (with_reducible first | exact HB.out | apply below_alloc | apply pw_below_drewN | apply below_drew1) | exact HB.out))) : w.heap.size ≤ gb147)); have n3_ := Aside0.mk ((by rw [hg]; exact (below_size (by repeat (first | (with_reducible first | exact HB.out | apply below_alloc | apply pw_below_drewN | apply below_drew1) | exact HB.out))) : w.heap.size ≤ gb147)); clear HB; have HB := n0_; have BK147 := n1_; have GW147 := n2_; have GE147 := n3_; clear n0_ n1_ n2_ n3_; clear hb hbox hg) | ((with_reducible refine gate_callee (f := 50) rfl ?_); refine goesL_ (some 14) rfl rfl Try.func50 (by kernel_rfl) rfl #[.string a0, .string (⟨#[1]⟩ : ByteArray)] rfl (by (try simp only [List.map_toArray, List.map_cons, List.map_nil]); first | done | rfl | (simp only [List.length_drop, List.length_take]; rfl)) ?_; (with_reducible refine (strings_CutPrefix.calls a0 (⟨#[1]⟩ : ByteArray) t148 true _ A5.out).mono ?_); rintro e w9 ⟨rfl, hb⟩; refine ⟨_, rfl, ?_⟩; have n0_ := Aside0.mk (blk_below (g := gb147) (o := .cells #[.int .i64 0, .int .i64 0, .slice none 0 0] 24 (0, 0)) (by (with_reducible repeat (first | refine blk_drewN ?_ _ | refine blk_drew ?_ | refine blk_alloc ?_ _)); exact BK147.out) hb); have n1_ := Aside0.mk (below_step (by repeat (first | (with_reducible first | exact HB.out | apply below_alloc | apply pw_below_drewN | apply below_drew1 | refine below_set ?_ GE147.out) | exact HB.out)) hb); clear BK147; clear HB; have BK147 := n0_; have HB := n1_; clear n0_ n1_; (try clear hb); (try clear hb2); (try clear hk); (try clear hi)) | ((with_reducible refine gate_callee (f := 16) rfl ?_); refine goesL_ (some 22) rfl rfl Try.func16 (by kernel_rfl) rfl #[.string t148] rfl (by (try simp only [List.map_toArray, List.map_cons, List.map_nil]); first | done | rfl | (simp only [List.length_drop, List.length_take]; rfl)) ?_; (with_reducible refine (meta_Get.calls t148 t150 t151 t152 t155 _ A7.out).mono ?_); rintro e w10 ⟨v153, rfl, ho0, hb⟩; refine ⟨_, rfl, ?_⟩; have n0_ := Aside0.mk (Kd.R_lower ho0 (below_size (by repeat (first | (with_reducible first | exact HB.out | apply below_alloc | apply pw_below_drewN | apply below_drew1 | refine below_set ?_ GE147.out) | exact HB.out)))); have n1_ := Aside0.mk (blk_below (g := gb147) (o := .cells #[.int .i64 0, .int .i64 0, .slice none 0 0] 24 (0, 0)) (by (with_reducible repeat (first | refine blk_drewN ?_ _ | refine blk_drew ?_ | refine blk_alloc ?_ _)); exact BK147.out) hb); have n2_ := Aside0.mk (below_step (by repeat (first | (with_reducible first | exact HB.out | apply below_alloc | apply pw_below_drewN | apply below_drew1 | refine below_set ?_ GE147.out) | exact HB.out)) hb); clear BK147; clear HB; have HO154 := n0_; have BK147 := n1_; have HB := n2_; clear n0_ n1_ n2_; (try clear hb); (try clear hb2); (try clear hk); (try clear hi); (try clear ho0)) | ((with_reducible refine gate_dst (N := 7) rfl ?_); refine box_event ?hg (N := 7) ?hd (cs := #[.int .i64 0, .int .i64 0, .slice none 0 0]) (t := 24) ?hr ?_; (case hd => rfl); (case hg => rfl); (case hr => first | (go_simp; done) | (go_simp; rfl)); intro gb156 hg w11 hbox hb; have n0_ := Aside0.mk (Kd.R_below (by (with_reducible repeat (first | apply Kd.R_alloc | apply Kd.R_drewN | apply Kd.R_drew)); exact HO154.out) hb); have n1_ := Aside0.mk (blk_below (g := gb147) (o := .cells #[.int .i64 0, .int .i64 0, .slice none 0 0] 24 (0, 0)) (by (with_reducible repeat (first | refine blk_drewN ?_ _ | refine blk_drew ?_ | refine blk_alloc ?_ _)); exact BK147.out) hb); have n2_ := Aside0.mk (below_step (by repeat (first | (with_reducible first | exact HB.out | apply below_alloc | apply pw_below_drewN | apply below_drew1 | refine below_set ?_ GE147.out) | exact HB.out)) hb); have n3_ := Aside0.mk (hbox); have n4_ := Aside0.mk ((by rw [hg]; exact (below_size (by repeat (first | (with_reducible first | exact HB.out | apply below_alloc | apply pw_below_drewN | apply below_drew1 | refine below_set ?_ GE147.out) | exact HB.out))) : w.heap.size ≤ gb156)); have n5_ := Aside0.mk ((by rw [hg]; exact (below_size (by repeat (first | (with_reducible first | exact HB.out | apply below_alloc | apply pw_below_drewN | apply below_drew1 | refine below_set ?_ GE147.out) | exact HB.out))) : w.heap.size ≤ gb156)); have n6_ := Aside0.mk ((by rw [hg]; exact Nat.ne_of_lt (blk_lt (g := gb147) (o := .cells #[.int .i64 0, .int .i64 0, .slice none 0 0] 24 (0, 0)) (by (with_reducible repeat (first | refine blk_drewN ?_ _ | refine blk_drew ?_ | refine blk_alloc ?_ _)); exact BK147.out)) : gb147 ≠ gb156)); have n7_ := Aside0.mk ((by rw [hg]; exact Nat.ne_of_gt (blk_lt (g := gb147) (o := .cells #[.int .i64 0, .int .i64 0, .slice none 0 0] 24 (0, 0)) (by (with_reducible repeat (first | refine blk_drewN ?_ _ | refine blk_drew ?_ | refine blk_alloc ?_ _)); exact BK147.out)) : gb156 ≠ gb147)); clear HO154; clear BK147; clear HB; have HO154 := n0_; have BK147 := n1_; have HB := n2_; have BK156 := n3_; have GW156 := n4_; have GE156 := n5_; have NB147_156 := n6_; have NB156_147 := n7_; clear n0_ n1_ n2_ n3_ n4_ n5_ n6_ n7_; clear hb hbox hg; have hnb12 := NB156_147.out; have hnc12 := NB147_156.out; have hcz13_0 : w11.cell? ⟨gb156, 0, none⟩ = some (.int .i64 0) := (blk_cell BK156.out 0).trans rfl; have hcz13_1 : w11.cell? ⟨gb156, 1, none⟩ = some (.int .i64 0) := (blk_cell BK156.out 1).trans rfl; have hcz13_2 : w11.cell? ⟨gb156, 2, none⟩ = some (.slice none 0 0) := (blk_cell BK156.out 2).trans rfl; have hfz13_0 := blk_frozen BK156.out 0; have hfz13_1 := blk_frozen BK156.out 1; have hfz13_2 := blk_frozen BK156.out 2; obtain ⟨Ao14, co14, eo14⟩ := Kd.R_slice HO154.out; subst eo14; have hcz15_0 : w11.cell? ⟨gb147, 0, none⟩ = some (.int .i64 0) := (blk_cell BK147.out 0).trans rfl; have hcz15_1 : w11.cell? ⟨gb147, 1, none⟩ = some (.int .i64 0) := (blk_cell BK147.out 1).trans rfl; have hcz15_2 : w11.cell? ⟨gb147, 2, none⟩ = some (.slice none 0 0) := (blk_cell BK147.out 2).trans rfl; have hfz15_0 := blk_frozen BK147.out 0; have hfz15_1 := blk_frozen BK147.out 1; have hfz15_2 := blk_frozen BK147.out 2))
      refine bodyPost_ret (results_ctt rfl _ _ gb147 24 #[.int .i64 t150, .int .i64 t151, .slice Ao14 t152.length co14] (0, 0) _ rfl (by (with_reducible repeat (first | refine blk_drewN ?_ _ | refine blk_drew ?_ | refine blk_alloc ?_ _)); refine blk_put (cs := #[.int .i64 t150, .int .i64 t151, .slice none 0 0]) ?_ 2 _ rfl; (with_reducible repeat (first | refine blk_drewN ?_ _ | refine blk_drew ?_ | refine blk_alloc ?_ _)); refine blk_put (cs := #[.int .i64 t150, .int .i64 0, .slice none 0 0]) ?_ 1 _ rfl; (with_reducible repeat (first | refine blk_drewN ?_ _ | refine blk_drew ?_ | refine blk_alloc ?_ _)); refine blk_put (cs := #[.int .i64 0, .int .i64 0, .slice none 0 0]) ?_ 0 _ rfl; (with_reducible repeat (first | refine blk_drewN ?_ _ | refine blk_drew ?_ | refine blk_alloc ?_ _)); refine blk_far ?_ NB147_156.out _; (with_reducible repeat (first | refine blk_drewN ?_ _ | refine blk_drew ?_ | refine blk_alloc ?_ _)); refine blk_far ?_ NB147_156.out _; (with_reducible repeat (first | refine blk_drewN ?_ _ | refine blk_drew ?_ | refine blk_alloc ?_ _)); refine blk_far ?_ NB147_156.out _; (with_reducible repeat (first | refine blk_drewN ?_ _ | refine blk_drew ?_ | refine blk_alloc ?_ _)); exact BK147.out) Try.underlying24 rfl (by kernel_rfl)) rfl ?_
      exact ⟨_, by first | rfl | (simp [errW_none, errW_some] <;> rfl) | (simp [*, errW_none, errW_some] <;> rfl), by (with_reducible repeat (first | apply Kd.R_alloc | apply Kd.R_drewN | apply Kd.R_drew)); exact Kd.R_mono (Kd.R_far (p := ⟨gb147, 2, none⟩) (Kd.R_far (p := ⟨gb147, 1, none⟩) (Kd.R_far (p := ⟨gb147, 0, none⟩) (Kd.R_far (p := ⟨gb156, 2, none⟩) (Kd.R_far (p := ⟨gb156, 1, none⟩) (Kd.R_far (p := ⟨gb156, 0, none⟩) (Kd.R_types (Kd.R_types HO154.out BK156.out (by decide)) BK147.out (by decide)) (fun _ hk => hk.1.2) (.int .i64 t150)) (fun _ hk => hk.1.2) (.int .i64 t151)) (fun _ hk => hk.1.2) (.slice Ao14 t152.length co14)) (fun _ hk => hk.2) (.int .i64 t150)) (fun _ hk => hk.2) (.int .i64 t151)) (fun _ hk => hk.2) (.slice Ao14 t152.length co14)) (fun _ hk => trivial), by repeat (first | (with_reducible first | exact HB.out | apply below_alloc | apply pw_below_drewN | apply below_drew1 | refine below_set ?_ GE147.out | refine below_set ?_ GE156.out) | exact HB.out)⟩
    · replace c6 := Bool.eq_false_iff.mpr c6
      subst c6
      have H1 : (some (0, 0, ([] : List Int), false, 30)) = some (r1, r2, r3, r4, r5) := by rw [if_neg (show ¬ (false = true) by decide)] at H; exact H
      clear H
      have H := H1
      clear H1
      simp only [Option.some.injEq, Prod.mk.injEq] at H
      obtain ⟨rfl, rfl, rfl, rfl, rfl⟩ := H
      go_enter Try.func20, Try.ntmps20
      go_wp2_with (first | ((with_reducible refine gate_dst (N := 2) rfl ?_); refine box_event ?hg (N := 2) ?hd (cs := #[.int .i64 0, .int .i64 0, .slice none 0 0]) (t := 24) ?hr ?_; (case hd => rfl); (case hg => rfl); (case hr => first | (go_simp; done) | (go_simp; rfl)); intro gb147 hg w16 hbox hb; have n0_ := Aside0.mk (below_step (by repeat (first | (with_reducible first | exact HB.out | apply below_alloc | apply pw_below_drewN | apply below_drew1) | exact HB.out)) hb); have n1_ := Aside0.mk (hbox); have n2_ := Aside0.mk ((by rw [hg]; exact (below_size (by repeat (first | (with_reducible first | exact HB.out | apply below_alloc | apply pw_below_drewN | apply below_drew1) | exact HB.out))) : w.heap.size ≤ gb147)); have n3_ := Aside0.mk ((by rw [hg]; exact (below_size (by repeat (first | (with_reducible first | exact HB.out | apply below_alloc | apply pw_below_drewN | apply below_drew1) | exact HB.out))) : w.heap.size ≤ gb147)); clear HB; have HB := n0_; have BK147 := n1_; have GW147 := n2_; have GE147 := n3_; clear n0_ n1_ n2_ n3_; clear hb hbox hg) | ((with_reducible refine gate_callee (f := 50) rfl ?_); refine goesL_ (some 14) rfl rfl Try.func50 (by kernel_rfl) rfl #[.string a0, .string (⟨#[1]⟩ : ByteArray)] rfl (by (try simp only [List.map_toArray, List.map_cons, List.map_nil]); first | done | rfl | (simp only [List.length_drop, List.length_take]; rfl)) ?_; (with_reducible refine (strings_CutPrefix.calls a0 (⟨#[1]⟩ : ByteArray) t148 false _ A5.out).mono ?_); rintro e w17 ⟨rfl, hb⟩; refine ⟨_, rfl, ?_⟩; have n0_ := Aside0.mk (blk_below (g := gb147) (o := .cells #[.int .i64 0, .int .i64 0, .slice none 0 0] 24 (0, 0)) (by (with_reducible repeat (first | refine blk_drewN ?_ _ | refine blk_drew ?_ | refine blk_alloc ?_ _)); exact BK147.out) hb); have n1_ := Aside0.mk (below_step (by repeat (first | (with_reducible first | exact HB.out | apply below_alloc | apply pw_below_drewN | apply below_drew1 | refine below_set ?_ GE147.out) | exact HB.out)) hb); clear BK147; clear HB; have BK147 := n0_; have HB := n1_; clear n0_ n1_; (try clear hb); (try clear hb2); (try clear hk); (try clear hi); have hcz18_0 : w17.cell? ⟨gb147, 0, none⟩ = some (.int .i64 0) := (blk_cell BK147.out 0).trans rfl; have hcz18_1 : w17.cell? ⟨gb147, 1, none⟩ = some (.int .i64 0) := (blk_cell BK147.out 1).trans rfl; have hcz18_2 : w17.cell? ⟨gb147, 2, none⟩ = some (.slice none 0 0) := (blk_cell BK147.out 2).trans rfl; have hfz18_0 := blk_frozen BK147.out 0; have hfz18_1 := blk_frozen BK147.out 1; have hfz18_2 := blk_frozen BK147.out 2))
      refine bodyPost_ret (results_ctt rfl _ _ gb147 24 #[.int .i64 0, .int .i64 0, .slice none 0 0] (0, 0) _ rfl (by (with_reducible repeat (first | refine blk_drewN ?_ _ | refine blk_drew ?_ | refine blk_alloc ?_ _)); refine blk_put (cs := #[.int .i64 0, .int .i64 0, .slice none 0 0]) ?_ 2 _ rfl; (with_reducible repeat (first | refine blk_drewN ?_ _ | refine blk_drew ?_ | refine blk_alloc ?_ _)); refine blk_put (cs := #[.int .i64 0, .int .i64 0, .slice none 0 0]) ?_ 1 _ rfl; (with_reducible repeat (first | refine blk_drewN ?_ _ | refine blk_drew ?_ | refine blk_alloc ?_ _)); refine blk_put (cs := #[.int .i64 0, .int .i64 0, .slice none 0 0]) ?_ 0 _ rfl; (with_reducible repeat (first | refine blk_drewN ?_ _ | refine blk_drew ?_ | refine blk_alloc ?_ _)); exact BK147.out) Try.underlying24 rfl (by kernel_rfl)) rfl ?_
      exact ⟨_, by first | rfl | (simp [errW_none, errW_some] <;> rfl) | (simp [*, errW_none, errW_some] <;> rfl), by first | exact Kd.R_nil _ _ _ _ _ | exact Kd.N_nil _ _ _ _ _ | exact Kd.V_nil _ _ _ _ _ | exact Kd.Q_nil _ _ _ _ _ | exact Kd.S_nil _ _ _ _ _, by repeat (first | (with_reducible first | exact HB.out | apply below_alloc | apply pw_below_drewN | apply below_drew1 | refine below_set ?_ GE147.out) | exact HB.out)⟩

end Go.Proofs.Ytfdpebipnapelaa.P
/-
  sexton/sextonlaw12.known answers true. The print's walk, with the branches that would answer false closed.
-/
-- Written by a program of this session (xprint.py) over the kit's print.py.
namespace Go.Proofs.Ytfdpebipnapelaa.P
open Go.RowKit Go.Proofs.YtfdpebipnapelaaW.PrintWords Go.Proofs.YtfdpebipnapelaaW.PrintLast Go.Proofs.YtfdpebipnapelaaW.PrintMore
attribute [local go_sem] max2_int min2_int max_two min_two max_three min_three max_four min_four   -- for this text's walks alone
set_option linter.unusedVariables false
set_option linter.unusedSimpArgs false

/-! ### sextonlaw12_knownP: function 22 -/
def sextonlaw12_knownP.f (k : Nat)  : Option (Bool) := (some (([5] : List Int) : List Int)).bind fun y124 => ((meta_Put.f 300 7 y124).bind fun bt128 => ((meta_Get.f bt128.1).bind fun bt130 => ((meta_Value.f 300 7 y124 false).bind fun bt137 => ((meta_Read.f (⟨#[0]⟩ : ByteArray)).bind fun bt139 => ((meta_Read.f (⟨#[2]⟩ : ByteArray)).bind fun bt147 => ((meta_Put.f 0 4096 ([] : List Int)).bind fun bt155 => (if bt128.2 = 0 then (if bt128.1.toList = ([2, 1, 44, 1, 7, 1, 1, 1, 5] : List UInt8) then (if bt130.2.2.2 = bt128.2 then ((sextonref12_Same.f k bt130.1 bt130.2.1 bt130.2.2.1 300 7 y124).bind fun t157 => (if t157 = true then (if bt137.2 = bt128.2 then (if 1 + bt128.1.size ≤ 9223372036854775807 then (if bt137.1.toList = ((⟨#[1]⟩ : ByteArray) ++ bt128.1).toList then (if bt139.2.2.2.1 = true then (if bt139.2.2.2.2 = bt128.2 then ((sextonref12_Same.f k bt139.1 bt139.2.1 bt139.2.2.1 0 0 ([] : List Int)).bind fun t158 => (if t158 = true then (if bt147.2.2.2.2 = 30 then (if bt155.2 = 1 then ((meta_Is.f k 300 7 y124).bind fun t159 => (some t159)) else (some false)) else (some false)) else (some false))) else (some false)) else (some false)) else (some false)) else (none)) else (some false)) else (some false))) else (some false)) else (some false)) else (some false))))))))
theorem sextonlaw12_knownP.mono : ∀ k, LeO (sextonlaw12_knownP.f k ) (sextonlaw12_knownP.f (k + 1) ) := by
  intro  k
  unfold sextonlaw12_knownP.f
  repeat' first
      | (with_reducible exact meta_Is.mono _ _ _ _)
      | (with_reducible exact sextonref12_Same.mono _ _ _ _ _ _ _)
      | (with_reducible exact LeO.refl _)
      | (with_reducible exact LeO.none _)
      | (with_reducible refine LeO.ite ?_ ?_)
      | (with_reducible refine LeO.bind ?_ (fun _ => ?_))
      | exact meta_Is.mono _ _ _ _
      | exact sextonref12_Same.mono _ _ _ _ _ _ _
      | exact LeO.none _
      | refine LeO.ite ?_ ?_
      | refine LeO.bind ?_ (fun _ => ?_)
set_option maxHeartbeats 8000000 in
set_option maxRecDepth 100000 in
theorem sextonlaw12_knownP.calls (k : Nat)  (r : Bool) (hrt : r = true := by rfl) (w : World) (h : sextonlaw12_knownP.f k  = some r) :
    Calls Try.prog 22 #[] w fun e w' => e = .returned (.bool r) ∧ Below w.heap.size w w' := by
  have HRT := Aside0.mk hrt
  have hu24 := Try.underlying24
  have HB := Aside0.mk (Below.refl w.heap.size w)
  have H : ((some (([5] : List Int) : List Int)).bind fun y124 => ((meta_Put.f 300 7 y124).bind fun bt128 => ((meta_Get.f bt128.1).bind fun bt130 => ((meta_Value.f 300 7 y124 false).bind fun bt137 => ((meta_Read.f (⟨#[0]⟩ : ByteArray)).bind fun bt139 => ((meta_Read.f (⟨#[2]⟩ : ByteArray)).bind fun bt147 => ((meta_Put.f 0 4096 ([] : List Int)).bind fun bt155 => (if bt128.2 = 0 then (if bt128.1.toList = ([2, 1, 44, 1, 7, 1, 1, 1, 5] : List UInt8) then (if bt130.2.2.2 = bt128.2 then ((sextonref12_Same.f k bt130.1 bt130.2.1 bt130.2.2.1 300 7 y124).bind fun t157 => (if t157 = true then (if bt137.2 = bt128.2 then (if 1 + bt128.1.size ≤ 9223372036854775807 then (if bt137.1.toList = ((⟨#[1]⟩ : ByteArray) ++ bt128.1).toList then (if bt139.2.2.2.1 = true then (if bt139.2.2.2.2 = bt128.2 then ((sextonref12_Same.f k bt139.1 bt139.2.1 bt139.2.2.1 0 0 ([] : List Int)).bind fun t158 => (if t158 = true then (if bt147.2.2.2.2 = 30 then (if bt155.2 = 1 then ((meta_Is.f k 300 7 y124).bind fun t159 => (some t159)) else (some false)) else (some false)) else (some false))) else (some false)) else (some false)) else (some false)) else (none)) else (some false)) else (some false))) else (some false)) else (some false)) else (some false))))))))) = some r := h
  clear h
  obtain ⟨y124, hy124⟩ : ∃ y_ : List Int, y_ = (([5] : List Int)) := ⟨_, rfl⟩
  replace H : ((meta_Put.f 300 7 y124).bind fun bt128 => ((meta_Get.f bt128.1).bind fun bt130 => ((meta_Value.f 300 7 y124 false).bind fun bt137 => ((meta_Read.f (⟨#[0]⟩ : ByteArray)).bind fun bt139 => ((meta_Read.f (⟨#[2]⟩ : ByteArray)).bind fun bt147 => ((meta_Put.f 0 4096 ([] : List Int)).bind fun bt155 => (if bt128.2 = 0 then (if bt128.1.toList = ([2, 1, 44, 1, 7, 1, 1, 1, 5] : List UInt8) then (if bt130.2.2.2 = bt128.2 then ((sextonref12_Same.f k bt130.1 bt130.2.1 bt130.2.2.1 300 7 y124).bind fun t157 => (if t157 = true then (if bt137.2 = bt128.2 then (if 1 + bt128.1.size ≤ 9223372036854775807 then (if bt137.1.toList = ((⟨#[1]⟩ : ByteArray) ++ bt128.1).toList then (if bt139.2.2.2.1 = true then (if bt139.2.2.2.2 = bt128.2 then ((sextonref12_Same.f k bt139.1 bt139.2.1 bt139.2.2.1 0 0 ([] : List Int)).bind fun t158 => (if t158 = true then (if bt147.2.2.2.2 = 30 then (if bt155.2 = 1 then ((meta_Is.f k 300 7 y124).bind fun t159 => (some t159)) else (some false)) else (some false)) else (some false))) else (some false)) else (some false)) else (some false)) else (none)) else (some false)) else (some false))) else (some false)) else (some false)) else (some false)))))))) = some r := by first | (rw [hy124]; with_reducible exact H) | (have H2_ := (Option.bind_some _ _).symm.trans H; rw [hy124]; with_reducible exact H2_) | (have H2_ := (Option.bind_some _ _).symm.trans H; with_reducible exact H2_) | with_reducible exact H | (rw [hy124]; exact H) | exact H
  have Ny124 := Aside0.mk hy124
  clear hy124
  replace H := Option.bind_eq_some_iff.mp H
  obtain ⟨⟨t128, t129⟩, A10, H⟩ := H
  replace H : ((meta_Get.f t128).bind fun bt130 => ((meta_Value.f 300 7 y124 false).bind fun bt137 => ((meta_Read.f (⟨#[0]⟩ : ByteArray)).bind fun bt139 => ((meta_Read.f (⟨#[2]⟩ : ByteArray)).bind fun bt147 => ((meta_Put.f 0 4096 ([] : List Int)).bind fun bt155 => (if t129 = 0 then (if t128.toList = ([2, 1, 44, 1, 7, 1, 1, 1, 5] : List UInt8) then (if bt130.2.2.2 = t129 then ((sextonref12_Same.f k bt130.1 bt130.2.1 bt130.2.2.1 300 7 y124).bind fun t157 => (if t157 = true then (if bt137.2 = t129 then (if 1 + t128.size ≤ 9223372036854775807 then (if bt137.1.toList = ((⟨#[1]⟩ : ByteArray) ++ t128).toList then (if bt139.2.2.2.1 = true then (if bt139.2.2.2.2 = t129 then ((sextonref12_Same.f k bt139.1 bt139.2.1 bt139.2.2.1 0 0 ([] : List Int)).bind fun t158 => (if t158 = true then (if bt147.2.2.2.2 = 30 then (if bt155.2 = 1 then ((meta_Is.f k 300 7 y124).bind fun t159 => (some t159)) else (some false)) else (some false)) else (some false))) else (some false)) else (some false)) else (some false)) else (none)) else (some false)) else (some false))) else (some false)) else (some false)) else (some false))))))) = some r := H
  have A1 := Aside0.mk A10
  clear A10
  replace H := Option.bind_eq_some_iff.mp H
  obtain ⟨⟨t130, t131, t132, t135⟩, A20, H⟩ := H
  replace H : ((meta_Value.f 300 7 y124 false).bind fun bt137 => ((meta_Read.f (⟨#[0]⟩ : ByteArray)).bind fun bt139 => ((meta_Read.f (⟨#[2]⟩ : ByteArray)).bind fun bt147 => ((meta_Put.f 0 4096 ([] : List Int)).bind fun bt155 => (if t129 = 0 then (if t128.toList = ([2, 1, 44, 1, 7, 1, 1, 1, 5] : List UInt8) then (if t135 = t129 then ((sextonref12_Same.f k t130 t131 t132 300 7 y124).bind fun t157 => (if t157 = true then (if bt137.2 = t129 then (if 1 + t128.size ≤ 9223372036854775807 then (if bt137.1.toList = ((⟨#[1]⟩ : ByteArray) ++ t128).toList then (if bt139.2.2.2.1 = true then (if bt139.2.2.2.2 = t129 then ((sextonref12_Same.f k bt139.1 bt139.2.1 bt139.2.2.1 0 0 ([] : List Int)).bind fun t158 => (if t158 = true then (if bt147.2.2.2.2 = 30 then (if bt155.2 = 1 then ((meta_Is.f k 300 7 y124).bind fun t159 => (some t159)) else (some false)) else (some false)) else (some false))) else (some false)) else (some false)) else (some false)) else (none)) else (some false)) else (some false))) else (some false)) else (some false)) else (some false)))))) = some r := H
  have A2 := Aside0.mk A20
  clear A20
  replace H := Option.bind_eq_some_iff.mp H
  obtain ⟨⟨t137, t138⟩, A30, H⟩ := H
  replace H : ((meta_Read.f (⟨#[0]⟩ : ByteArray)).bind fun bt139 => ((meta_Read.f (⟨#[2]⟩ : ByteArray)).bind fun bt147 => ((meta_Put.f 0 4096 ([] : List Int)).bind fun bt155 => (if t129 = 0 then (if t128.toList = ([2, 1, 44, 1, 7, 1, 1, 1, 5] : List UInt8) then (if t135 = t129 then ((sextonref12_Same.f k t130 t131 t132 300 7 y124).bind fun t157 => (if t157 = true then (if t138 = t129 then (if 1 + t128.size ≤ 9223372036854775807 then (if t137.toList = ((⟨#[1]⟩ : ByteArray) ++ t128).toList then (if bt139.2.2.2.1 = true then (if bt139.2.2.2.2 = t129 then ((sextonref12_Same.f k bt139.1 bt139.2.1 bt139.2.2.1 0 0 ([] : List Int)).bind fun t158 => (if t158 = true then (if bt147.2.2.2.2 = 30 then (if bt155.2 = 1 then ((meta_Is.f k 300 7 y124).bind fun t159 => (some t159)) else (some false)) else (some false)) else (some false))) else (some false)) else (some false)) else (some false)) else (none)) else (some false)) else (some false))) else (some false)) else (some false)) else (some false))))) = some r := H
  have A3 := Aside0.mk A30
  clear A30
  replace H := Option.bind_eq_some_iff.mp H
  obtain ⟨⟨t139, t140, t141, t144, t145⟩, A40, H⟩ := H
  replace H : ((meta_Read.f (⟨#[2]⟩ : ByteArray)).bind fun bt147 => ((meta_Put.f 0 4096 ([] : List Int)).bind fun bt155 => (if t129 = 0 then (if t128.toList = ([2, 1, 44, 1, 7, 1, 1, 1, 5] : List UInt8) then (if t135 = t129 then ((sextonref12_Same.f k t130 t131 t132 300 7 y124).bind fun t157 => (if t157 = true then (if t138 = t129 then (if 1 + t128.size ≤ 9223372036854775807 then (if t137.toList = ((⟨#[1]⟩ : ByteArray) ++ t128).toList then (if t144 = true then (if t145 = t129 then ((sextonref12_Same.f k t139 t140 t141 0 0 ([] : List Int)).bind fun t158 => (if t158 = true then (if bt147.2.2.2.2 = 30 then (if bt155.2 = 1 then ((meta_Is.f k 300 7 y124).bind fun t159 => (some t159)) else (some false)) else (some false)) else (some false))) else (some false)) else (some false)) else (some false)) else (none)) else (some false)) else (some false))) else (some false)) else (some false)) else (some false)))) = some r := H
  have A4 := Aside0.mk A40
  clear A40
  replace H := Option.bind_eq_some_iff.mp H
  obtain ⟨⟨t147, t148, t149, t152, t153⟩, A50, H⟩ := H
  replace H : ((meta_Put.f 0 4096 ([] : List Int)).bind fun bt155 => (if t129 = 0 then (if t128.toList = ([2, 1, 44, 1, 7, 1, 1, 1, 5] : List UInt8) then (if t135 = t129 then ((sextonref12_Same.f k t130 t131 t132 300 7 y124).bind fun t157 => (if t157 = true then (if t138 = t129 then (if 1 + t128.size ≤ 9223372036854775807 then (if t137.toList = ((⟨#[1]⟩ : ByteArray) ++ t128).toList then (if t144 = true then (if t145 = t129 then ((sextonref12_Same.f k t139 t140 t141 0 0 ([] : List Int)).bind fun t158 => (if t158 = true then (if t153 = 30 then (if bt155.2 = 1 then ((meta_Is.f k 300 7 y124).bind fun t159 => (some t159)) else (some false)) else (some false)) else (some false))) else (some false)) else (some false)) else (some false)) else (none)) else (some false)) else (some false))) else (some false)) else (some false)) else (some false))) = some r := H
  have A5 := Aside0.mk A50
  clear A50
  replace H := Option.bind_eq_some_iff.mp H
  obtain ⟨⟨t155, t156⟩, A60, H⟩ := H
  replace H : (if t129 = 0 then (if t128.toList = ([2, 1, 44, 1, 7, 1, 1, 1, 5] : List UInt8) then (if t135 = t129 then ((sextonref12_Same.f k t130 t131 t132 300 7 y124).bind fun t157 => (if t157 = true then (if t138 = t129 then (if 1 + t128.size ≤ 9223372036854775807 then (if t137.toList = ((⟨#[1]⟩ : ByteArray) ++ t128).toList then (if t144 = true then (if t145 = t129 then ((sextonref12_Same.f k t139 t140 t141 0 0 ([] : List Int)).bind fun t158 => (if t158 = true then (if t153 = 30 then (if t156 = 1 then ((meta_Is.f k 300 7 y124).bind fun t159 => (some t159)) else (some false)) else (some false)) else (some false))) else (some false)) else (some false)) else (some false)) else (none)) else (some false)) else (some false))) else (some false)) else (some false)) else (some false)) = some r := H
  have A6 := Aside0.mk A60
  clear A60
  by_cases c7 : t129 = 0
  · rw [if_pos c7] at H
    have c7b0 : (t129 == 0) = true := beq_iff_eq.mpr c7
    have c7b1 : (t129 != 0) = false := bne_eq_false_iff_eq.mpr c7
    clear c7
    by_cases c8 : t128.toList = ([2, 1, 44, 1, 7, 1, 1, 1, 5] : List UInt8)
    · rw [if_pos c8] at H
      have c8b0 : (t128.toList == ([2, 1, 44, 1, 7, 1, 1, 1, 5] : List UInt8)) = true := beq_iff_eq.mpr c8
      have c8b1 : (t128.toList != ([2, 1, 44, 1, 7, 1, 1, 1, 5] : List UInt8)) = false := bne_eq_false_iff_eq.mpr c8
      clear c8
      by_cases c9 : t135 = t129
      · rw [if_pos c9] at H
        have c9b0 : (t135 == t129) = true := beq_iff_eq.mpr c9
        have c9b1 : (t135 != t129) = false := bne_eq_false_iff_eq.mpr c9
        clear c9
        replace H := Option.bind_eq_some_iff.mp H
        obtain ⟨t157, A100, H⟩ := H
        replace H : (if t157 = true then (if t138 = t129 then (if 1 + t128.size ≤ 9223372036854775807 then (if t137.toList = ((⟨#[1]⟩ : ByteArray) ++ t128).toList then (if t144 = true then (if t145 = t129 then ((sextonref12_Same.f k t139 t140 t141 0 0 ([] : List Int)).bind fun t158 => (if t158 = true then (if t153 = 30 then (if t156 = 1 then ((meta_Is.f k 300 7 y124).bind fun t159 => (some t159)) else (some false)) else (some false)) else (some false))) else (some false)) else (some false)) else (some false)) else (none)) else (some false)) else (some false)) = some r := H
        have A10 := Aside0.mk A100
        clear A100
        by_cases c11 : t157 = true
        · subst c11
          have H1 : (if t138 = t129 then (if 1 + t128.size ≤ 9223372036854775807 then (if t137.toList = ((⟨#[1]⟩ : ByteArray) ++ t128).toList then (if t144 = true then (if t145 = t129 then ((sextonref12_Same.f k t139 t140 t141 0 0 ([] : List Int)).bind fun t158 => (if t158 = true then (if t153 = 30 then (if t156 = 1 then ((meta_Is.f k 300 7 y124).bind fun t159 => (some t159)) else (some false)) else (some false)) else (some false))) else (some false)) else (some false)) else (some false)) else (none)) else (some false)) = some r := by rw [if_pos rfl] at H; exact H
          clear H
          have H := H1
          clear H1
          by_cases c12 : t138 = t129
          · rw [if_pos c12] at H
            have c12b0 : (t138 == t129) = true := beq_iff_eq.mpr c12
            have c12b1 : (t138 != t129) = false := bne_eq_false_iff_eq.mpr c12
            clear c12
            by_cases c13 : 1 + t128.size ≤ 9223372036854775807
            · rw [if_pos c13] at H
              have c13b0 := eq_true c13
              have c13b1 : decide (1 + t128.size ≤ 9223372036854775807) = true := decide_eq_true c13
              try have c13b2 : (9223372036854775807 < 1 + t128.size) = False := eq_false (Nat.not_lt.2 c13)
              by_cases c14 : t137.toList = ((⟨#[1]⟩ : ByteArray) ++ t128).toList
              · rw [if_pos c14] at H
                have c14b0 : (t137.toList == ((⟨#[1]⟩ : ByteArray) ++ t128).toList) = true := beq_iff_eq.mpr c14
                have c14b1 : (t137.toList != ((⟨#[1]⟩ : ByteArray) ++ t128).toList) = false := bne_eq_false_iff_eq.mpr c14
                clear c14
                by_cases c15 : t144 = true
                · subst c15
                  have H1 : (if t145 = t129 then ((sextonref12_Same.f k t139 t140 t141 0 0 ([] : List Int)).bind fun t158 => (if t158 = true then (if t153 = 30 then (if t156 = 1 then ((meta_Is.f k 300 7 y124).bind fun t159 => (some t159)) else (some false)) else (some false)) else (some false))) else (some false)) = some r := by rw [if_pos rfl] at H; exact H
                  clear H
                  have H := H1
                  clear H1
                  by_cases c16 : t145 = t129
                  · rw [if_pos c16] at H
                    have c16b0 : (t145 == t129) = true := beq_iff_eq.mpr c16
                    have c16b1 : (t145 != t129) = false := bne_eq_false_iff_eq.mpr c16
                    clear c16
                    replace H := Option.bind_eq_some_iff.mp H
                    obtain ⟨t158, A170, H⟩ := H
                    replace H : (if t158 = true then (if t153 = 30 then (if t156 = 1 then ((meta_Is.f k 300 7 y124).bind fun t159 => (some t159)) else (some false)) else (some false)) else (some false)) = some r := H
                    have A17 := Aside0.mk A170
                    clear A170
                    by_cases c18 : t158 = true
                    · subst c18
                      have H1 : (if t153 = 30 then (if t156 = 1 then ((meta_Is.f k 300 7 y124).bind fun t159 => (some t159)) else (some false)) else (some false)) = some r := by rw [if_pos rfl] at H; exact H
                      clear H
                      have H := H1
                      clear H1
                      by_cases c19 : t153 = 30
                      · rw [if_pos c19] at H
                        have c19b0 : (t153 == 30) = true := beq_iff_eq.mpr c19
                        have c19b1 : (t153 != 30) = false := bne_eq_false_iff_eq.mpr c19
                        clear c19
                        by_cases c20 : t156 = 1
                        · rw [if_pos c20] at H
                          have c20b0 : (t156 == 1) = true := beq_iff_eq.mpr c20
                          have c20b1 : (t156 != 1) = false := bne_eq_false_iff_eq.mpr c20
                          clear c20
                          replace H := Option.bind_eq_some_iff.mp H
                          obtain ⟨t159, A210, H⟩ := H
                          replace H : (some t159) = some r := H
                          have A21 := Aside0.mk A210
                          clear A210
                          obtain rfl := Option.some.inj H
                          go_enter Try.func22, Try.ntmps22
                          go_wp2_with (first | ((with_reducible refine gate_dst (N := 16) rfl ?_); refine Kd.R_lit (Kd.int .i64) _ 3 ?hg (N := 16) ?hd (xs := ([5] : List Int)) (inner := [.int .i64 5]) (ok := fun _ => True) (okp := fun _ => True) ?hr ?hp (fun _ hk => hk) trivial (Below.refl _ _) (Nat.le_refl _) (by simp) ?_; (case hd => rfl); (case hg => rfl); (case hr => first | (go_simp; done) | (go_simp; rfl)); (case hp => exact (Reps.one (show Kd.M (Kd.int .i64) _ _ _ 5 [.int .i64 5] from rfl) (Reps.none _ _))); intro v125 w22 ho23 hb hg_ hnew_; clear hg_ hnew_; (first | rw [← Ny124.out] at ho23 | (simp only [Int.reduceToNat] at ho23; rw [← Ny124.out] at ho23)); have n0_ := Aside0.mk (Kd.R_lower ho23 (below_size (by repeat (first | (with_reducible first | exact HB.out | apply below_alloc | apply pw_below_drewN | apply below_drew1) | exact HB.out)))); have n1_ := Aside0.mk (below_step (by repeat (first | (with_reducible first | exact HB.out | apply below_alloc | apply pw_below_drewN | apply below_drew1) | exact HB.out)) hb); clear HB; have HO126 := n0_; have HB := n1_; clear n0_ n1_; clear hb ho23; obtain ⟨Ao24, co24, eo24⟩ := Kd.R_slice HO126.out; subst eo24; go_wp2_with (first | ((with_reducible refine gate_dst (N := 1) rfl ?_); refine box_event ?hg (N := 1) ?hd (cs := #[.int .i64 0, .int .i64 0, .slice none 0 0]) (t := 24) ?hr ?_; (case hd => rfl); (case hg => rfl); (case hr => first | (go_simp; done) | (go_simp; rfl)); intro gb127 hg w25 hbox hb; have n0_ := Aside0.mk (Kd.R_below (by (with_reducible repeat (first | apply Kd.R_alloc | apply Kd.R_drewN | apply Kd.R_drew)); exact HO126.out) hb); have n1_ := Aside0.mk (below_step (by repeat (first | (with_reducible first | exact HB.out | apply below_alloc | apply pw_below_drewN | apply below_drew1) | exact HB.out)) hb); have n2_ := Aside0.mk (hbox); have n3_ := Aside0.mk ((by rw [hg]; exact (below_size (by repeat (first | (with_reducible first | exact HB.out | apply below_alloc | apply pw_below_drewN | apply below_drew1) | exact HB.out))) : w.heap.size ≤ gb127)); have n4_ := Aside0.mk ((by rw [hg]; exact (below_size (by repeat (first | (with_reducible first | exact HB.out | apply below_alloc | apply pw_below_drewN | apply below_drew1) | exact HB.out))) : w.heap.size ≤ gb127)); clear HO126; clear HB; have HO126 := n0_; have HB := n1_; have BK127 := n2_; have GW127 := n3_; have GE127 := n4_; clear n0_ n1_ n2_ n3_ n4_; clear hb hbox hg; have hcz26_0 : w25.cell? ⟨gb127, 0, none⟩ = some (.int .i64 0) := (blk_cell BK127.out 0).trans rfl; have hcz26_1 : w25.cell? ⟨gb127, 1, none⟩ = some (.int .i64 0) := (blk_cell BK127.out 1).trans rfl; have hcz26_2 : w25.cell? ⟨gb127, 2, none⟩ = some (.slice none 0 0) := (blk_cell BK127.out 2).trans rfl; have hfz26_0 := blk_frozen BK127.out 0; have hfz26_1 := blk_frozen BK127.out 1; have hfz26_2 := blk_frozen BK127.out 2; go_wp2_with (first | ((with_reducible refine gate_callee (f := 14) rfl ?_); refine goesL_ (some 20) rfl rfl Try.func14 (by kernel_rfl) rfl #[.agg #[.int .i64 300, .int .i64 7, .slice Ao24 y124.length co24]] rfl (by (try simp only [List.map_toArray, List.map_cons, List.map_nil]); first | done | rfl | (simp only [List.length_drop, List.length_take]; rfl)) ?_; (with_reducible refine (meta_Put.calls 300 7 _ _ y124 t128 t129 _ ?side1 ?side2 A1.out).mono ?_); (case side1 => refine (Kd.R_reads' (e := 3) (base := w.heap.size) (ok := fun k_ => True) (n := y124.length) (c := co24) ?_).2.2; exact (by (with_reducible repeat (first | apply Kd.R_alloc | apply Kd.R_drewN | apply Kd.R_drew)); exact (Kd.R_mono (Kd.R_far (p := ⟨gb127, 2, none⟩) (Kd.R_far (p := ⟨gb127, 1, none⟩) (Kd.R_far (p := ⟨gb127, 0, none⟩) (Kd.R_types HO126.out BK127.out (by decide)) (fun _ hk => hk.2) (.int .i64 300)) (fun _ hk => hk.2) (.int .i64 7)) (fun _ hk => hk.2) (.slice Ao24 y124.length co24)) (fun _ h_ => h_.1)))); (case side2 => exact (Kd.R_reads' HO126.out).2.1); rintro e w27 ⟨rfl, hb⟩; refine ⟨_, rfl, ?_⟩; have n0_ := Aside0.mk (Kd.R_below (by (with_reducible repeat (first | apply Kd.R_alloc | apply Kd.R_drewN | apply Kd.R_drew)); exact (Kd.R_mono (Kd.R_far (p := ⟨gb127, 2, none⟩) (Kd.R_far (p := ⟨gb127, 1, none⟩) (Kd.R_far (p := ⟨gb127, 0, none⟩) (Kd.R_types HO126.out BK127.out (by decide)) (fun _ hk => hk.2) (.int .i64 300)) (fun _ hk => hk.2) (.int .i64 7)) (fun _ hk => hk.2) (.slice Ao24 y124.length co24)) (fun _ h_ => h_.1))) hb); have n1_ := Aside0.mk (blk_below (g := gb127) (o := .cells #[.int .i64 300, .int .i64 7, .slice Ao24 y124.length co24] 24 (0, 0)) (by (with_reducible repeat (first | refine blk_drewN ?_ _ | refine blk_drew ?_ | refine blk_alloc ?_ _)); refine blk_put (cs := #[.int .i64 300, .int .i64 7, .slice none 0 0]) ?_ 2 _ rfl; (with_reducible repeat (first | refine blk_drewN ?_ _ | refine blk_drew ?_ | refine blk_alloc ?_ _)); refine blk_put (cs := #[.int .i64 300, .int .i64 0, .slice none 0 0]) ?_ 1 _ rfl; (with_reducible repeat (first | refine blk_drewN ?_ _ | refine blk_drew ?_ | refine blk_alloc ?_ _)); refine blk_put (cs := #[.int .i64 0, .int .i64 0, .slice none 0 0]) ?_ 0 _ rfl; (with_reducible repeat (first | refine blk_drewN ?_ _ | refine blk_drew ?_ | refine blk_alloc ?_ _)); exact BK127.out) hb); have n2_ := Aside0.mk (below_step (by repeat (first | (with_reducible first | exact HB.out | apply below_alloc | apply pw_below_drewN | apply below_drew1 | refine below_set ?_ GE127.out) | exact HB.out)) hb); clear HO126; clear BK127; clear HB; have HO126 := n0_; have BK127 := n1_; have HB := n2_; clear n0_ n1_ n2_; (try clear hb); (try clear hb2); (try clear hk); (try clear hi); go_wp2_with (first | ((with_reducible refine gate_callee (f := 16) rfl ?_); refine goesL_ (some 25) rfl rfl Try.func16 (by kernel_rfl) rfl #[.string t128] rfl (by (try simp only [List.map_toArray, List.map_cons, List.map_nil]); first | done | rfl | (simp only [List.length_drop, List.length_take]; rfl)) ?_; (with_reducible refine (meta_Get.calls t128 t130 t131 t132 t135 _ A2.out).mono ?_); rintro e w28 ⟨v133, rfl, ho0, hb⟩; refine ⟨_, rfl, ?_⟩; have n0_ := Aside0.mk (Kd.R_elder' (by (with_reducible repeat (first | apply Kd.R_alloc | apply Kd.R_drewN | apply Kd.R_drew)); exact HO126.out) (Kd.R_base ho0) hb); have n1_ := Aside0.mk (Kd.R_lower (Kd.R_new' ho0 (Kd.R_lt (by (with_reducible repeat (first | apply Kd.R_alloc | apply Kd.R_drewN | apply Kd.R_drew)); exact HO126.out))) (below_size (by repeat (first | (with_reducible first | exact HB.out | apply below_alloc | apply pw_below_drewN | apply below_drew1 | refine below_set ?_ GE127.out) | exact HB.out)))); have n2_ := Aside0.mk (blk_below (g := gb127) (o := .cells #[.int .i64 300, .int .i64 7, .slice Ao24 y124.length co24] 24 (0, 0)) (by (with_reducible repeat (first | refine blk_drewN ?_ _ | refine blk_drew ?_ | refine blk_alloc ?_ _)); exact BK127.out) hb); have n3_ := Aside0.mk (below_step (by repeat (first | (with_reducible first | exact HB.out | apply below_alloc | apply pw_below_drewN | apply below_drew1 | refine below_set ?_ GE127.out) | exact HB.out)) hb); clear HO126; clear BK127; clear HB; have HO126 := n0_; have HO134 := n1_; have BK127 := n2_; have HB := n3_; clear n0_ n1_ n2_ n3_; (try clear hb); (try clear hb2); (try clear hk); (try clear hi); (try clear ho0); go_wp2_with (first | ((with_reducible refine gate_dst (N := 4) rfl ?_); refine box_event ?hg (N := 4) ?hd (cs := #[.int .i64 0, .int .i64 0, .slice none 0 0]) (t := 24) ?hr ?_; (case hd => rfl); (case hg => rfl); (case hr => first | (go_simp; done) | (go_simp; rfl)); intro gb136 hg w29 hbox hb; have n0_ := Aside0.mk (Kd.R_below (by (with_reducible repeat (first | apply Kd.R_alloc | apply Kd.R_drewN | apply Kd.R_drew)); exact HO126.out) hb); have n1_ := Aside0.mk (Kd.R_below (by (with_reducible repeat (first | apply Kd.R_alloc | apply Kd.R_drewN | apply Kd.R_drew)); exact HO134.out) hb); have n2_ := Aside0.mk (blk_below (g := gb127) (o := .cells #[.int .i64 300, .int .i64 7, .slice Ao24 y124.length co24] 24 (0, 0)) (by (with_reducible repeat (first | refine blk_drewN ?_ _ | refine blk_drew ?_ | refine blk_alloc ?_ _)); exact BK127.out) hb); have n3_ := Aside0.mk (below_step (by repeat (first | (with_reducible first | exact HB.out | apply below_alloc | apply pw_below_drewN | apply below_drew1 | refine below_set ?_ GE127.out) | exact HB.out)) hb); have n4_ := Aside0.mk (hbox); have n5_ := Aside0.mk ((by rw [hg]; exact (below_size (by repeat (first | (with_reducible first | exact HB.out | apply below_alloc | apply pw_below_drewN | apply below_drew1 | refine below_set ?_ GE127.out) | exact HB.out))) : w.heap.size ≤ gb136)); have n6_ := Aside0.mk ((by rw [hg]; exact (below_size (by repeat (first | (with_reducible first | exact HB.out | apply below_alloc | apply pw_below_drewN | apply below_drew1 | refine below_set ?_ GE127.out) | exact HB.out))) : w.heap.size ≤ gb136)); have n7_ := Aside0.mk ((by rw [hg]; exact Nat.ne_of_lt (blk_lt (g := gb127) (o := .cells #[.int .i64 300, .int .i64 7, .slice Ao24 y124.length co24] 24 (0, 0)) (by (with_reducible repeat (first | refine blk_drewN ?_ _ | refine blk_drew ?_ | refine blk_alloc ?_ _)); exact BK127.out)) : gb127 ≠ gb136)); have n8_ := Aside0.mk ((by rw [hg]; exact Nat.ne_of_gt (blk_lt (g := gb127) (o := .cells #[.int .i64 300, .int .i64 7, .slice Ao24 y124.length co24] 24 (0, 0)) (by (with_reducible repeat (first | refine blk_drewN ?_ _ | refine blk_drew ?_ | refine blk_alloc ?_ _)); exact BK127.out)) : gb136 ≠ gb127)); clear HO126; clear HO134; clear BK127; clear HB; have HO126 := n0_; have HO134 := n1_; have BK127 := n2_; have HB := n3_; have BK136 := n4_; have GW136 := n5_; have GE136 := n6_; have NB127_136 := n7_; have NB136_127 := n8_; clear n0_ n1_ n2_ n3_ n4_ n5_ n6_ n7_ n8_; clear hb hbox hg; have hnb30 := NB136_127.out; have hnc30 := NB127_136.out; have hcz31_0 : w29.cell? ⟨gb136, 0, none⟩ = some (.int .i64 0) := (blk_cell BK136.out 0).trans rfl; have hcz31_1 : w29.cell? ⟨gb136, 1, none⟩ = some (.int .i64 0) := (blk_cell BK136.out 1).trans rfl; have hcz31_2 : w29.cell? ⟨gb136, 2, none⟩ = some (.slice none 0 0) := (blk_cell BK136.out 2).trans rfl; have hfz31_0 := blk_frozen BK136.out 0; have hfz31_1 := blk_frozen BK136.out 1; have hfz31_2 := blk_frozen BK136.out 2; obtain ⟨Ao32, co32, eo32⟩ := Kd.R_slice HO134.out; subst eo32; have hcz33_0 : w29.cell? ⟨gb127, 0, none⟩ = some (.int .i64 300) := (blk_cell BK127.out 0).trans rfl; have hcz33_1 : w29.cell? ⟨gb127, 1, none⟩ = some (.int .i64 7) := (blk_cell BK127.out 1).trans rfl; have hcz33_2 : w29.cell? ⟨gb127, 2, none⟩ = some (.slice Ao24 y124.length co24) := (blk_cell BK127.out 2).trans rfl; have hfz33_0 := blk_frozen BK127.out 0; have hfz33_1 := blk_frozen BK127.out 1; have hfz33_2 := blk_frozen BK127.out 2; go_wp2_with (first | ((with_reducible refine gate_callee (f := 18) rfl ?_); refine goesL_ (some 30) rfl rfl Try.func18 (by kernel_rfl) rfl #[.agg #[.int .i64 300, .int .i64 7, .slice Ao24 y124.length co24], .bool false] rfl (by (try simp only [List.map_toArray, List.map_cons, List.map_nil]); first | done | rfl | (simp only [List.length_drop, List.length_take]; rfl)) ?_; (with_reducible refine (meta_Value.calls 300 7 _ _ y124 false t137 t138 _ ?side1 ?side2 A3.out).mono ?_); (case side1 => refine (Kd.R_reads' (e := 3) (base := w.heap.size) (ok := fun k_ => (True ∧ some k_ ≠ (.slice Ao32 t132.length co32 : Value).ownBlock)) (n := y124.length) (c := co24) ?_).2.2; exact (by (with_reducible repeat (first | apply Kd.R_alloc | apply Kd.R_drewN | apply Kd.R_drew)); exact (Kd.R_mono (Kd.R_far (p := ⟨gb136, 2, none⟩) (Kd.R_far (p := ⟨gb136, 1, none⟩) (Kd.R_far (p := ⟨gb136, 0, none⟩) (Kd.R_types HO126.out BK136.out (by decide)) (fun _ hk => hk.2) (.int .i64 t130)) (fun _ hk => hk.2) (.int .i64 t131)) (fun _ hk => hk.2) (.slice Ao32 t132.length co32)) (fun _ h_ => h_.1)))); (case side2 => exact (Kd.R_reads' HO126.out).2.1); rintro e w34 ⟨rfl, hb⟩; refine ⟨_, rfl, ?_⟩; have n0_ := Aside0.mk (Kd.R_below (by (with_reducible repeat (first | apply Kd.R_alloc | apply Kd.R_drewN | apply Kd.R_drew)); exact (Kd.R_mono (Kd.R_far (p := ⟨gb136, 2, none⟩) (Kd.R_far (p := ⟨gb136, 1, none⟩) (Kd.R_far (p := ⟨gb136, 0, none⟩) (Kd.R_types HO126.out BK136.out (by decide)) (fun _ hk => hk.2) (.int .i64 t130)) (fun _ hk => hk.2) (.int .i64 t131)) (fun _ hk => hk.2) (.slice Ao32 t132.length co32)) (fun _ h_ => h_.1))) hb); have n1_ := Aside0.mk (Kd.R_below (by (with_reducible repeat (first | apply Kd.R_alloc | apply Kd.R_drewN | apply Kd.R_drew)); exact (Kd.R_mono (Kd.R_far (p := ⟨gb136, 2, none⟩) (Kd.R_far (p := ⟨gb136, 1, none⟩) (Kd.R_far (p := ⟨gb136, 0, none⟩) (Kd.R_types HO134.out BK136.out (by decide)) (fun _ hk => hk.2) (.int .i64 t130)) (fun _ hk => hk.2) (.int .i64 t131)) (fun _ hk => hk.2) (.slice Ao32 t132.length co32)) (fun _ h_ => h_.1))) hb); have n2_ := Aside0.mk (blk_below (g := gb127) (o := .cells #[.int .i64 300, .int .i64 7, .slice Ao24 y124.length co24] 24 (0, 0)) (by (with_reducible repeat (first | refine blk_drewN ?_ _ | refine blk_drew ?_ | refine blk_alloc ?_ _)); refine blk_far ?_ NB127_136.out _; (with_reducible repeat (first | refine blk_drewN ?_ _ | refine blk_drew ?_ | refine blk_alloc ?_ _)); refine blk_far ?_ NB127_136.out _; (with_reducible repeat (first | refine blk_drewN ?_ _ | refine blk_drew ?_ | refine blk_alloc ?_ _)); refine blk_far ?_ NB127_136.out _; (with_reducible repeat (first | refine blk_drewN ?_ _ | refine blk_drew ?_ | refine blk_alloc ?_ _)); exact BK127.out) hb); have n3_ := Aside0.mk (blk_below (g := gb136) (o := .cells #[.int .i64 t130, .int .i64 t131, .slice Ao32 t132.length co32] 24 (0, 0)) (by (with_reducible repeat (first | refine blk_drewN ?_ _ | refine blk_drew ?_ | refine blk_alloc ?_ _)); refine blk_put (cs := #[.int .i64 t130, .int .i64 t131, .slice none 0 0]) ?_ 2 _ rfl; (with_reducible repeat (first | refine blk_drewN ?_ _ | refine blk_drew ?_ | refine blk_alloc ?_ _)); refine blk_put (cs := #[.int .i64 t130, .int .i64 0, .slice none 0 0]) ?_ 1 _ rfl; (with_reducible repeat (first | refine blk_drewN ?_ _ | refine blk_drew ?_ | refine blk_alloc ?_ _)); refine blk_put (cs := #[.int .i64 0, .int .i64 0, .slice none 0 0]) ?_ 0 _ rfl; (with_reducible repeat (first | refine blk_drewN ?_ _ | refine blk_drew ?_ | refine blk_alloc ?_ _)); exact BK136.out) hb); have n4_ := Aside0.mk (below_step (by repeat (first | (with_reducible first | exact HB.out | apply below_alloc | apply pw_below_drewN | apply below_drew1 | refine below_set ?_ GE127.out | refine below_set ?_ GE136.out) | exact HB.out)) hb); clear HO126; clear HO134; clear BK127; clear BK136; clear HB; have HO126 := n0_; have HO134 := n1_; have BK127 := n2_; have BK136 := n3_; have HB := n4_; clear n0_ n1_ n2_ n3_ n4_; (try clear hb); (try clear hb2); (try clear hk); (try clear hi); go_wp2_with (first | ((with_reducible refine gate_callee (f := 20) rfl ?_); refine goesL_ (some 34) rfl rfl Try.func20 (by kernel_rfl) rfl #[.string (⟨#[0]⟩ : ByteArray)] rfl (by (try simp only [List.map_toArray, List.map_cons, List.map_nil]); first | done | rfl | (simp only [List.length_drop, List.length_take]; rfl)) ?_; (with_reducible refine (meta_Read.calls (⟨#[0]⟩ : ByteArray) t139 t140 t141 true t145 _ A4.out).mono ?_); rintro e w35 ⟨v142, rfl, ho0, hb⟩; refine ⟨_, rfl, ?_⟩; have n0_ := Aside0.mk (Kd.R_elder' (by (with_reducible repeat (first | apply Kd.R_alloc | apply Kd.R_drewN | apply Kd.R_drew)); exact HO126.out) (Kd.R_base ho0) hb); have n1_ := Aside0.mk (Kd.R_elder' (by (with_reducible repeat (first | apply Kd.R_alloc | apply Kd.R_drewN | apply Kd.R_drew)); exact HO134.out) (Kd.R_base ho0) hb); have n2_ := Aside0.mk (Kd.R_lower (Kd.R_new' (Kd.R_new' ho0 (Kd.R_lt (by (with_reducible repeat (first | apply Kd.R_alloc | apply Kd.R_drewN | apply Kd.R_drew)); exact HO126.out))) (Kd.R_lt (by (with_reducible repeat (first | apply Kd.R_alloc | apply Kd.R_drewN | apply Kd.R_drew)); exact HO134.out))) (below_size (by repeat (first | (with_reducible first | exact HB.out | apply below_alloc | apply pw_below_drewN | apply below_drew1 | refine below_set ?_ GE127.out | refine below_set ?_ GE136.out) | exact HB.out)))); have n3_ := Aside0.mk (blk_below (g := gb127) (o := .cells #[.int .i64 300, .int .i64 7, .slice Ao24 y124.length co24] 24 (0, 0)) (by (with_reducible repeat (first | refine blk_drewN ?_ _ | refine blk_drew ?_ | refine blk_alloc ?_ _)); exact BK127.out) hb); have n4_ := Aside0.mk (blk_below (g := gb136) (o := .cells #[.int .i64 t130, .int .i64 t131, .slice Ao32 t132.length co32] 24 (0, 0)) (by (with_reducible repeat (first | refine blk_drewN ?_ _ | refine blk_drew ?_ | refine blk_alloc ?_ _)); exact BK136.out) hb); have n5_ := Aside0.mk (below_step (by repeat (first | (with_reducible first | exact HB.out | apply below_alloc | apply pw_below_drewN | apply below_drew1 | refine below_set ?_ GE127.out | refine below_set ?_ GE136.out) | exact HB.out)) hb); clear HO126; clear HO134; clear BK127; clear BK136; clear HB; have HO126 := n0_; have HO134 := n1_; have HO143 := n2_; have BK127 := n3_; have BK136 := n4_; have HB := n5_; clear n0_ n1_ n2_ n3_ n4_ n5_; (try clear hb); (try clear hb2); (try clear hk); (try clear hi); (try clear ho0); go_wp2_with (first | ((with_reducible refine gate_dst (N := 8) rfl ?_); refine box_event ?hg (N := 8) ?hd (cs := #[.int .i64 0, .int .i64 0, .slice none 0 0]) (t := 24) ?hr ?_; (case hd => rfl); (case hg => rfl); (case hr => first | (go_simp; done) | (go_simp; rfl)); intro gb146 hg w36 hbox hb; have n0_ := Aside0.mk (Kd.R_below (by (with_reducible repeat (first | apply Kd.R_alloc | apply Kd.R_drewN | apply Kd.R_drew)); exact HO126.out) hb); have n1_ := Aside0.mk (Kd.R_below (by (with_reducible repeat (first | apply Kd.R_alloc | apply Kd.R_drewN | apply Kd.R_drew)); exact HO134.out) hb); have n2_ := Aside0.mk (Kd.R_below (by (with_reducible repeat (first | apply Kd.R_alloc | apply Kd.R_drewN | apply Kd.R_drew)); exact HO143.out) hb); have n3_ := Aside0.mk (blk_below (g := gb127) (o := .cells #[.int .i64 300, .int .i64 7, .slice Ao24 y124.length co24] 24 (0, 0)) (by (with_reducible repeat (first | refine blk_drewN ?_ _ | refine blk_drew ?_ | refine blk_alloc ?_ _)); exact BK127.out) hb); have n4_ := Aside0.mk (blk_below (g := gb136) (o := .cells #[.int .i64 t130, .int .i64 t131, .slice Ao32 t132.length co32] 24 (0, 0)) (by (with_reducible repeat (first | refine blk_drewN ?_ _ | refine blk_drew ?_ | refine blk_alloc ?_ _)); exact BK136.out) hb); have n5_ := Aside0.mk (below_step (by repeat (first | (with_reducible first | exact HB.out | apply below_alloc | apply pw_below_drewN | apply below_drew1 | refine below_set ?_ GE127.out | refine below_set ?_ GE136.out) | exact HB.out)) hb); have n6_ := Aside0.mk (hbox); have n7_ := Aside0.mk ((by rw [hg]; exact (below_size (by repeat (first | (with_reducible first | exact HB.out | apply below_alloc | apply pw_below_drewN | apply below_drew1 | refine below_set ?_ GE127.out | refine below_set ?_ GE136.out) | exact HB.out))) : w.heap.size ≤ gb146)); have n8_ := Aside0.mk ((by rw [hg]; exact (below_size (by repeat (first | (with_reducible first | exact HB.out | apply below_alloc | apply pw_below_drewN | apply below_drew1 | refine below_set ?_ GE127.out | refine below_set ?_ GE136.out) | exact HB.out))) : w.heap.size ≤ gb146)); have n9_ := Aside0.mk ((by rw [hg]; exact Nat.ne_of_lt (blk_lt (g := gb127) (o := .cells #[.int .i64 300, .int .i64 7, .slice Ao24 y124.length co24] 24 (0, 0)) (by (with_reducible repeat (first | refine blk_drewN ?_ _ | refine blk_drew ?_ | refine blk_alloc ?_ _)); exact BK127.out)) : gb127 ≠ gb146)); have n10_ := Aside0.mk ((by rw [hg]; exact Nat.ne_of_gt (blk_lt (g := gb127) (o := .cells #[.int .i64 300, .int .i64 7, .slice Ao24 y124.length co24] 24 (0, 0)) (by (with_reducible repeat (first | refine blk_drewN ?_ _ | refine blk_drew ?_ | refine blk_alloc ?_ _)); exact BK127.out)) : gb146 ≠ gb127)); have n11_ := Aside0.mk ((by rw [hg]; exact Nat.ne_of_lt (blk_lt (g := gb136) (o := .cells #[.int .i64 t130, .int .i64 t131, .slice Ao32 t132.length co32] 24 (0, 0)) (by (with_reducible repeat (first | refine blk_drewN ?_ _ | refine blk_drew ?_ | refine blk_alloc ?_ _)); exact BK136.out)) : gb136 ≠ gb146)); have n12_ := Aside0.mk ((by rw [hg]; exact Nat.ne_of_gt (blk_lt (g := gb136) (o := .cells #[.int .i64 t130, .int .i64 t131, .slice Ao32 t132.length co32] 24 (0, 0)) (by (with_reducible repeat (first | refine blk_drewN ?_ _ | refine blk_drew ?_ | refine blk_alloc ?_ _)); exact BK136.out)) : gb146 ≠ gb136)); clear HO126; clear HO134; clear HO143; clear BK127; clear BK136; clear HB; have HO126 := n0_; have HO134 := n1_; have HO143 := n2_; have BK127 := n3_; have BK136 := n4_; have HB := n5_; have BK146 := n6_; have GW146 := n7_; have GE146 := n8_; have NB127_146 := n9_; have NB146_127 := n10_; have NB136_146 := n11_; have NB146_136 := n12_; clear n0_ n1_ n2_ n3_ n4_ n5_ n6_ n7_ n8_ n9_ n10_ n11_ n12_; clear hb hbox hg; have hnb37 := NB146_127.out; have hnc37 := NB127_146.out; have hnb38 := NB146_136.out; have hnc38 := NB136_146.out; have hcz39_0 : w36.cell? ⟨gb146, 0, none⟩ = some (.int .i64 0) := (blk_cell BK146.out 0).trans rfl; have hcz39_1 : w36.cell? ⟨gb146, 1, none⟩ = some (.int .i64 0) := (blk_cell BK146.out 1).trans rfl; have hcz39_2 : w36.cell? ⟨gb146, 2, none⟩ = some (.slice none 0 0) := (blk_cell BK146.out 2).trans rfl; have hfz39_0 := blk_frozen BK146.out 0; have hfz39_1 := blk_frozen BK146.out 1; have hfz39_2 := blk_frozen BK146.out 2; obtain ⟨Ao40, co40, eo40⟩ := Kd.R_slice HO143.out; subst eo40; go_wp2_with (first | ((with_reducible refine gate_callee (f := 20) rfl ?_); refine goesL_ (some 39) rfl rfl Try.func20 (by kernel_rfl) rfl #[.string (⟨#[2]⟩ : ByteArray)] rfl (by (try simp only [List.map_toArray, List.map_cons, List.map_nil]); first | done | rfl | (simp only [List.length_drop, List.length_take]; rfl)) ?_; (with_reducible refine (meta_Read.calls (⟨#[2]⟩ : ByteArray) t147 t148 t149 t152 t153 _ A5.out).mono ?_); rintro e w41 ⟨v150, rfl, ho0, hb⟩; refine ⟨_, rfl, ?_⟩; have n0_ := Aside0.mk (Kd.R_elder' (by (with_reducible repeat (first | apply Kd.R_alloc | apply Kd.R_drewN | apply Kd.R_drew)); exact (Kd.R_mono (Kd.R_far (p := ⟨gb146, 2, none⟩) (Kd.R_far (p := ⟨gb146, 1, none⟩) (Kd.R_far (p := ⟨gb146, 0, none⟩) (Kd.R_types HO126.out BK146.out (by decide)) (fun _ hk => hk.2) (.int .i64 t139)) (fun _ hk => hk.2) (.int .i64 t140)) (fun _ hk => hk.2) (.slice Ao40 t141.length co40)) (fun _ h_ => h_.1))) (Kd.R_base ho0) hb); have n1_ := Aside0.mk (Kd.R_elder' (by (with_reducible repeat (first | apply Kd.R_alloc | apply Kd.R_drewN | apply Kd.R_drew)); exact (Kd.R_mono (Kd.R_far (p := ⟨gb146, 2, none⟩) (Kd.R_far (p := ⟨gb146, 1, none⟩) (Kd.R_far (p := ⟨gb146, 0, none⟩) (Kd.R_types HO134.out BK146.out (by decide)) (fun _ hk => hk.2) (.int .i64 t139)) (fun _ hk => hk.2) (.int .i64 t140)) (fun _ hk => hk.2) (.slice Ao40 t141.length co40)) (fun _ h_ => h_.1))) (Kd.R_base ho0) hb); have n2_ := Aside0.mk (Kd.R_elder' (by (with_reducible repeat (first | apply Kd.R_alloc | apply Kd.R_drewN | apply Kd.R_drew)); exact (Kd.R_mono (Kd.R_far (p := ⟨gb146, 2, none⟩) (Kd.R_far (p := ⟨gb146, 1, none⟩) (Kd.R_far (p := ⟨gb146, 0, none⟩) (Kd.R_types HO143.out BK146.out (by decide)) (fun _ hk => hk.2) (.int .i64 t139)) (fun _ hk => hk.2) (.int .i64 t140)) (fun _ hk => hk.2) (.slice Ao40 t141.length co40)) (fun _ h_ => h_.1))) (Kd.R_base ho0) hb); have n3_ := Aside0.mk (Kd.R_lower (Kd.R_new' (Kd.R_new' (Kd.R_new' ho0 (Kd.R_lt (by (with_reducible repeat (first | apply Kd.R_alloc | apply Kd.R_drewN | apply Kd.R_drew)); exact (Kd.R_mono (Kd.R_far (p := ⟨gb146, 2, none⟩) (Kd.R_far (p := ⟨gb146, 1, none⟩) (Kd.R_far (p := ⟨gb146, 0, none⟩) (Kd.R_types HO126.out BK146.out (by decide)) (fun _ hk => hk.2) (.int .i64 t139)) (fun _ hk => hk.2) (.int .i64 t140)) (fun _ hk => hk.2) (.slice Ao40 t141.length co40)) (fun _ h_ => h_.1))))) (Kd.R_lt (by (with_reducible repeat (first | apply Kd.R_alloc | apply Kd.R_drewN | apply Kd.R_drew)); exact (Kd.R_mono (Kd.R_far (p := ⟨gb146, 2, none⟩) (Kd.R_far (p := ⟨gb146, 1, none⟩) (Kd.R_far (p := ⟨gb146, 0, none⟩) (Kd.R_types HO134.out BK146.out (by decide)) (fun _ hk => hk.2) (.int .i64 t139)) (fun _ hk => hk.2) (.int .i64 t140)) (fun _ hk => hk.2) (.slice Ao40 t141.length co40)) (fun _ h_ => h_.1))))) (Kd.R_lt (by (with_reducible repeat (first | apply Kd.R_alloc | apply Kd.R_drewN | apply Kd.R_drew)); exact (Kd.R_mono (Kd.R_far (p := ⟨gb146, 2, none⟩) (Kd.R_far (p := ⟨gb146, 1, none⟩) (Kd.R_far (p := ⟨gb146, 0, none⟩) (Kd.R_types HO143.out BK146.out (by decide)) (fun _ hk => hk.2) (.int .i64 t139)) (fun _ hk => hk.2) (.int .i64 t140)) (fun _ hk => hk.2) (.slice Ao40 t141.length co40)) (fun _ h_ => h_.1))))) (below_size (by repeat (first | (with_reducible first | exact HB.out | apply below_alloc | apply pw_below_drewN | apply below_drew1 | refine below_set ?_ GE127.out | refine below_set ?_ GE136.out | refine below_set ?_ GE146.out) | exact HB.out)))); have n4_ := Aside0.mk (blk_below (g := gb127) (o := .cells #[.int .i64 300, .int .i64 7, .slice Ao24 y124.length co24] 24 (0, 0)) (by (with_reducible repeat (first | refine blk_drewN ?_ _ | refine blk_drew ?_ | refine blk_alloc ?_ _)); refine blk_far ?_ NB127_146.out _; (with_reducible repeat (first | refine blk_drewN ?_ _ | refine blk_drew ?_ | refine blk_alloc ?_ _)); refine blk_far ?_ NB127_146.out _; (with_reducible repeat (first | refine blk_drewN ?_ _ | refine blk_drew ?_ | refine blk_alloc ?_ _)); refine blk_far ?_ NB127_146.out _; (with_reducible repeat (first | refine blk_drewN ?_ _ | refine blk_drew ?_ | refine blk_alloc ?_ _)); exact BK127.out) hb); have n5_ := Aside0.mk (blk_below (g := gb136) (o := .cells #[.int .i64 t130, .int .i64 t131, .slice Ao32 t132.length co32] 24 (0, 0)) (by (with_reducible repeat (first | refine blk_drewN ?_ _ | refine blk_drew ?_ | refine blk_alloc ?_ _)); refine blk_far ?_ NB136_146.out _; (with_reducible repeat (first | refine blk_drewN ?_ _ | refine blk_drew ?_ | refine blk_alloc ?_ _)); refine blk_far ?_ NB136_146.out _; (with_reducible repeat (first | refine blk_drewN ?_ _ | refine blk_drew ?_ | refine blk_alloc ?_ _)); refine blk_far ?_ NB136_146.out _; (with_reducible repeat (first | refine blk_drewN ?_ _ | refine blk_drew ?_ | refine blk_alloc ?_ _)); exact BK136.out) hb); have n6_ := Aside0.mk (blk_below (g := gb146) (o := .cells #[.int .i64 t139, .int .i64 t140, .slice Ao40 t141.length co40] 24 (0, 0)) (by (with_reducible repeat (first | refine blk_drewN ?_ _ | refine blk_drew ?_ | refine blk_alloc ?_ _)); refine blk_put (cs := #[.int .i64 t139, .int .i64 t140, .slice none 0 0]) ?_ 2 _ rfl; (with_reducible repeat (first | refine blk_drewN ?_ _ | refine blk_drew ?_ | refine blk_alloc ?_ _)); refine blk_put (cs := #[.int .i64 t139, .int .i64 0, .slice none 0 0]) ?_ 1 _ rfl; (with_reducible repeat (first | refine blk_drewN ?_ _ | refine blk_drew ?_ | refine blk_alloc ?_ _)); refine blk_put (cs := #[.int .i64 0, .int .i64 0, .slice none 0 0]) ?_ 0 _ rfl; (with_reducible repeat (first | refine blk_drewN ?_ _ | refine blk_drew ?_ | refine blk_alloc ?_ _)); exact BK146.out) hb); have n7_ := Aside0.mk (below_step (by repeat (first | (with_reducible first | exact HB.out | apply below_alloc | apply pw_below_drewN | apply below_drew1 | refine below_set ?_ GE127.out | refine below_set ?_ GE136.out | refine below_set ?_ GE146.out) | exact HB.out)) hb); clear HO126; clear HO134; clear HO143; clear BK127; clear BK136; clear BK146; clear HB; have HO126 := n0_; have HO134 := n1_; have HO143 := n2_; have HO151 := n3_; have BK127 := n4_; have BK136 := n5_; have BK146 := n6_; have HB := n7_; clear n0_ n1_ n2_ n3_ n4_ n5_ n6_ n7_; (try clear hb); (try clear hb2); (try clear hk); (try clear hi); (try clear ho0); go_wp2_with (first | ((with_reducible refine gate_dst (N := 11) rfl ?_); refine box_event ?hg (N := 11) ?hd (cs := #[.int .i64 0, .int .i64 0, .slice none 0 0]) (t := 24) ?hr ?_; (case hd => rfl); (case hg => rfl); (case hr => first | (go_simp; done) | (go_simp; rfl)); intro gb154 hg w42 hbox hb; have n0_ := Aside0.mk (Kd.R_below (by (with_reducible repeat (first | apply Kd.R_alloc | apply Kd.R_drewN | apply Kd.R_drew)); exact HO126.out) hb); have n1_ := Aside0.mk (Kd.R_below (by (with_reducible repeat (first | apply Kd.R_alloc | apply Kd.R_drewN | apply Kd.R_drew)); exact HO134.out) hb); have n2_ := Aside0.mk (Kd.R_below (by (with_reducible repeat (first | apply Kd.R_alloc | apply Kd.R_drewN | apply Kd.R_drew)); exact HO143.out) hb); have n3_ := Aside0.mk (Kd.R_below (by (with_reducible repeat (first | apply Kd.R_alloc | apply Kd.R_drewN | apply Kd.R_drew)); exact HO151.out) hb); have n4_ := Aside0.mk (blk_below (g := gb127) (o := .cells #[.int .i64 300, .int .i64 7, .slice Ao24 y124.length co24] 24 (0, 0)) (by (with_reducible repeat (first | refine blk_drewN ?_ _ | refine blk_drew ?_ | refine blk_alloc ?_ _)); exact BK127.out) hb); have n5_ := Aside0.mk (blk_below (g := gb136) (o := .cells #[.int .i64 t130, .int .i64 t131, .slice Ao32 t132.length co32] 24 (0, 0)) (by (with_reducible repeat (first | refine blk_drewN ?_ _ | refine blk_drew ?_ | refine blk_alloc ?_ _)); exact BK136.out) hb); have n6_ := Aside0.mk (blk_below (g := gb146) (o := .cells #[.int .i64 t139, .int .i64 t140, .slice Ao40 t141.length co40] 24 (0, 0)) (by (with_reducible repeat (first | refine blk_drewN ?_ _ | refine blk_drew ?_ | refine blk_alloc ?_ _)); exact BK146.out) hb); have n7_ := Aside0.mk (below_step (by repeat (first | (with_reducible first | exact HB.out | apply below_alloc | apply pw_below_drewN | apply below_drew1 | refine below_set ?_ GE127.out | refine below_set ?_ GE136.out | refine below_set ?_ GE146.out) | exact HB.out)) hb); have n8_ := Aside0.mk (hbox); have n9_ := Aside0.mk ((by rw [hg]; exact (below_size (by repeat (first | (with_reducible first | exact HB.out | apply below_alloc | apply pw_below_drewN | apply below_drew1 | refine below_set ?_ GE127.out | refine below_set ?_ GE136.out | refine below_set ?_ GE146.out) | exact HB.out))) : w.heap.size ≤ gb154)); have n10_ := Aside0.mk ((by rw [hg]; exact (below_size (by repeat (first | (with_reducible first | exact HB.out | apply below_alloc | apply pw_below_drewN | apply below_drew1 | refine below_set ?_ GE127.out | refine below_set ?_ GE136.out | refine below_set ?_ GE146.out) | exact HB.out))) : w.heap.size ≤ gb154)); have n11_ := Aside0.mk ((by rw [hg]; exact Nat.ne_of_lt (blk_lt (g := gb127) (o := .cells #[.int .i64 300, .int .i64 7, .slice Ao24 y124.length co24] 24 (0, 0)) (by (with_reducible repeat (first | refine blk_drewN ?_ _ | refine blk_drew ?_ | refine blk_alloc ?_ _)); exact BK127.out)) : gb127 ≠ gb154)); have n12_ := Aside0.mk ((by rw [hg]; exact Nat.ne_of_gt (blk_lt (g := gb127) (o := .cells #[.int .i64 300, .int .i64 7, .slice Ao24 y124.length co24] 24 (0, 0)) (by (with_reducible repeat (first | refine blk_drewN ?_ _ | refine blk_drew ?_ | refine blk_alloc ?_ _)); exact BK127.out)) : gb154 ≠ gb127)); have n13_ := Aside0.mk ((by rw [hg]; exact Nat.ne_of_lt (blk_lt (g := gb136) (o := .cells #[.int .i64 t130, .int .i64 t131, .slice Ao32 t132.length co32] 24 (0, 0)) (by (with_reducible repeat (first | refine blk_drewN ?_ _ | refine blk_drew ?_ | refine blk_alloc ?_ _)); exact BK136.out)) : gb136 ≠ gb154)); have n14_ := Aside0.mk ((by rw [hg]; exact Nat.ne_of_gt (blk_lt (g := gb136) (o := .cells #[.int .i64 t130, .int .i64 t131, .slice Ao32 t132.length co32] 24 (0, 0)) (by (with_reducible repeat (first | refine blk_drewN ?_ _ | refine blk_drew ?_ | refine blk_alloc ?_ _)); exact BK136.out)) : gb154 ≠ gb136)); have n15_ := Aside0.mk ((by rw [hg]; exact Nat.ne_of_lt (blk_lt (g := gb146) (o := .cells #[.int .i64 t139, .int .i64 t140, .slice Ao40 t141.length co40] 24 (0, 0)) (by (with_reducible repeat (first | refine blk_drewN ?_ _ | refine blk_drew ?_ | refine blk_alloc ?_ _)); exact BK146.out)) : gb146 ≠ gb154)); have n16_ := Aside0.mk ((by rw [hg]; exact Nat.ne_of_gt (blk_lt (g := gb146) (o := .cells #[.int .i64 t139, .int .i64 t140, .slice Ao40 t141.length co40] 24 (0, 0)) (by (with_reducible repeat (first | refine blk_drewN ?_ _ | refine blk_drew ?_ | refine blk_alloc ?_ _)); exact BK146.out)) : gb154 ≠ gb146)); clear HO126; clear HO134; clear HO143; clear HO151; clear BK127; clear BK136; clear BK146; clear HB; have HO126 := n0_; have HO134 := n1_; have HO143 := n2_; have HO151 := n3_; have BK127 := n4_; have BK136 := n5_; have BK146 := n6_; have HB := n7_; have BK154 := n8_; have GW154 := n9_; have GE154 := n10_; have NB127_154 := n11_; have NB154_127 := n12_; have NB136_154 := n13_; have NB154_136 := n14_; have NB146_154 := n15_; have NB154_146 := n16_; clear n0_ n1_ n2_ n3_ n4_ n5_ n6_ n7_ n8_ n9_ n10_ n11_ n12_ n13_ n14_ n15_ n16_; clear hb hbox hg; have hnb43 := NB154_127.out; have hnc43 := NB127_154.out; have hnb44 := NB154_136.out; have hnc44 := NB136_154.out; have hnb45 := NB154_146.out; have hnc45 := NB146_154.out; have hcz46_0 : w42.cell? ⟨gb154, 0, none⟩ = some (.int .i64 0) := (blk_cell BK154.out 0).trans rfl; have hcz46_1 : w42.cell? ⟨gb154, 1, none⟩ = some (.int .i64 0) := (blk_cell BK154.out 1).trans rfl; have hcz46_2 : w42.cell? ⟨gb154, 2, none⟩ = some (.slice none 0 0) := (blk_cell BK154.out 2).trans rfl; have hfz46_0 := blk_frozen BK154.out 0; have hfz46_1 := blk_frozen BK154.out 1; have hfz46_2 := blk_frozen BK154.out 2; obtain ⟨Ao47, co47, eo47⟩ := Kd.R_slice HO151.out; subst eo47; go_wp2_with (first | ((with_reducible refine gate_callee (f := 14) rfl ?_); refine goesL_ (some 45) rfl rfl Try.func14 (by kernel_rfl) rfl #[.agg #[.int .i64 0, .int .i64 4096, .slice none 0 0]] rfl (by (try simp only [List.map_toArray, List.map_cons, List.map_nil]); first | done | rfl | (simp only [List.length_drop, List.length_take]; rfl)) ?_; (refine (meta_Put.calls 0 4096 _ _ ([] : List Int) t155 t156 _ ?side1 ?side2 A6.out).mono ?_); (case side1 => exact Kd.C_nil _ _); (case side2 => exact Nat.le_refl _); rintro e w48 ⟨rfl, hb⟩; refine ⟨_, rfl, ?_⟩; have n0_ := Aside0.mk (Kd.R_below (by (with_reducible repeat (first | apply Kd.R_alloc | apply Kd.R_drewN | apply Kd.R_drew)); exact (Kd.R_mono (Kd.R_far (p := ⟨gb154, 2, none⟩) (Kd.R_far (p := ⟨gb154, 1, none⟩) (Kd.R_far (p := ⟨gb154, 0, none⟩) (Kd.R_types HO126.out BK154.out (by decide)) (fun _ hk => hk.2) (.int .i64 t147)) (fun _ hk => hk.2) (.int .i64 t148)) (fun _ hk => hk.2) (.slice Ao47 t149.length co47)) (fun _ h_ => h_.1))) hb); have n1_ := Aside0.mk (Kd.R_below (by (with_reducible repeat (first | apply Kd.R_alloc | apply Kd.R_drewN | apply Kd.R_drew)); exact (Kd.R_mono (Kd.R_far (p := ⟨gb154, 2, none⟩) (Kd.R_far (p := ⟨gb154, 1, none⟩) (Kd.R_far (p := ⟨gb154, 0, none⟩) (Kd.R_types HO134.out BK154.out (by decide)) (fun _ hk => hk.2) (.int .i64 t147)) (fun _ hk => hk.2) (.int .i64 t148)) (fun _ hk => hk.2) (.slice Ao47 t149.length co47)) (fun _ h_ => h_.1))) hb); have n2_ := Aside0.mk (Kd.R_below (by (with_reducible repeat (first | apply Kd.R_alloc | apply Kd.R_drewN | apply Kd.R_drew)); exact (Kd.R_mono (Kd.R_far (p := ⟨gb154, 2, none⟩) (Kd.R_far (p := ⟨gb154, 1, none⟩) (Kd.R_far (p := ⟨gb154, 0, none⟩) (Kd.R_types HO143.out BK154.out (by decide)) (fun _ hk => hk.2) (.int .i64 t147)) (fun _ hk => hk.2) (.int .i64 t148)) (fun _ hk => hk.2) (.slice Ao47 t149.length co47)) (fun _ h_ => h_.1))) hb); have n3_ := Aside0.mk (Kd.R_below (by (with_reducible repeat (first | apply Kd.R_alloc | apply Kd.R_drewN | apply Kd.R_drew)); exact (Kd.R_mono (Kd.R_far (p := ⟨gb154, 2, none⟩) (Kd.R_far (p := ⟨gb154, 1, none⟩) (Kd.R_far (p := ⟨gb154, 0, none⟩) (Kd.R_types HO151.out BK154.out (by decide)) (fun _ hk => hk.2) (.int .i64 t147)) (fun _ hk => hk.2) (.int .i64 t148)) (fun _ hk => hk.2) (.slice Ao47 t149.length co47)) (fun _ h_ => h_.1))) hb); have n4_ := Aside0.mk (blk_below (g := gb127) (o := .cells #[.int .i64 300, .int .i64 7, .slice Ao24 y124.length co24] 24 (0, 0)) (by (with_reducible repeat (first | refine blk_drewN ?_ _ | refine blk_drew ?_ | refine blk_alloc ?_ _)); refine blk_far ?_ NB127_154.out _; (with_reducible repeat (first | refine blk_drewN ?_ _ | refine blk_drew ?_ | refine blk_alloc ?_ _)); refine blk_far ?_ NB127_154.out _; (with_reducible repeat (first | refine blk_drewN ?_ _ | refine blk_drew ?_ | refine blk_alloc ?_ _)); refine blk_far ?_ NB127_154.out _; (with_reducible repeat (first | refine blk_drewN ?_ _ | refine blk_drew ?_ | refine blk_alloc ?_ _)); exact BK127.out) hb); have n5_ := Aside0.mk (blk_below (g := gb136) (o := .cells #[.int .i64 t130, .int .i64 t131, .slice Ao32 t132.length co32] 24 (0, 0)) (by (with_reducible repeat (first | refine blk_drewN ?_ _ | refine blk_drew ?_ | refine blk_alloc ?_ _)); refine blk_far ?_ NB136_154.out _; (with_reducible repeat (first | refine blk_drewN ?_ _ | refine blk_drew ?_ | refine blk_alloc ?_ _)); refine blk_far ?_ NB136_154.out _; (with_reducible repeat (first | refine blk_drewN ?_ _ | refine blk_drew ?_ | refine blk_alloc ?_ _)); refine blk_far ?_ NB136_154.out _; (with_reducible repeat (first | refine blk_drewN ?_ _ | refine blk_drew ?_ | refine blk_alloc ?_ _)); exact BK136.out) hb); have n6_ := Aside0.mk (blk_below (g := gb146) (o := .cells #[.int .i64 t139, .int .i64 t140, .slice Ao40 t141.length co40] 24 (0, 0)) (by (with_reducible repeat (first | refine blk_drewN ?_ _ | refine blk_drew ?_ | refine blk_alloc ?_ _)); refine blk_far ?_ NB146_154.out _; (with_reducible repeat (first | refine blk_drewN ?_ _ | refine blk_drew ?_ | refine blk_alloc ?_ _)); refine blk_far ?_ NB146_154.out _; (with_reducible repeat (first | refine blk_drewN ?_ _ | refine blk_drew ?_ | refine blk_alloc ?_ _)); refine blk_far ?_ NB146_154.out _; (with_reducible repeat (first | refine blk_drewN ?_ _ | refine blk_drew ?_ | refine blk_alloc ?_ _)); exact BK146.out) hb); have n7_ := Aside0.mk (blk_below (g := gb154) (o := .cells #[.int .i64 t147, .int .i64 t148, .slice Ao47 t149.length co47] 24 (0, 0)) (by (with_reducible repeat (first | refine blk_drewN ?_ _ | refine blk_drew ?_ | refine blk_alloc ?_ _)); refine blk_put (cs := #[.int .i64 t147, .int .i64 t148, .slice none 0 0]) ?_ 2 _ rfl; (with_reducible repeat (first | refine blk_drewN ?_ _ | refine blk_drew ?_ | refine blk_alloc ?_ _)); refine blk_put (cs := #[.int .i64 t147, .int .i64 0, .slice none 0 0]) ?_ 1 _ rfl; (with_reducible repeat (first | refine blk_drewN ?_ _ | refine blk_drew ?_ | refine blk_alloc ?_ _)); refine blk_put (cs := #[.int .i64 0, .int .i64 0, .slice none 0 0]) ?_ 0 _ rfl; (with_reducible repeat (first | refine blk_drewN ?_ _ | refine blk_drew ?_ | refine blk_alloc ?_ _)); exact BK154.out) hb); have n8_ := Aside0.mk (below_step (by repeat (first | (with_reducible first | exact HB.out | apply below_alloc | apply pw_below_drewN | apply below_drew1 | refine below_set ?_ GE127.out | refine below_set ?_ GE136.out | refine below_set ?_ GE146.out | refine below_set ?_ GE154.out) | exact HB.out)) hb); clear HO126; clear HO134; clear HO143; clear HO151; clear BK127; clear BK136; clear BK146; clear BK154; clear HB; have HO126 := n0_; have HO134 := n1_; have HO143 := n2_; have HO151 := n3_; have BK127 := n4_; have BK136 := n5_; have BK146 := n6_; have BK154 := n7_; have HB := n8_; clear n0_ n1_ n2_ n3_ n4_ n5_ n6_ n7_ n8_; (try clear hb); (try clear hb2); (try clear hk); (try clear hi); have hcz49_0 : w48.cell? ⟨gb136, 0, none⟩ = some (.int .i64 t130) := (blk_cell BK136.out 0).trans rfl; have hcz49_1 : w48.cell? ⟨gb136, 1, none⟩ = some (.int .i64 t131) := (blk_cell BK136.out 1).trans rfl; have hcz49_2 : w48.cell? ⟨gb136, 2, none⟩ = some (.slice Ao32 t132.length co32) := (blk_cell BK136.out 2).trans rfl; have hfz49_0 := blk_frozen BK136.out 0; have hfz49_1 := blk_frozen BK136.out 1; have hfz49_2 := blk_frozen BK136.out 2; have hcz50_0 : w48.cell? ⟨gb127, 0, none⟩ = some (.int .i64 300) := (blk_cell BK127.out 0).trans rfl; have hcz50_1 : w48.cell? ⟨gb127, 1, none⟩ = some (.int .i64 7) := (blk_cell BK127.out 1).trans rfl; have hcz50_2 : w48.cell? ⟨gb127, 2, none⟩ = some (.slice Ao24 y124.length co24) := (blk_cell BK127.out 2).trans rfl; have hfz50_0 := blk_frozen BK127.out 0; have hfz50_1 := blk_frozen BK127.out 1; have hfz50_2 := blk_frozen BK127.out 2; go_wp2_with (first | (go_at_call 25; (with_reducible refine (sextonref12_Same.calls k t130 t131 _ _ t132 300 7 _ _ y124 true _ ?side1 ?side2 ?side3 ?side4 A10.out).mono ?_); (case side1 => repeat (first | exact (Kd.R_reads' HO134.out).2.2 | (with_reducible refine Kd.C_alloc ?_ _) | (with_reducible refine Kd.C_drewN ?_ _) | (with_reducible refine Kd.C_drew ?_))); (case side2 => exact (Kd.R_reads' HO134.out).2.1); (case side3 => repeat (first | exact (Kd.R_reads' HO126.out).2.2 | (with_reducible refine Kd.C_alloc ?_ _) | (with_reducible refine Kd.C_drewN ?_ _) | (with_reducible refine Kd.C_drew ?_))); (case side4 => exact (Kd.R_reads' HO126.out).2.1); rintro e w51 ⟨rfl, hb⟩; have n0_ := Aside0.mk (Kd.R_below (by (with_reducible repeat (first | apply Kd.R_alloc | apply Kd.R_drewN | apply Kd.R_drew)); exact HO126.out) hb); have n1_ := Aside0.mk (Kd.R_below (by (with_reducible repeat (first | apply Kd.R_alloc | apply Kd.R_drewN | apply Kd.R_drew)); exact HO134.out) hb); have n2_ := Aside0.mk (Kd.R_below (by (with_reducible repeat (first | apply Kd.R_alloc | apply Kd.R_drewN | apply Kd.R_drew)); exact HO143.out) hb); have n3_ := Aside0.mk (Kd.R_below (by (with_reducible repeat (first | apply Kd.R_alloc | apply Kd.R_drewN | apply Kd.R_drew)); exact HO151.out) hb); have n4_ := Aside0.mk (blk_below (g := gb127) (o := .cells #[.int .i64 300, .int .i64 7, .slice Ao24 y124.length co24] 24 (0, 0)) (by (with_reducible repeat (first | refine blk_drewN ?_ _ | refine blk_drew ?_ | refine blk_alloc ?_ _)); exact BK127.out) hb); have n5_ := Aside0.mk (blk_below (g := gb136) (o := .cells #[.int .i64 t130, .int .i64 t131, .slice Ao32 t132.length co32] 24 (0, 0)) (by (with_reducible repeat (first | refine blk_drewN ?_ _ | refine blk_drew ?_ | refine blk_alloc ?_ _)); exact BK136.out) hb); have n6_ := Aside0.mk (blk_below (g := gb146) (o := .cells #[.int .i64 t139, .int .i64 t140, .slice Ao40 t141.length co40] 24 (0, 0)) (by (with_reducible repeat (first | refine blk_drewN ?_ _ | refine blk_drew ?_ | refine blk_alloc ?_ _)); exact BK146.out) hb); have n7_ := Aside0.mk (blk_below (g := gb154) (o := .cells #[.int .i64 t147, .int .i64 t148, .slice Ao47 t149.length co47] 24 (0, 0)) (by (with_reducible repeat (first | refine blk_drewN ?_ _ | refine blk_drew ?_ | refine blk_alloc ?_ _)); exact BK154.out) hb); have n8_ := Aside0.mk (below_step (by repeat (first | (with_reducible first | exact HB.out | apply below_alloc | apply pw_below_drewN | apply below_drew1 | refine below_set ?_ GE127.out | refine below_set ?_ GE136.out | refine below_set ?_ GE146.out | refine below_set ?_ GE154.out) | exact HB.out)) hb); clear HO126; clear HO134; clear HO143; clear HO151; clear BK127; clear BK136; clear BK146; clear BK154; clear HB; have HO126 := n0_; have HO134 := n1_; have HO143 := n2_; have HO151 := n3_; have BK127 := n4_; have BK136 := n5_; have BK146 := n6_; have BK154 := n7_; have HB := n8_; clear n0_ n1_ n2_ n3_ n4_ n5_ n6_ n7_ n8_; (try clear hb); (try clear hb2); (try clear hk); (try clear hi); have hcz52_0 : w51.cell? ⟨gb146, 0, none⟩ = some (.int .i64 t139) := (blk_cell BK146.out 0).trans rfl; have hcz52_1 : w51.cell? ⟨gb146, 1, none⟩ = some (.int .i64 t140) := (blk_cell BK146.out 1).trans rfl; have hcz52_2 : w51.cell? ⟨gb146, 2, none⟩ = some (.slice Ao40 t141.length co40) := (blk_cell BK146.out 2).trans rfl; have hfz52_0 := blk_frozen BK146.out 0; have hfz52_1 := blk_frozen BK146.out 1; have hfz52_2 := blk_frozen BK146.out 2; go_wp2_with (first | (go_at_call 25; (refine (sextonref12_Same.calls k t139 t140 _ _ t141 0 0 _ _ ([] : List Int) true _ ?side1 ?side2 ?side3 ?side4 A17.out).mono ?_); (case side1 => repeat (first | exact (Kd.R_reads' HO143.out).2.2 | (with_reducible refine Kd.C_alloc ?_ _) | (with_reducible refine Kd.C_drewN ?_ _) | (with_reducible refine Kd.C_drew ?_))); (case side2 => exact (Kd.R_reads' HO143.out).2.1); (case side3 => exact Kd.C_nil _ _); (case side4 => exact Nat.le_refl _); rintro e w53 ⟨rfl, hb⟩; have n0_ := Aside0.mk (Kd.R_below (by (with_reducible repeat (first | apply Kd.R_alloc | apply Kd.R_drewN | apply Kd.R_drew)); exact HO126.out) hb); have n1_ := Aside0.mk (Kd.R_below (by (with_reducible repeat (first | apply Kd.R_alloc | apply Kd.R_drewN | apply Kd.R_drew)); exact HO134.out) hb); have n2_ := Aside0.mk (Kd.R_below (by (with_reducible repeat (first | apply Kd.R_alloc | apply Kd.R_drewN | apply Kd.R_drew)); exact HO143.out) hb); have n3_ := Aside0.mk (Kd.R_below (by (with_reducible repeat (first | apply Kd.R_alloc | apply Kd.R_drewN | apply Kd.R_drew)); exact HO151.out) hb); have n4_ := Aside0.mk (blk_below (g := gb127) (o := .cells #[.int .i64 300, .int .i64 7, .slice Ao24 y124.length co24] 24 (0, 0)) (by (with_reducible repeat (first | refine blk_drewN ?_ _ | refine blk_drew ?_ | refine blk_alloc ?_ _)); exact BK127.out) hb); have n5_ := Aside0.mk (blk_below (g := gb136) (o := .cells #[.int .i64 t130, .int .i64 t131, .slice Ao32 t132.length co32] 24 (0, 0)) (by (with_reducible repeat (first | refine blk_drewN ?_ _ | refine blk_drew ?_ | refine blk_alloc ?_ _)); exact BK136.out) hb); have n6_ := Aside0.mk (blk_below (g := gb146) (o := .cells #[.int .i64 t139, .int .i64 t140, .slice Ao40 t141.length co40] 24 (0, 0)) (by (with_reducible repeat (first | refine blk_drewN ?_ _ | refine blk_drew ?_ | refine blk_alloc ?_ _)); exact BK146.out) hb); have n7_ := Aside0.mk (blk_below (g := gb154) (o := .cells #[.int .i64 t147, .int .i64 t148, .slice Ao47 t149.length co47] 24 (0, 0)) (by (with_reducible repeat (first | refine blk_drewN ?_ _ | refine blk_drew ?_ | refine blk_alloc ?_ _)); exact BK154.out) hb); have n8_ := Aside0.mk (below_step (by repeat (first | (with_reducible first | exact HB.out | apply below_alloc | apply pw_below_drewN | apply below_drew1 | refine below_set ?_ GE127.out | refine below_set ?_ GE136.out | refine below_set ?_ GE146.out | refine below_set ?_ GE154.out) | exact HB.out)) hb); clear HO126; clear HO134; clear HO143; clear HO151; clear BK127; clear BK136; clear BK146; clear BK154; clear HB; have HO126 := n0_; have HO134 := n1_; have HO143 := n2_; have HO151 := n3_; have BK127 := n4_; have BK136 := n5_; have BK146 := n6_; have BK154 := n7_; have HB := n8_; clear n0_ n1_ n2_ n3_ n4_ n5_ n6_ n7_ n8_; (try clear hb); (try clear hb2); (try clear hk); (try clear hi); have hcz54_0 : w53.cell? ⟨gb127, 0, none⟩ = some (.int .i64 300) := (blk_cell BK127.out 0).trans rfl; have hcz54_1 : w53.cell? ⟨gb127, 1, none⟩ = some (.int .i64 7) := (blk_cell BK127.out 1).trans rfl; have hcz54_2 : w53.cell? ⟨gb127, 2, none⟩ = some (.slice Ao24 y124.length co24) := (blk_cell BK127.out 2).trans rfl; have hfz54_0 := blk_frozen BK127.out 0; have hfz54_1 := blk_frozen BK127.out 1; have hfz54_2 := blk_frozen BK127.out 2; go_wp2_with (first | (go_at_call 23; (with_reducible refine (meta_Is.calls k 300 7 _ _ y124 t159 _ ?side1 ?side2 A21.out).mono ?_); (case side1 => repeat (first | exact (Kd.R_reads' HO126.out).2.2 | (with_reducible refine Kd.C_alloc ?_ _) | (with_reducible refine Kd.C_drewN ?_ _) | (with_reducible refine Kd.C_drew ?_))); (case side2 => exact (Kd.R_reads' HO126.out).2.1); rintro e w55 ⟨rfl, hb⟩; have n0_ := Aside0.mk (Kd.R_below (by (with_reducible repeat (first | apply Kd.R_alloc | apply Kd.R_drewN | apply Kd.R_drew)); exact HO126.out) hb); have n1_ := Aside0.mk (Kd.R_below (by (with_reducible repeat (first | apply Kd.R_alloc | apply Kd.R_drewN | apply Kd.R_drew)); exact HO134.out) hb); have n2_ := Aside0.mk (Kd.R_below (by (with_reducible repeat (first | apply Kd.R_alloc | apply Kd.R_drewN | apply Kd.R_drew)); exact HO143.out) hb); have n3_ := Aside0.mk (Kd.R_below (by (with_reducible repeat (first | apply Kd.R_alloc | apply Kd.R_drewN | apply Kd.R_drew)); exact HO151.out) hb); have n4_ := Aside0.mk (blk_below (g := gb127) (o := .cells #[.int .i64 300, .int .i64 7, .slice Ao24 y124.length co24] 24 (0, 0)) (by (with_reducible repeat (first | refine blk_drewN ?_ _ | refine blk_drew ?_ | refine blk_alloc ?_ _)); exact BK127.out) hb); have n5_ := Aside0.mk (blk_below (g := gb136) (o := .cells #[.int .i64 t130, .int .i64 t131, .slice Ao32 t132.length co32] 24 (0, 0)) (by (with_reducible repeat (first | refine blk_drewN ?_ _ | refine blk_drew ?_ | refine blk_alloc ?_ _)); exact BK136.out) hb); have n6_ := Aside0.mk (blk_below (g := gb146) (o := .cells #[.int .i64 t139, .int .i64 t140, .slice Ao40 t141.length co40] 24 (0, 0)) (by (with_reducible repeat (first | refine blk_drewN ?_ _ | refine blk_drew ?_ | refine blk_alloc ?_ _)); exact BK146.out) hb); have n7_ := Aside0.mk (blk_below (g := gb154) (o := .cells #[.int .i64 t147, .int .i64 t148, .slice Ao47 t149.length co47] 24 (0, 0)) (by (with_reducible repeat (first | refine blk_drewN ?_ _ | refine blk_drew ?_ | refine blk_alloc ?_ _)); exact BK154.out) hb); have n8_ := Aside0.mk (below_step (by repeat (first | (with_reducible first | exact HB.out | apply below_alloc | apply pw_below_drewN | apply below_drew1 | refine below_set ?_ GE127.out | refine below_set ?_ GE136.out | refine below_set ?_ GE146.out | refine below_set ?_ GE154.out) | exact HB.out)) hb); clear HO126; clear HO134; clear HO143; clear HO151; clear BK127; clear BK136; clear BK146; clear BK154; clear HB; have HO126 := n0_; have HO134 := n1_; have HO143 := n2_; have HO151 := n3_; have BK127 := n4_; have BK136 := n5_; have BK146 := n6_; have BK154 := n7_; have HB := n8_; clear n0_ n1_ n2_ n3_ n4_ n5_ n6_ n7_ n8_; (try clear hb); (try clear hb2); (try clear hk); (try clear hi)))))))))))))))))))))))))))))
                          go_ret
                          exact ⟨by first | rfl | (simp [errW_none, errW_some] <;> rfl) | (simp [*, errW_none, errW_some] <;> rfl), by repeat (first | (with_reducible first | exact HB.out | apply below_alloc | apply pw_below_drewN | apply below_drew1 | refine below_set ?_ GE127.out | refine below_set ?_ GE136.out | refine below_set ?_ GE146.out | refine below_set ?_ GE154.out) | exact HB.out)⟩
                        · rw [if_neg c20] at H
                          exact absurd (H.trans (congrArg some HRT.out)) (by decide)
                      · rw [if_neg c19] at H
                        exact absurd (H.trans (congrArg some HRT.out)) (by decide)
                    · replace c18 := Bool.eq_false_iff.mpr c18
                      subst c18
                      have H1 : (some false) = some r := by rw [if_neg (show ¬ (false = true) by decide)] at H; exact H
                      exact absurd (H1.trans (congrArg some HRT.out)) (by decide)
                  · rw [if_neg c16] at H
                    exact absurd (H.trans (congrArg some HRT.out)) (by decide)
                · replace c15 := Bool.eq_false_iff.mpr c15
                  subst c15
                  have H1 : (some false) = some r := by rw [if_neg (show ¬ (false = true) by decide)] at H; exact H
                  exact absurd (H1.trans (congrArg some HRT.out)) (by decide)
              · rw [if_neg c14] at H
                exact absurd (H.trans (congrArg some HRT.out)) (by decide)
            · rw [if_neg c13] at H
              exact absurd H (by simp)
          · rw [if_neg c12] at H
            exact absurd (H.trans (congrArg some HRT.out)) (by decide)
        · replace c11 := Bool.eq_false_iff.mpr c11
          subst c11
          have H1 : (some false) = some r := by rw [if_neg (show ¬ (false = true) by decide)] at H; exact H
          exact absurd (H1.trans (congrArg some HRT.out)) (by decide)
      · rw [if_neg c9] at H
        exact absurd (H.trans (congrArg some HRT.out)) (by decide)
    · rw [if_neg c8] at H
      exact absurd (H.trans (congrArg some HRT.out)) (by decide)
  · rw [if_neg c7] at H
    exact absurd (H.trans (congrArg some HRT.out)) (by decide)

/-- THE ONE PURE STATEMENT of sextonlaw12_knownP: yours. -/

theorem sextonlaw12_knownP_true : sextonlaw12_knownP.f 60 = some true := by decide +kernel
/-- What it answers. -/
def sextonlaw12_known.f : Option Bool := some true
theorem sextonlaw12_known.calls (r : Bool) (w : World) (h : sextonlaw12_known.f = some r) :
    Calls Try.prog 22 #[] w fun e w' => e = .returned (.bool r) ∧ Below w.heap.size w w' := by
  obtain rfl := Option.some.inj h
  exact sextonlaw12_knownP.calls 60 true (w := w) (h := sextonlaw12_knownP_true)
end Go.Proofs.Ytfdpebipnapelaa.P
/-
  Plain laws on numbers one behind the other: what is laid is read, what is read was laid.
-/
namespace Go.Proofs.CodecPlain
def okN (n : Int) : Prop := 0 ≤ n ∧ n ≤ 4294967295
theorem readNs_put : ∀ (ns : List Int) (_ : ∀ n ∈ ns, okN n) (rest : ByteArray), readNs ns.length (catStr (ns.map numStr) ++ rest) = (ns, rest, true) := by
  intro ns
  induction ns with
  | nil => intro _ rest; show (([] : List Int), (ByteArray.empty ++ rest), true) = _; rw [ByteArray.empty_append]
  | cons n ns ih =>
    intro h rest
    have e : catStr ((n :: ns).map numStr) ++ rest = numStr n ++ (catStr (ns.map numStr) ++ rest) := by
      show (numStr n ++ catStr (ns.map numStr)) ++ rest = _
      rw [ByteArray.append_assoc]
    have hn := h n List.mem_cons_self
    have hg := getNum_put n hn.1 hn.2 (catStr (ns.map numStr) ++ rest)
    simp only [List.length_cons, readNs]
    rw [e, hg]
    simp only [if_true]
    rw [ih (fun m hm => h m (List.mem_cons_of_mem _ hm)) rest]
theorem readNs_got : ∀ (n : Nat) (s : ByteArray) (l : List Int) (rest : ByteArray), readNs n s = (l, rest, true) → l.length = n ∧ (∀ m ∈ l, okN m) ∧ s = catStr (l.map numStr) ++ rest := by
  intro n
  induction n with
  | zero =>
    intro s l rest h
    simp only [readNs, Prod.mk.injEq] at h
    obtain ⟨rfl, rfl, _⟩ := h
    exact ⟨rfl, by simp, by show s = ByteArray.empty ++ s; rw [ByteArray.empty_append]⟩
  | succ n ih =>
    intro s l rest h
    simp only [readNs] at h
    split at h
    · rename_i hok
      obtain ⟨x, s1, ok, hg⟩ : ∃ x s1 ok, getNum s = (x, s1, ok) := ⟨_, _, _, rfl⟩
      rw [hg] at h hok
      simp only at h hok
      subst hok
      simp only [Prod.mk.injEq] at h
      obtain ⟨rfl, h2, h3⟩ := h
      obtain ⟨hx0, hx1, hs⟩ := getNum_got hg
      obtain ⟨h4, h5, h6⟩ := ih s1 (readNs n s1).1 rest (by rw [← h2, ← h3])
      refine ⟨by rw [List.length_cons, h4], ?_, ?_⟩
      · intro m hm
        rcases List.mem_cons.1 hm with rfl | hm
        · exact ⟨hx0, hx1⟩
        · exact h5 m hm
      · show s = (numStr x ++ catStr ((readNs n s1).1.map numStr)) ++ rest
        rw [ByteArray.append_assoc, ← h6]
        exact hs
    · simp at h
end Go.Proofs.CodecPlain
/-
  Words for the references, told plainly.
-/
namespace Go.Proofs.Ytfdpebipnapelaa.P
open Go.RowKit Go.Proofs.CodecPlain Go.Proofs.YtfdpebipnapelaaW.PrintWords Go.Proofs.YtfdpebipnapelaaW.PrintLast

theorem ev_if_pos {α : Type} {p : Nat → Prop} [∀ k, Decidable (p k)] {a b : Nat → Option α} {r : α} (h : ∀ k, p k) (k : Ev a r) : Ev (fun n => if p n then a n else b n) r :=
  k.congr (fun n => if_pos (h n))

theorem toList_inj {a b : ByteArray} (h : a.toList = b.toList) : a = b := by
  rw [ByteArray.toList_eq, ByteArray.toList_eq] at h; exact ba_ext h

theorem wrap_id {x : Int} (h0 : -9223372036854775808 ≤ x) (h1 : x ≤ 9223372036854775807) : wrap64 x = x := by unfold wrap64; omega

theorem strOfNums_size (l : List Int) : (strOfNums l).size = l.length := by simp [strOfNums, ByteArray.size]

theorem strOfNums_list (l : List Int) : (strOfNums l).data.toList = l.map u8 := by simp [strOfNums, u8]

theorem rd_str (l : List ByteArray) (k : Nat) (h : k < l.length) : rdOf ByteArray.empty l (k : Int) = l[k] := by
  simp [rdOf, List.getD_eq_getElem?_getD, h]
end Go.Proofs.Ytfdpebipnapelaa.P
-- Written by a program of this session (xprint.py) over the kit's print.py.
namespace Go.Proofs.Ytfdpebipnapelaa.P
open Go.RowKit Go.Proofs.YtfdpebipnapelaaW.PrintWords Go.Proofs.YtfdpebipnapelaaW.PrintLast Go.Proofs.YtfdpebipnapelaaW.PrintMore
attribute [local go_sem] max2_int min2_int max_two min_two max_three min_three max_four min_four   -- for this text's walks alone
set_option linter.unusedVariables false
set_option linter.unusedSimpArgs false

/-! ### sextonref01_Number: function 46 -/
mutual
def sextonref01_Number.j0 : Nat → Int → Bool → Option (ByteArray × Int)
  | 0, _, _ => none
  | k + 1, x0, x11 => if x11 = true then (some ((⟨#[]⟩ : ByteArray), 1)) else (sextonref01_Number.l0 k x0 (⟨#[]⟩ : ByteArray) 0)
def sextonref01_Number.l0 : Nat → Int → ByteArray → Int → Option (ByteArray × Int)
  | 0, _, _, _ => none
  | k + 1, x0, x4, x5 => if x0 > 0 then ((some (([(Int.tmod x0 256) % 256] : List Int) : List Int)).bind fun y116 => (if (strOfNums y116).size + x4.size ≤ 9223372036854775807 then (sextonref01_Number.l0 k (wrap64 (Int.tdiv x0 256)) ((strOfNums y116) ++ x4) (wrap64 (x5 + 1))) else (none))) else ((some (([(x5) % 256] : List Int) : List Int)).bind fun y119 => (if (strOfNums y119).size + x4.size ≤ 9223372036854775807 then (some ((strOfNums y119) ++ x4, 0)) else (none)))
end
def sextonref01_Number.f (k : Nat) (a0 : Int) : Option (ByteArray × Int) := if a0 < 0 then (sextonref01_Number.j0 k a0 true) else (sextonref01_Number.j0 k a0 (decide (a0 > 4294967295)))
theorem sextonref01_Number.mono_l : ∀ k, (∀ y0 y1, LeO (sextonref01_Number.j0 k y0 y1) (sextonref01_Number.j0 (k + 1) y0 y1)) ∧ (∀ y0 y1 y2, LeO (sextonref01_Number.l0 k y0 y1 y2) (sextonref01_Number.l0 (k + 1) y0 y1 y2))
  | 0 => ⟨fun _ _ r h => by simp [sextonref01_Number.j0] at h, fun _ _ _ r h => by simp [sextonref01_Number.l0] at h⟩
  | k + 1 => by
    obtain ⟨ih0, ih1⟩ := sextonref01_Number.mono_l k
    refine ⟨?_, ?_⟩
    · intro y0 y1
      unfold sextonref01_Number.j0
      repeat' first
      | (with_reducible exact ih0 _ _)
      | (with_reducible exact ih1 _ _ _)
      | (with_reducible exact LeO.refl _)
      | (with_reducible exact LeO.none _)
      | (with_reducible refine LeO.ite ?_ ?_)
      | (with_reducible refine LeO.bind ?_ (fun _ => ?_))
      | exact ih0 _ _
      | exact ih1 _ _ _
      | exact LeO.none _
      | refine LeO.ite ?_ ?_
      | refine LeO.bind ?_ (fun _ => ?_)
    · intro y0 y1 y2
      unfold sextonref01_Number.l0
      repeat' first
      | (with_reducible exact ih0 _ _)
      | (with_reducible exact ih1 _ _ _)
      | (with_reducible exact LeO.refl _)
      | (with_reducible exact LeO.none _)
      | (with_reducible refine LeO.ite ?_ ?_)
      | (with_reducible refine LeO.bind ?_ (fun _ => ?_))
      | exact ih0 _ _
      | exact ih1 _ _ _
      | exact LeO.none _
      | refine LeO.ite ?_ ?_
      | refine LeO.bind ?_ (fun _ => ?_)
theorem sextonref01_Number.mono : ∀ a0 k, LeO (sextonref01_Number.f k a0) (sextonref01_Number.f (k + 1) a0) := by
  intro a0 k
  obtain ⟨ih0, ih1⟩ := sextonref01_Number.mono_l k
  unfold sextonref01_Number.f
  repeat' first
      | (with_reducible exact ih0 _ _)
      | (with_reducible exact ih1 _ _ _)
      | (with_reducible exact LeO.refl _)
      | (with_reducible exact LeO.none _)
      | (with_reducible refine LeO.ite ?_ ?_)
      | (with_reducible refine LeO.bind ?_ (fun _ => ?_))
      | exact ih0 _ _
      | exact ih1 _ _ _
      | exact LeO.none _
      | refine LeO.ite ?_ ?_
      | refine LeO.bind ?_ (fun _ => ?_)
set_option maxHeartbeats 8000000 in
set_option maxRecDepth 100000 in
theorem sextonref01_Number.calls (k : Nat) (a0 : Int) (r1 : ByteArray) (r2 : Int) (w : World) (h : sextonref01_Number.f k a0 = some (r1, r2)) :
    Calls Try.prog 46 #[.int .i64 a0] w fun e w' => e = .returned (.tuple #[.string r1, .int .i64 r2]) ∧ Below w.heap.size w w' := by
  have HB := Aside0.mk (Below.refl w.heap.size w)
  have H : (if a0 < 0 then (sextonref01_Number.j0 k a0 true) else (sextonref01_Number.j0 k a0 (decide (a0 > 4294967295)))) = some (r1, r2) := h
  clear h
  have HC2 := Aside0.mk H
  clear H
  go_enter Try.func46, Try.ntmps46
  go_upto_region 1 with (fail)
  go_cut [11] (fun v11 wc => ∃ (kq : Nat) (x11_1 : Bool), v11 = .bool x11_1 ∧ Aside0 (sextonref01_Number.j0 kq a0 x11_1 = some (r1, r2)) ∧ Aside0 (kq ≤ k) ∧ Aside0 (Below w.heap.size w wc))
  case first =>
    have H := HC2.out
    clear HC2
    by_cases c3 : a0 < 0
    · rw [if_pos c3] at H
      have c3b0 : decide (a0 < 0) = true := decide_eq_true c3
      clear c3
      (first | rw [c3b0] | (simp only [i64_w, i32_w]; rw [c3b0]) | skip)
      have H' := Aside0.mk H
      clear H
      go_wp2
      go_meet
      case rel => exact ⟨_, (true), (by first | rfl | (simp; done) | (simp [*]; done)), H', ⟨by first | omega | exact Nat.le_refl _⟩, ⟨by repeat (first | (with_reducible first | exact HB.out | apply below_alloc | apply pw_below_drewN | apply below_drew1) | exact HB.out)⟩⟩
    · rw [if_neg c3] at H
      have c3b0 : decide (a0 < 0) = false := decide_eq_false c3
      clear c3
      (first | rw [c3b0] | (simp only [i64_w, i32_w]; rw [c3b0]) | skip)
      have H' := Aside0.mk H
      clear H
      go_wp2
      go_meet
      case rel => exact ⟨_, (decide (a0 > 4294967295)), (by first | rfl | (simp; done) | (simp [*]; done)), H', ⟨by first | omega | exact Nat.le_refl _⟩, ⟨by repeat (first | (with_reducible first | exact HB.out | apply below_alloc | apply pw_below_drewN | apply below_drew1) | exact HB.out)⟩⟩
  case rest =>
    clear HC2
    try clear p2
    try clear c3
    try clear c3b0
    obtain ⟨kq, x11_1, rfl, HA, HJ1, HB⟩ := hcut
    cases kq with
    | zero => exact absurd HA.out (by simp [sextonref01_Number.j0])
    | succ kj1 =>
      have H := HA.out
      clear HA
      simp only [sextonref01_Number.j0] at H
      by_cases c4 : x11_1 = true
      · subst c4
        have H1 : (some ((⟨#[]⟩ : ByteArray), 1)) = some (r1, r2) := by rw [if_pos rfl] at H; exact H
        clear H
        have H := H1
        clear H1
        simp only [Option.some.injEq, Prod.mk.injEq] at H
        obtain ⟨rfl, rfl⟩ := H
        go_wp2
        go_ret2
        exact ⟨by first | rfl | (simp [errW_none, errW_some] <;> rfl) | (simp [*, errW_none, errW_some] <;> rfl), by repeat (first | (with_reducible first | exact HB.out | apply below_alloc | apply pw_below_drewN | apply below_drew1) | exact HB.out)⟩
      · replace c4 := Bool.eq_false_iff.mpr c4
        subst c4
        have H1 : (sextonref01_Number.l0 kj1 a0 (⟨#[]⟩ : ByteArray) 0) = some (r1, r2) := by rw [if_neg (show ¬ (false = true) by decide)] at H; exact H
        clear H
        have H := H1
        clear H1
        have H' := Aside0.mk H
        clear H
        go_wp2
        go_loopg [0, 4, 5] kj1 (fun kq v0 v4 v5 w' => ∃ (x0_2 : Int) (x4_2 : ByteArray) (x5_2 : Int), v0 = .int .i64 x0_2 ∧ v4 = .string x4_2 ∧ v5 = .int .i64 x5_2 ∧ Aside0 (sextonref01_Number.l0 kq x0_2 x4_2 x5_2 = some (r1, r2)) ∧ Aside0 (kq ≤ kj1) ∧ Aside0 (Below w.heap.size w w'))
        case atStart => exact ⟨(a0), ((⟨#[]⟩ : ByteArray)), (0), (by first | rfl | (simp; done) | (simp [*]; done)), (by first | rfl | (simp; done) | (simp [*]; done)), (by first | rfl | (simp; done) | (simp [*]; done)), H', ⟨Nat.le_refl _⟩, ⟨by repeat (first | (with_reducible first | exact HB.out | apply below_alloc | apply pw_below_drewN | apply below_drew1) | exact HB.out)⟩⟩
        case round =>
          clear H'
          try clear p2
          try clear c3
          try clear c3b0
          try clear c4
          try clear p2
          obtain ⟨x0_2, x4_2, x5_2, rfl, rfl, rfl, HA, HK2, HB⟩ := hrel
          cases gk with
          | zero => exact absurd HA.out (by simp [sextonref01_Number.l0])
          | succ k2 =>
            have H := HA.out
            clear HA
            simp only [sextonref01_Number.l0] at H
            by_cases c5 : x0_2 > 0
            · rw [if_pos c5] at H
              have c5b0 : decide (0 < x0_2) = true := decide_eq_true c5
              clear c5
              obtain ⟨y116, hy116⟩ : ∃ y_ : List Int, y_ = (([(Int.tmod x0_2 256) % 256] : List Int)) := ⟨_, rfl⟩
              replace H : (if (strOfNums y116).size + x4_2.size ≤ 9223372036854775807 then (sextonref01_Number.l0 k2 (wrap64 (Int.tdiv x0_2 256)) ((strOfNums y116) ++ x4_2) (wrap64 (x5_2 + 1))) else (none)) = some (r1, r2) := by first | (rw [hy116]; with_reducible exact H) | (have H2_ := (Option.bind_some _ _).symm.trans H; rw [hy116]; with_reducible exact H2_) | (have H2_ := (Option.bind_some _ _).symm.trans H; with_reducible exact H2_) | with_reducible exact H | (rw [hy116]; exact H) | exact H
              have Ny116 := Aside0.mk hy116
              clear hy116
              by_cases c6 : (strOfNums y116).size + x4_2.size ≤ 9223372036854775807
              · rw [if_pos c6] at H
                have c6b0 := eq_true c6
                have c6b1 : decide ((strOfNums y116).size + x4_2.size ≤ 9223372036854775807) = true := decide_eq_true c6
                try have c6b2 : (9223372036854775807 < (strOfNums y116).size + x4_2.size) = False := eq_false (Nat.not_lt.2 c6)
                have H' := Aside0.mk H
                clear H
                go_wp2_with (first | ((with_reducible refine gate_dst (N := 17) rfl ?_); refine Kd.R_lit (Kd.int .u8) _ 5 ?hg (N := 17) ?hd (xs := ([(Int.tmod x0_2 256) % 256] : List Int)) (inner := [.int .u8 ((Int.tmod x0_2 256) % 256)]) (ok := fun _ => True) (okp := fun _ => True) ?hr ?hp (fun _ hk => hk) trivial (Below.refl _ _) (Nat.le_refl _) (by simp) ?_; (case hd => rfl); (case hg => rfl); (case hr => first | (go_simp; done) | (go_simp; rfl)); (case hp => exact (Reps.one (show Kd.M (Kd.int .u8) _ _ _ ((Int.tmod x0_2 256) % 256) [.int .u8 ((Int.tmod x0_2 256) % 256)] from rfl) (Reps.none _ _))); intro v117 w7 ho8 hb hg_ hnew_; clear hg_ hnew_; (first | rw [← Ny116.out] at ho8 | (simp only [Int.reduceToNat] at ho8; rw [← Ny116.out] at ho8)); have n0_ := Aside0.mk (Kd.R_lower ho8 (below_size (by repeat (first | (with_reducible first | exact HB.out | apply below_alloc | apply pw_below_drewN | apply below_drew1) | exact HB.out)))); have n1_ := Aside0.mk (below_step (by repeat (first | (with_reducible first | exact HB.out | apply below_alloc | apply pw_below_drewN | apply below_drew1) | exact HB.out)) hb); clear HB; have HO118 := n0_; have HB := n1_; clear n0_ n1_; clear hb ho8; have hcv9 := own_string (P := Try.prog) Try.underlying59 Try.underlying5 Try.underlying9 (Kd.own_of_R HO118.out)))
                go_roundg k2
                case measure => have := HJ1.out; have := HK2.out; omega
                case rel => exact ⟨(wrap64 (Int.tdiv x0_2 256)), ((strOfNums y116) ++ x4_2), (wrap64 (x5_2 + 1)), (by first | rfl | (simp; done) | (simp [*]; done)), (by first | rfl | (simp; done) | (simp [*]; done)), (by first | rfl | (simp; done) | (simp [*]; done)), H', ⟨by have := HJ1.out; have := HK2.out; omega⟩, ⟨by repeat (first | (with_reducible first | exact HB.out | apply below_alloc | apply pw_below_drewN | apply below_drew1) | exact HB.out)⟩⟩
              · rw [if_neg c6] at H
                exact absurd H (by simp)
            · rw [if_neg c5] at H
              have c5b0 : decide (0 < x0_2) = false := decide_eq_false c5
              clear c5
              obtain ⟨y119, hy119⟩ : ∃ y_ : List Int, y_ = (([(x5_2) % 256] : List Int)) := ⟨_, rfl⟩
              replace H : (if (strOfNums y119).size + x4_2.size ≤ 9223372036854775807 then (some ((strOfNums y119) ++ x4_2, 0)) else (none)) = some (r1, r2) := by first | (rw [hy119]; with_reducible exact H) | (have H2_ := (Option.bind_some _ _).symm.trans H; rw [hy119]; with_reducible exact H2_) | (have H2_ := (Option.bind_some _ _).symm.trans H; with_reducible exact H2_) | with_reducible exact H | (rw [hy119]; exact H) | exact H
              have Ny119 := Aside0.mk hy119
              clear hy119
              by_cases c10 : (strOfNums y119).size + x4_2.size ≤ 9223372036854775807
              · rw [if_pos c10] at H
                have c10b0 := eq_true c10
                have c10b1 : decide ((strOfNums y119).size + x4_2.size ≤ 9223372036854775807) = true := decide_eq_true c10
                try have c10b2 : (9223372036854775807 < (strOfNums y119).size + x4_2.size) = False := eq_false (Nat.not_lt.2 c10)
                simp only [Option.some.injEq, Prod.mk.injEq] at H
                obtain ⟨rfl, rfl⟩ := H
                go_wp2_with (first | ((with_reducible refine gate_dst (N := 27) rfl ?_); refine Kd.R_lit (Kd.int .u8) _ 5 ?hg (N := 27) ?hd (xs := ([(x5_2) % 256] : List Int)) (inner := [.int .u8 ((x5_2) % 256)]) (ok := fun _ => True) (okp := fun _ => True) ?hr ?hp (fun _ hk => hk) trivial (Below.refl _ _) (Nat.le_refl _) (by simp) ?_; (case hd => rfl); (case hg => rfl); (case hr => first | (go_simp; done) | (go_simp; rfl)); (case hp => exact (Reps.one (show Kd.M (Kd.int .u8) _ _ _ ((x5_2) % 256) [.int .u8 ((x5_2) % 256)] from rfl) (Reps.none _ _))); intro v120 w11 ho12 hb hg_ hnew_; clear hg_ hnew_; (first | rw [← Ny119.out] at ho12 | (simp only [Int.reduceToNat] at ho12; rw [← Ny119.out] at ho12)); have n0_ := Aside0.mk (Kd.R_lower ho12 (below_size (by repeat (first | (with_reducible first | exact HB.out | apply below_alloc | apply pw_below_drewN | apply below_drew1) | exact HB.out)))); have n1_ := Aside0.mk (below_step (by repeat (first | (with_reducible first | exact HB.out | apply below_alloc | apply pw_below_drewN | apply below_drew1) | exact HB.out)) hb); clear HB; have HO121 := n0_; have HB := n1_; clear n0_ n1_; clear hb ho12; have hcv13 := own_string (P := Try.prog) Try.underlying59 Try.underlying5 Try.underlying9 (Kd.own_of_R HO121.out)))
                go_ret2
                exact ⟨by first | rfl | (simp [errW_none, errW_some] <;> rfl) | (simp [*, errW_none, errW_some] <;> rfl), by repeat (first | (with_reducible first | exact HB.out | apply below_alloc | apply pw_below_drewN | apply below_drew1) | exact HB.out)⟩
              · rw [if_neg c10] at H
                exact absurd H (by simp)

end Go.Proofs.Ytfdpebipnapelaa.P
/-
  sextonref01.Number, told plainly.
-/
namespace Go.Proofs.Ytfdpebipnapelaa.P
open Go.RowKit Go.Proofs.CodecPlain Go.Proofs.YtfdpebipnapelaaW.PrintWords Go.Proofs.YtfdpebipnapelaaW.PrintLast

theorem refNumber_l0 : ∀ x : Int, 0 ≤ x → x < 4294967296 → ∀ (acc : ByteArray) (c : Int), acc.size + (nbytes x).length ≤ 1000 → 0 ≤ c → c + ((nbytes x).length : Int) ≤ 1000 →
    Ev (fun k => sextonref01_Number.l0 k x acc c) (strOfNums [(c + ((nbytes x).length : Int)) % 256] ++ (strOfNums (nbytes x) ++ acc), 0) := by
  apply nat_ind
  intro x h0 ih h1 acc c ha hc0 hc1
  by_cases hz : x = 0
  · subst hz
    refine Ev.step (f := fun _ => some (strOfNums [c % 256] ++ acc, 0)) (fun k => ?_) ?_
    · simp only [sextonref01_Number.l0]
      rw [if_neg (by omega)]
      simp only [Option.bind_some]
      rw [if_pos (by rw [strOfNums_size]; simp; omega)]
    · rw [nbytes_zero]
      have : strOfNums [] ++ acc = acc := ba_ext (by rw [app_list, strOfNums_list]; rfl)
      simp only [List.length_nil, Int.natCast_zero, Int.add_zero, this]
      exact Ev.now _
  · refine Ev.step (f := fun k => sextonref01_Number.l0 k (x / 256) (strOfNums [x % 256] ++ acc) (c + 1)) (fun k => ?_) ?_
    · simp only [sextonref01_Number.l0]
      rw [if_pos (by omega)]
      simp only [Option.bind_some]
      rw [if_pos (by rw [strOfNums_size]; simp; omega), Int.tdiv_eq_ediv_of_nonneg h0, wrap_id (x := x / 256) (by omega) (by omega), wrap_id (x := c + 1) (by omega) (by omega), Int.tmod_eq_emod_of_nonneg h0]
      congr 4
      omega
    · have hlen : (nbytes x).length = (nbytes (x / 256)).length + 1 := by rw [nbytes_rec x (by omega) h1]; simp
      have := ih (x / 256) (by omega) (by omega) (by omega) (strOfNums [x % 256] ++ acc) (c + 1) (by
        rw [CodecPlain.size_append, strOfNums_size]; simp; rw [hlen] at ha; omega) (by omega) (by omega)
      rw [nbytes_rec x (by omega) h1]
      have e1 : strOfNums (nbytes (x / 256)) ++ (strOfNums [x % 256] ++ acc) = strOfNums (nbytes (x / 256) ++ [x % 256]) ++ acc := ba_ext (by simp only [app_list, strOfNums_list]; simp)
      rw [e1] at this
      have e2 : c + 1 + ((nbytes (x / 256)).length : Int) = c + ((nbytes (x / 256) ++ [x % 256]).length : Int) := by simp; omega
      rw [e2] at this
      exact this

theorem refNumber (n : Int) : Ev (fun k => sextonref01_Number.f k n) (if 0 ≤ n ∧ n ≤ 4294967295 then (numStr n, 0) else (⟨#[]⟩, 1)) := by
  by_cases h0 : n < 0
  · rw [if_neg (by omega)]
    refine Ev.congr (f := fun k => sextonref01_Number.j0 k n true) (fun k => by unfold sextonref01_Number.f; rw [if_pos h0]) ?_
    exact Ev.step (f := fun _ => some (⟨#[]⟩, 1)) (fun k => by simp [sextonref01_Number.j0]) (Ev.now _)
  · refine Ev.congr (f := fun k => sextonref01_Number.j0 k n (decide (n > 4294967295))) (fun k => by unfold sextonref01_Number.f; rw [if_neg h0]) ?_
    by_cases h1 : n > 4294967295
    · rw [if_neg (by omega), decide_eq_true h1]
      exact Ev.step (f := fun _ => some (⟨#[]⟩, 1)) (fun k => by simp [sextonref01_Number.j0]) (Ev.now _)
    · rw [if_pos (by omega), decide_eq_false h1]
      refine Ev.step (f := fun k => sextonref01_Number.l0 k n ⟨#[]⟩ 0) (fun k => by simp [sextonref01_Number.j0]) ?_
      have hl := nbytes_length n
      have := refNumber_l0 n (by omega) (by omega) ⟨#[]⟩ 0 (by have : (⟨#[]⟩ : ByteArray).size = 0 := rfl; omega) (by omega) (by omega)
      have e : strOfNums [(0 + ((nbytes n).length : Int)) % 256] ++ (strOfNums (nbytes n) ++ ⟨#[]⟩) = numStr n := ba_ext (by
        simp only [app_list, strOfNums_list, numStr_list]
        rw [show (0 + ((nbytes n).length : Int)) % 256 = ((nbytes n).length : Int) by omega]
        simp)
      rw [e] at this
      exact this
end Go.Proofs.Ytfdpebipnapelaa.P
-- Written by a program of this session (xprint.py) over the kit's print.py.
namespace Go.Proofs.Ytfdpebipnapelaa.P
open Go.RowKit Go.Proofs.YtfdpebipnapelaaW.PrintWords Go.Proofs.YtfdpebipnapelaaW.PrintLast Go.Proofs.YtfdpebipnapelaaW.PrintMore
attribute [local go_sem] max2_int min2_int max_two min_two max_three min_three max_four min_four   -- for this text's walks alone
set_option linter.unusedVariables false
set_option linter.unusedSimpArgs false

/-! ### sextonref01_GetNumber: function 66 -/
mutual
def sextonref01_GetNumber.j0 : Nat → ByteArray → Bool → Option (Int × ByteArray × Bool)
  | 0, _, _ => none
  | k + 1, x0, x26 => if x26 = true then (some (0, (⟨#[]⟩ : ByteArray), false)) else (if 0 < (x0.size : Int) then (sextonref01_GetNumber.l0 k x0 (wrap64 (1 + (wrap64 (bt x0 0)))) 0 1) else (none))
def sextonref01_GetNumber.l0 : Nat → ByteArray → Int → Int → Int → Option (Int × ByteArray × Bool)
  | 0, _, _, _, _ => none
  | k + 1, x0, x5, x6, x7 => if x7 < x5 then (if 0 ≤ x7 then (if x7 < (x0.size : Int) then (sextonref01_GetNumber.l0 k x0 x5 (wrap64 ((wrap64 (256 * x6)) + (wrap64 (bt x0 x7)))) (wrap64 (x7 + 1))) else (none)) else (none)) else ((sextonref01_Number.f k x6).bind fun bt133 => (if 0 ≤ x5 then (if x5 ≤ (x0.size : Int) then (if bt133.1.toList = (x0.extract 0 (x5 : Int).toNat).toList then (some (x6, x0.extract (x5 : Int).toNat x0.size, true)) else (some (0, (⟨#[]⟩ : ByteArray), false))) else (none)) else (none)))
end
def sextonref01_GetNumber.f (k : Nat) (a0 : ByteArray) : Option (Int × ByteArray × Bool) := if (a0.size : Int) = 0 then (sextonref01_GetNumber.j0 k a0 true) else (if 0 < (a0.size : Int) then (if (bt a0 0) > 4 then (sextonref01_GetNumber.j0 k a0 true) else (sextonref01_GetNumber.j0 k a0 (decide ((a0.size : Int) < (wrap64 (1 + (wrap64 (bt a0 0)))))))) else (none))
theorem sextonref01_GetNumber.mono_l : ∀ k, (∀ y0 y1, LeO (sextonref01_GetNumber.j0 k y0 y1) (sextonref01_GetNumber.j0 (k + 1) y0 y1)) ∧ (∀ y0 y1 y2 y3, LeO (sextonref01_GetNumber.l0 k y0 y1 y2 y3) (sextonref01_GetNumber.l0 (k + 1) y0 y1 y2 y3))
  | 0 => ⟨fun _ _ r h => by simp [sextonref01_GetNumber.j0] at h, fun _ _ _ _ r h => by simp [sextonref01_GetNumber.l0] at h⟩
  | k + 1 => by
    obtain ⟨ih0, ih1⟩ := sextonref01_GetNumber.mono_l k
    refine ⟨?_, ?_⟩
    · intro y0 y1
      unfold sextonref01_GetNumber.j0
      repeat' first
      | (with_reducible exact ih0 _ _)
      | (with_reducible exact ih1 _ _ _ _)
      | (with_reducible exact sextonref01_Number.mono _ _)
      | (with_reducible exact LeO.refl _)
      | (with_reducible exact LeO.none _)
      | (with_reducible refine LeO.ite ?_ ?_)
      | (with_reducible refine LeO.bind ?_ (fun _ => ?_))
      | exact ih0 _ _
      | exact ih1 _ _ _ _
      | exact sextonref01_Number.mono _ _
      | exact LeO.none _
      | refine LeO.ite ?_ ?_
      | refine LeO.bind ?_ (fun _ => ?_)
    · intro y0 y1 y2 y3
      unfold sextonref01_GetNumber.l0
      repeat' first
      | (with_reducible exact ih0 _ _)
      | (with_reducible exact ih1 _ _ _ _)
      | (with_reducible exact sextonref01_Number.mono _ _)
      | (with_reducible exact LeO.refl _)
      | (with_reducible exact LeO.none _)
      | (with_reducible refine LeO.ite ?_ ?_)
      | (with_reducible refine LeO.bind ?_ (fun _ => ?_))
      | exact ih0 _ _
      | exact ih1 _ _ _ _
      | exact sextonref01_Number.mono _ _
      | exact LeO.none _
      | refine LeO.ite ?_ ?_
      | refine LeO.bind ?_ (fun _ => ?_)
theorem sextonref01_GetNumber.mono : ∀ a0 k, LeO (sextonref01_GetNumber.f k a0) (sextonref01_GetNumber.f (k + 1) a0) := by
  intro a0 k
  obtain ⟨ih0, ih1⟩ := sextonref01_GetNumber.mono_l k
  unfold sextonref01_GetNumber.f
  repeat' first
      | (with_reducible exact ih0 _ _)
      | (with_reducible exact ih1 _ _ _ _)
      | (with_reducible exact sextonref01_Number.mono _ _)
      | (with_reducible exact LeO.refl _)
      | (with_reducible exact LeO.none _)
      | (with_reducible refine LeO.ite ?_ ?_)
      | (with_reducible refine LeO.bind ?_ (fun _ => ?_))
      | exact ih0 _ _
      | exact ih1 _ _ _ _
      | exact sextonref01_Number.mono _ _
      | exact LeO.none _
      | refine LeO.ite ?_ ?_
      | refine LeO.bind ?_ (fun _ => ?_)
set_option maxHeartbeats 8000000 in
set_option maxRecDepth 100000 in
theorem sextonref01_GetNumber.calls (k : Nat) (a0 : ByteArray) (r1 : Int) (r2 : ByteArray) (r3 : Bool) (w : World) (h : sextonref01_GetNumber.f k a0 = some (r1, r2, r3)) :
    Calls Try.prog 66 #[.string a0] w fun e w' => e = .returned (.tuple #[.int .i64 r1, .string r2, .bool r3]) ∧ Below w.heap.size w w' := by
  have HB := Aside0.mk (Below.refl w.heap.size w)
  have H : (if (a0.size : Int) = 0 then (sextonref01_GetNumber.j0 k a0 true) else (if 0 < (a0.size : Int) then (if (bt a0 0) > 4 then (sextonref01_GetNumber.j0 k a0 true) else (sextonref01_GetNumber.j0 k a0 (decide ((a0.size : Int) < (wrap64 (1 + (wrap64 (bt a0 0)))))))) else (none))) = some (r1, r2, r3) := h
  clear h
  have HC2 := Aside0.mk H
  clear H
  go_enter Try.func66, Try.ntmps66
  go_upto_region 1 with (fail)
  repeat (go_quiet (fail); go_upto_region 1 with (fail))
  go_cut [26] (fun v26 wc => ∃ (kq : Nat) (x26_1 : Bool), v26 = .bool x26_1 ∧ Aside0 (sextonref01_GetNumber.j0 kq a0 x26_1 = some (r1, r2, r3)) ∧ Aside0 (kq ≤ k) ∧ Aside0 (Below w.heap.size w wc))
  case first =>
    have H := HC2.out
    clear HC2
    by_cases c3 : (a0.size : Int) = 0
    · rw [if_pos c3] at H
      have c3b0 : ((a0.size : Int) == 0) = true := beq_iff_eq.mpr c3
      have c3b1 : ((a0.size : Int) != 0) = false := bne_eq_false_iff_eq.mpr c3
      clear c3
      (first | rw [c3b0] | (simp only [i64_w, i32_w]; rw [c3b0]) | skip)
      have H' := Aside0.mk H
      clear H
      go_wp2
      repeat (go_quiet (fail); try go_wp2)
      go_meet
      case rel => exact ⟨_, (true), (by first | rfl | (simp; done) | (simp [*]; done)), H', ⟨by first | omega | exact Nat.le_refl _⟩, ⟨by repeat (first | (with_reducible first | exact HB.out | apply below_alloc | apply pw_below_drewN | apply below_drew1) | exact HB.out)⟩⟩
    · rw [if_neg c3] at H
      have c3b0 : ((a0.size : Int) == 0) = false := beq_eq_false_iff_ne.mpr c3
      have c3b1 : ((a0.size : Int) != 0) = true := bne_iff_ne.mpr c3
      (first | rw [c3b0] | (simp only [i64_w, i32_w]; rw [c3b0]) | skip)
      by_cases c4 : 0 < (a0.size : Int)
      · rw [if_pos c4] at H
        have c4b0 : decide (0 < (a0.size : Int)) = true := decide_eq_true c4
        have c4b1 : decide (0 < a0.size) = true := decide_eq_true (by omega)
        clear c4
        by_cases c6 : (bt a0 0) > 4
        · rw [if_pos c6] at H
          have c6b0 : decide (4 < (bt a0 0)) = true := decide_eq_true c6
          clear c6
          have H' := Aside0.mk H
          clear H
          have p5 : 0 ≤ (0 : Int) := (by omega)
          have q5 : 0 < a0.size := (by have : (0 : Int) < (a0.size : Int) := of_decide_eq_true (by first | (with_reducible assumption) | assumption); omega)
          have hx5 : ∀ h : 0 < a0.size, ((a0[0]'h).toNat : Int) = bt a0 0 := bt_at a0 0
          clear p5
          have qi5 : (0 < (a0.size : Int)) = True := eq_true (of_decide_eq_true (by first | (with_reducible assumption) | assumption))
          replace q5 := eq_true q5
          go_wp2
          repeat (go_quiet (fail); try go_wp2)
          go_meet
          case rel => exact ⟨_, (true), (by first | rfl | (simp; done) | (simp [*]; done)), H', ⟨by first | omega | exact Nat.le_refl _⟩, ⟨by repeat (first | (with_reducible first | exact HB.out | apply below_alloc | apply pw_below_drewN | apply below_drew1) | exact HB.out)⟩⟩
        · rw [if_neg c6] at H
          have c6b0 : decide (4 < (bt a0 0)) = false := decide_eq_false c6
          clear c6
          have H' := Aside0.mk H
          clear H
          have p5 : 0 ≤ (0 : Int) := (by omega)
          have q5 : 0 < a0.size := (by have : (0 : Int) < (a0.size : Int) := of_decide_eq_true (by first | (with_reducible assumption) | assumption); omega)
          have hx5 : ∀ h : 0 < a0.size, ((a0[0]'h).toNat : Int) = bt a0 0 := bt_at a0 0
          clear p5
          have qi5 : (0 < (a0.size : Int)) = True := eq_true (of_decide_eq_true (by first | (with_reducible assumption) | assumption))
          replace q5 := eq_true q5
          have p7 : 0 ≤ (0 : Int) := (by omega)
          have q7 : 0 < a0.size := (by have : (0 : Int) < (a0.size : Int) := of_decide_eq_true (by first | (with_reducible assumption) | assumption); omega)
          have hx7 : ∀ h : 0 < a0.size, ((a0[0]'h).toNat : Int) = bt a0 0 := bt_at a0 0
          clear p7
          have qi7 : (0 < (a0.size : Int)) = True := eq_true (of_decide_eq_true (by first | (with_reducible assumption) | assumption))
          replace q7 := eq_true q7
          go_wp2
          repeat (go_quiet (fail); try go_wp2)
          go_meet
          case rel => exact ⟨_, (decide ((a0.size : Int) < (wrap64 (1 + (wrap64 (bt a0 0)))))), (by first | rfl | (simp; done) | (simp [*]; done)), H', ⟨by first | omega | exact Nat.le_refl _⟩, ⟨by repeat (first | (with_reducible first | exact HB.out | apply below_alloc | apply pw_below_drewN | apply below_drew1) | exact HB.out)⟩⟩
      · rw [if_neg c4] at H
        exact absurd H (by simp)
  case rest =>
    clear HC2
    try clear p2
    try clear c3
    try clear c3b0
    try clear c3b1
    try clear c4
    try clear c4b0
    try clear c4b1
    try clear p5
    try clear q5
    try clear hx5
    try clear qi5
    try clear c6
    try clear c6b0
    try clear p6
    try clear p7
    try clear q7
    try clear hx7
    try clear qi7
    try clear p5
    try clear p7
    try clear q5
    try clear q7
    obtain ⟨kq, x26_1, rfl, HA, HJ1, HB⟩ := hcut
    cases kq with
    | zero => exact absurd HA.out (by simp [sextonref01_GetNumber.j0])
    | succ kj1 =>
      have H := HA.out
      clear HA
      simp only [sextonref01_GetNumber.j0] at H
      by_cases c8 : x26_1 = true
      · subst c8
        have H1 : (some (0, (⟨#[]⟩ : ByteArray), false)) = some (r1, r2, r3) := by rw [if_pos rfl] at H; exact H
        clear H
        have H := H1
        clear H1
        simp only [Option.some.injEq, Prod.mk.injEq] at H
        obtain ⟨rfl, rfl, rfl⟩ := H
        go_wp2
        repeat (go_quiet (fail); try go_wp2)
        go_ret3
        exact ⟨by first | rfl | (simp [errW_none, errW_some] <;> rfl) | (simp [*, errW_none, errW_some] <;> rfl), by repeat (first | (with_reducible first | exact HB.out | apply below_alloc | apply pw_below_drewN | apply below_drew1) | exact HB.out)⟩
      · replace c8 := Bool.eq_false_iff.mpr c8
        subst c8
        have H1 : (if 0 < (a0.size : Int) then (sextonref01_GetNumber.l0 kj1 a0 (wrap64 (1 + (wrap64 (bt a0 0)))) 0 1) else (none)) = some (r1, r2, r3) := by rw [if_neg (show ¬ (false = true) by decide)] at H; exact H
        clear H
        have H := H1
        clear H1
        by_cases c9 : 0 < (a0.size : Int)
        · rw [if_pos c9] at H
          have c9b0 : decide (0 < (a0.size : Int)) = true := decide_eq_true c9
          have c9b1 : decide (0 < a0.size) = true := decide_eq_true (by omega)
          clear c9
          have H' := Aside0.mk H
          clear H
          have p10 : 0 ≤ (0 : Int) := (by omega)
          have q10 : 0 < a0.size := (by have : (0 : Int) < (a0.size : Int) := of_decide_eq_true (by first | (with_reducible assumption) | assumption); omega)
          have hx10 : ∀ h : 0 < a0.size, ((a0[0]'h).toNat : Int) = bt a0 0 := bt_at a0 0
          clear p10
          have qi10 : (0 < (a0.size : Int)) = True := eq_true (of_decide_eq_true (by first | (with_reducible assumption) | assumption))
          replace q10 := eq_true q10
          go_wp2
          repeat (go_quiet (fail); try go_wp2)
          go_loopg [6, 7] kj1 (fun kq v6 v7 w' => ∃ (x6_2 : Int) (x7_2 : Int), v6 = .int .i64 x6_2 ∧ v7 = .int .i64 x7_2 ∧ Aside0 (sextonref01_GetNumber.l0 kq a0 (wrap64 (1 + (wrap64 (bt a0 0)))) x6_2 x7_2 = some (r1, r2, r3)) ∧ Aside0 (kq ≤ kj1) ∧ Aside0 (Below w.heap.size w w'))
          case atStart => exact ⟨(0), (1), (by first | rfl | (simp; done) | (simp [*]; done)), (by first | rfl | (simp; done) | (simp [*]; done)), H', ⟨Nat.le_refl _⟩, ⟨by repeat (first | (with_reducible first | exact HB.out | apply below_alloc | apply pw_below_drewN | apply below_drew1) | exact HB.out)⟩⟩
          case round =>
            clear H'
            try clear p1
            try clear q1
            try clear hx1
            try clear qi1
            try clear p2
            try clear c3
            try clear c3b0
            try clear c3b1
            try clear c4
            try clear c4b0
            try clear c4b1
            try clear p5
            try clear q5
            try clear hx5
            try clear qi5
            try clear c6
            try clear c6b0
            try clear p6
            try clear p7
            try clear q7
            try clear hx7
            try clear qi7
            try clear c8
            try clear c9
            try clear c9b0
            try clear c9b1
            try clear p10
            try clear q10
            try clear hx10
            try clear qi10
            try clear p10
            try clear p2
            try clear p5
            try clear p6
            try clear p7
            try clear q10
            try clear q5
            try clear q7
            obtain ⟨x6_2, x7_2, rfl, rfl, HA, HK2, HB⟩ := hrel
            cases gk with
            | zero => exact absurd HA.out (by simp [sextonref01_GetNumber.l0])
            | succ k2 =>
              have H := HA.out
              clear HA
              simp only [sextonref01_GetNumber.l0] at H
              by_cases c11 : x7_2 < (wrap64 (1 + (wrap64 (bt a0 0))))
              · rw [if_pos c11] at H
                have c11b0 : decide (x7_2 < (wrap64 (1 + (wrap64 (bt a0 0))))) = true := decide_eq_true c11
                clear c11
                by_cases c12 : 0 ≤ x7_2
                · rw [if_pos c12] at H
                  have c12b0 : decide (0 ≤ x7_2) = true := decide_eq_true c12
                  clear c12
                  by_cases c13 : x7_2 < (a0.size : Int)
                  · rw [if_pos c13] at H
                    have c13b0 : decide (x7_2 < (a0.size : Int)) = true := decide_eq_true c13
                    clear c13
                    have H' := Aside0.mk H
                    clear H
                    have p14 : 0 ≤ (x7_2 : Int) := of_decide_eq_true (by first | (with_reducible assumption) | assumption)
                    have q14 : x7_2 < (a0.size : Int) := of_decide_eq_true (by first | (with_reducible assumption) | assumption)
                    have hx14 := bt_at a0 x7_2
                    replace p14 := eq_true p14
                    replace q14 := eq_true q14
                    go_wp2
                    repeat (go_quiet (fail); try go_wp2)
                    go_roundg k2
                    case measure => have := HJ1.out; have := HK2.out; omega
                    case rel => exact ⟨(wrap64 ((wrap64 (256 * x6_2)) + (wrap64 (bt a0 x7_2)))), (wrap64 (x7_2 + 1)), (by first | rfl | (simp; done) | (simp [*]; done)), (by first | rfl | (simp; done) | (simp [*]; done)), H', ⟨by have := HJ1.out; have := HK2.out; omega⟩, ⟨by repeat (first | (with_reducible first | exact HB.out | apply below_alloc | apply pw_below_drewN | apply below_drew1) | exact HB.out)⟩⟩
                  · rw [if_neg c13] at H
                    exact absurd H (by simp)
                · rw [if_neg c12] at H
                  exact absurd H (by simp)
              · rw [if_neg c11] at H
                have c11b0 : decide (x7_2 < (wrap64 (1 + (wrap64 (bt a0 0))))) = false := decide_eq_false c11
                clear c11
                replace H := Option.bind_eq_some_iff.mp H
                obtain ⟨⟨t133, t134⟩, A150, H⟩ := H
                replace H : (if 0 ≤ (wrap64 (1 + (wrap64 (bt a0 0)))) then (if (wrap64 (1 + (wrap64 (bt a0 0)))) ≤ (a0.size : Int) then (if t133.toList = (a0.extract 0 ((wrap64 (1 + (wrap64 (bt a0 0)))) : Int).toNat).toList then (some (x6_2, a0.extract ((wrap64 (1 + (wrap64 (bt a0 0)))) : Int).toNat a0.size, true)) else (some (0, (⟨#[]⟩ : ByteArray), false))) else (none)) else (none)) = some (r1, r2, r3) := H
                have A15 := Aside0.mk A150
                clear A150
                obtain ⟨ji16, hji16⟩ : ∃ j_ : Int, (wrap64 (1 + (wrap64 (bt a0 0)))) = j_ := ⟨_, rfl⟩
                replace H : (if 0 ≤ (ji16) then (if (ji16) ≤ (a0.size : Int) then (if t133.toList = (a0.extract 0 ((ji16) : Int).toNat).toList then (some (x6_2, a0.extract ((ji16) : Int).toNat a0.size, true)) else (some (0, (⟨#[]⟩ : ByteArray), false))) else (none)) else (none)) = some (r1, r2, r3) := by first | (rw [hji16] at H; exact H) | (simp only [hji16] at H ⊢; exact H)
                (try rw [hji16] at c11b0)
                (try rw [hji16] at A15)
                have hji16w : (IntKind.i64.wrap (1 + (wrap64 (bt a0 0)))) = ji16 := (i64_w _).trans hji16
                by_cases c17 : 0 ≤ (ji16)
                · rw [if_pos c17] at H
                  have c17b0 := eq_true c17
                  have c17b1 : decide (0 ≤ (ji16)) = true := decide_eq_true c17
                  clear c17
                  by_cases c18 : (ji16) ≤ (a0.size : Int)
                  · rw [if_pos c18] at H
                    have c18b0 := eq_true c18
                    have c18b1 : decide ((ji16) ≤ (a0.size : Int)) = true := decide_eq_true c18
                    clear c18
                    by_cases c19 : t133.toList = (a0.extract 0 ((ji16) : Int).toNat).toList
                    · rw [if_pos c19] at H
                      have c19b0 : (t133.toList == (a0.extract 0 ((ji16) : Int).toNat).toList) = true := beq_iff_eq.mpr c19
                      have c19b1 : (t133.toList != (a0.extract 0 ((ji16) : Int).toNat).toList) = false := bne_eq_false_iff_eq.mpr c19
                      clear c19
                      have c20b0 := eq_true (of_decide_eq_true (by first | (with_reducible assumption) | assumption) : 0 ≤ (ji16))
                      have c21b0 := eq_true (of_decide_eq_true (by first | (with_reducible assumption) | assumption) : (ji16) ≤ (a0.size : Int))
                      simp only [Option.some.injEq, Prod.mk.injEq] at H
                      obtain ⟨rfl, rfl, rfl⟩ := H
                      go_wp2_with (first | (go_at_call 46; (with_reducible refine (sextonref01_Number.calls k2 x6_2 t133 t134 _ A15.out).mono ?_); rintro e w22 ⟨rfl, hb⟩; have n0_ := Aside0.mk (below_step (by repeat (first | (with_reducible first | exact HB.out | apply below_alloc | apply pw_below_drewN | apply below_drew1) | exact HB.out)) hb); clear HB; have HB := n0_; clear n0_; (try clear hb); (try clear hb2); (try clear hk); (try clear hi)))
                      repeat (go_quiet (first | (go_at_call 46; (with_reducible refine (sextonref01_Number.calls k2 x6_2 t133 t134 _ A15.out).mono ?_); rintro e w22 ⟨rfl, hb⟩; have n0_ := Aside0.mk (below_step (by repeat (first | (with_reducible first | exact HB.out | apply below_alloc | apply pw_below_drewN | apply below_drew1) | exact HB.out)) hb); clear HB; have HB := n0_; clear n0_; (try clear hb); (try clear hb2); (try clear hk); (try clear hi))); try go_wp2_with (first | (go_at_call 46; (with_reducible refine (sextonref01_Number.calls k2 x6_2 t133 t134 _ A15.out).mono ?_); rintro e w22 ⟨rfl, hb⟩; have n0_ := Aside0.mk (below_step (by repeat (first | (with_reducible first | exact HB.out | apply below_alloc | apply pw_below_drewN | apply below_drew1) | exact HB.out)) hb); clear HB; have HB := n0_; clear n0_; (try clear hb); (try clear hb2); (try clear hk); (try clear hi))))
                      go_ret3
                      exact ⟨by first | rfl | (simp [errW_none, errW_some] <;> rfl) | (simp only [← hji16]; first | rfl | (simp [errW_none, errW_some] <;> rfl)) | (simp [*, errW_none, errW_some] <;> rfl), by repeat (first | (with_reducible first | exact HB.out | apply below_alloc | apply pw_below_drewN | apply below_drew1) | exact HB.out)⟩
                    · rw [if_neg c19] at H
                      have c19b0 : (t133.toList == (a0.extract 0 ((ji16) : Int).toNat).toList) = false := beq_eq_false_iff_ne.mpr c19
                      have c19b1 : (t133.toList != (a0.extract 0 ((ji16) : Int).toNat).toList) = true := bne_iff_ne.mpr c19
                      simp only [Option.some.injEq, Prod.mk.injEq] at H
                      obtain ⟨rfl, rfl, rfl⟩ := H
                      go_wp2_with (first | (go_at_call 46; (with_reducible refine (sextonref01_Number.calls k2 x6_2 t133 t134 _ A15.out).mono ?_); rintro e w23 ⟨rfl, hb⟩; have n0_ := Aside0.mk (below_step (by repeat (first | (with_reducible first | exact HB.out | apply below_alloc | apply pw_below_drewN | apply below_drew1) | exact HB.out)) hb); clear HB; have HB := n0_; clear n0_; (try clear hb); (try clear hb2); (try clear hk); (try clear hi)))
                      repeat (go_quiet (first | (go_at_call 46; (with_reducible refine (sextonref01_Number.calls k2 x6_2 t133 t134 _ A15.out).mono ?_); rintro e w23 ⟨rfl, hb⟩; have n0_ := Aside0.mk (below_step (by repeat (first | (with_reducible first | exact HB.out | apply below_alloc | apply pw_below_drewN | apply below_drew1) | exact HB.out)) hb); clear HB; have HB := n0_; clear n0_; (try clear hb); (try clear hb2); (try clear hk); (try clear hi))); try go_wp2_with (first | (go_at_call 46; (with_reducible refine (sextonref01_Number.calls k2 x6_2 t133 t134 _ A15.out).mono ?_); rintro e w23 ⟨rfl, hb⟩; have n0_ := Aside0.mk (below_step (by repeat (first | (with_reducible first | exact HB.out | apply below_alloc | apply pw_below_drewN | apply below_drew1) | exact HB.out)) hb); clear HB; have HB := n0_; clear n0_; (try clear hb); (try clear hb2); (try clear hk); (try clear hi))))
                      go_ret3
                      exact ⟨by first | rfl | (simp [errW_none, errW_some] <;> rfl) | (simp only [← hji16]; first | rfl | (simp [errW_none, errW_some] <;> rfl)) | (simp [*, errW_none, errW_some] <;> rfl), by repeat (first | (with_reducible first | exact HB.out | apply below_alloc | apply pw_below_drewN | apply below_drew1) | exact HB.out)⟩
                  · rw [if_neg c18] at H
                    exact absurd H (by simp)
                · rw [if_neg c17] at H
                  exact absurd H (by simp)
        · rw [if_neg c9] at H
          exact absurd H (by simp)

end Go.Proofs.Ytfdpebipnapelaa.P
/-
  sextonref01.GetNumber, told plainly.
-/
namespace Go.Proofs.Ytfdpebipnapelaa.P
open Go.RowKit Go.Proofs.CodecPlain Go.Proofs.YtfdpebipnapelaaW.PrintWords Go.Proofs.YtfdpebipnapelaaW.PrintLast

theorem accB_bd4 (l : List UInt8) (h : l.length ≤ 4) : 0 ≤ accB l ∧ accB l < 4294967296 := by
  have hbd := accB_bd l
  refine ⟨hbd.1, Int.lt_of_lt_of_le hbd.2 ?_⟩
  match l.length, h with
  | 0, _ => decide
  | 1, _ => decide
  | 2, _ => decide
  | 3, _ => decide
  | 4, _ => decide

theorem bt_list (s : ByteArray) (i : Nat) (h : i < s.data.toList.length) : bt s (i : Int) = (s.data.toList[i].toNat : Int) := by
  have h' : i < s.size := by rw [len_list] at h; exact h
  unfold bt
  rw [dif_pos (by simpa using h')]
  rfl

theorem bt_hd (s : ByteArray) (h : 0 < s.size) : bt s 0 = (hd s : Int) := by
  unfold bt hd
  rw [dif_pos (by simpa using h), dif_pos h]
  rfl

theorem wrap_bt (s : ByteArray) (i : Int) : wrap64 (bt s i) = bt s i := by have := bt_range s i; exact wrap_id (by omega) (by omega)

/-- Whether a number's own text stands at the begin. -/
theorem getNum_by (s : ByteArray) (h0 : 0 < s.size) (h4 : hd s ≤ 4) (h5 : hd s < s.size) :
    getNum s = if numStr (accB (s.extract 1 (1 + hd s)).data.toList) = s.extract 0 (1 + hd s) then (accB (s.extract 1 (1 + hd s)).data.toList, s.extract (1 + hd s) s.size, true) else (0, ⟨#[]⟩, false) := by
  have hbl : ((s.extract 1 (1 + hd s)).data.toList).length = hd s := by rw [len_list, ByteArray.size_extract]; omega
  have hbd := accB_bd4 (s.extract 1 (1 + hd s)).data.toList (by omega)
  have hlt : accB (s.extract 1 (1 + hd s)).data.toList ≤ 4294967295 := by omega
  have hsplit : s = s.extract 0 (1 + hd s) ++ s.extract (1 + hd s) s.size := by
    apply ba_ext
    rw [app_list, ext_list, ext_list, List.drop_zero, Nat.sub_zero]
    rw [List.take_of_length_le (l := s.data.toList.drop (1 + hd s)) (by rw [List.length_drop, len_list]; omega), List.take_append_drop]
  by_cases he : numStr (accB (s.extract 1 (1 + hd s)).data.toList) = s.extract 0 (1 + hd s)
  · rw [if_pos he]
    have := getNum_put (accB (s.extract 1 (1 + hd s)).data.toList) hbd.1 hlt (s.extract (1 + hd s) s.size)
    rw [he, ← hsplit] at this
    exact this
  · rw [if_neg he]
    cases hok : (getNum s).2.2 with
    | false => exact getNum_no' hok
    | true =>
      exfalso
      obtain ⟨n, r, b, hn⟩ : ∃ n r b, getNum s = (n, r, b) := ⟨_, _, _, rfl⟩
      rw [hn] at hok
      simp only at hok
      subst hok
      obtain ⟨h1, h2, h3⟩ := getNum_got hn
      have hval : n = accB (s.extract 1 (1 + hd s)).data.toList := by
        rw [getNum_is s h0 h4 h5] at hn
        split at hn
        · simp at hn
        · simp only [Prod.mk.injEq, and_true] at hn; exact hn.1.symm
      have hhd : hd s = (nbytes n).length := by
        have hl := nbytes_length n
        conv => lhs; rw [h3]
        rw [hd_list, app_list, numStr_list]
        have := u8_toNat (n := ((nbytes n).length : Int)) (by omega) (by omega)
        show (u8 _).toNat = _
        omega
      apply he
      rw [← hval]
      apply ba_ext
      rw [ext_list, List.drop_zero, Nat.sub_zero, hhd]
      conv => rhs; rw [h3]
      rw [app_list, List.take_append_of_le_length (by rw [len_list, numStr_sz]; exact Nat.le_refl _), List.take_of_length_le (by rw [len_list, numStr_sz]; exact Nat.le_refl _)]

theorem refGet_l0 (s : ByteArray) (m : Nat) (h4 : m ≤ 4) (h5 : m < s.size) (d : Nat) : ∀ i : Nat, i + d = 1 + m → 1 ≤ i →
    Ev (fun k => sextonref01_GetNumber.l0 k s ((1 + m : Nat) : Int) (accB ((s.data.toList.drop 1).take (i - 1))) (i : Int))
      (if numStr (accB (s.extract 1 (1 + m)).data.toList) = s.extract 0 (1 + m) then (accB (s.extract 1 (1 + m)).data.toList, s.extract (1 + m) s.size, true) else (0, ⟨#[]⟩, false)) := by
  induction d with
  | zero =>
    intro i hi h1
    obtain rfl : i = 1 + m := by omega
    have hb : (s.data.toList.drop 1).take (1 + m - 1) = (s.extract 1 (1 + m)).data.toList := by rw [ext_list]
    rw [hb]
    have hbl : ((s.extract 1 (1 + m)).data.toList).length = m := by rw [len_list, ByteArray.size_extract]; omega
    have hbd := accB_bd4 (s.extract 1 (1 + m)).data.toList (by omega)
    have hlt : accB (s.extract 1 (1 + m)).data.toList ≤ 4294967295 := by omega
    generalize accB (s.extract 1 (1 + m)).data.toList = v at *
    have hn := refNumber v
    rw [if_pos ⟨hbd.1, hlt⟩] at hn
    refine Ev.step (f := fun k => (sextonref01_Number.f k v).bind fun bt186 => (if (0 : Int) ≤ ((1 + m : Nat) : Int) then (if ((1 + m : Nat) : Int) ≤ (s.size : Int) then (if bt186.1.toList = (s.extract 0 (1 + m)).toList then (some (v, s.extract (1 + m) s.size, true)) else (some (0, (⟨#[]⟩ : ByteArray), false))) else (none)) else (none))) (fun k => ?_) ?_
    · simp only [sextonref01_GetNumber.l0]
      rw [if_neg (by omega)]
      rfl
    · refine Ev.bind hn (Ev.congr (f := fun _ => some (if numStr v = s.extract 0 (1 + m) then (v, s.extract (1 + m) s.size, true) else (0, ⟨#[]⟩, false))) (fun k => ?_) (Ev.now _))
      simp only
      rw [if_pos (by omega), if_pos (by omega)]
      by_cases he : numStr v = s.extract 0 (1 + m)
      · rw [if_pos he, if_pos (by rw [he])]
      · rw [if_neg he, if_neg (fun h => he (toList_inj h))]
  | succ d ih =>
    intro i hi h1
    have hlt : i < s.size := by omega
    have hll : i < s.data.toList.length := by rw [len_list]; exact hlt
    have hn := ih (i + 1) (by omega) (by omega)
    have hacc : accB ((s.data.toList.drop 1).take (i + 1 - 1)) = 256 * accB ((s.data.toList.drop 1).take (i - 1)) + bt s (i : Int) := by
      have hl2 : i - 1 < (s.data.toList.drop 1).length := by rw [List.length_drop]; omega
      rw [bt_list s i hll, show i + 1 - 1 = (i - 1) + 1 by omega, List.take_succ_eq_append_getElem hl2, accB_snoc]
      have : (s.data.toList.drop 1)[i - 1] = s.data.toList[i] := by
        rw [List.getElem_drop]
        congr 1
        omega
      rw [this]
      omega
    have hbd := accB_bd4 ((s.data.toList.drop 1).take (i - 1)) (by rw [List.length_take]; omega)
    have hbr := bt_range s (i : Int)
    refine Ev.step (f := fun k => sextonref01_GetNumber.l0 k s ((1 + m : Nat) : Int) (accB ((s.data.toList.drop 1).take (i + 1 - 1))) ((i + 1 : Nat) : Int)) (fun k => ?_) hn
    simp only [sextonref01_GetNumber.l0]
    rw [if_pos (by omega), if_pos (by omega), if_pos (by omega), wrap_bt, wrap_id (x := 256 * accB ((s.data.toList.drop 1).take (i - 1))) (by omega) (by omega), wrap_id (x := _ + bt s (i : Int)) (by omega) (by omega), wrap_id (x := (i : Int) + 1) (by omega) (by omega), hacc]
    rfl

theorem refGetNumber (s : ByteArray) : Ev (fun k => sextonref01_GetNumber.f k s) (getNum s) := by
  have hno : Ev (fun k => sextonref01_GetNumber.j0 k s true) (0, ⟨#[]⟩, false) :=
    Ev.step (f := fun _ => some (0, ⟨#[]⟩, false)) (fun k => by simp [sextonref01_GetNumber.j0]) (Ev.now _)
  by_cases h0 : s.size = 0
  · rw [getNum_no (.inl h0)]
    exact Ev.congr (fun k => by unfold sextonref01_GetNumber.f; rw [if_pos (by omega)]) hno
  · have q : 0 < s.size := by omega
    have hb := bt_hd s q
    by_cases h4 : 4 < hd s
    · rw [getNum_no (.inr (.inl h4))]
      exact Ev.congr (fun k => by unfold sextonref01_GetNumber.f; rw [if_neg (by omega), if_pos (by omega), if_pos (by omega)]) hno
    · have hw : wrap64 (1 + wrap64 (bt s 0)) = ((1 + hd s : Nat) : Int) := by
        rw [wrap_bt, hb, wrap_id (by omega) (by omega)]; omega
      refine Ev.congr (f := fun k => sextonref01_GetNumber.j0 k s (decide ((s.size : Int) < ((1 + hd s : Nat) : Int)))) (fun k => by unfold sextonref01_GetNumber.f; rw [if_neg (by omega), if_pos (by omega), if_neg (by omega), hw]) ?_
      by_cases h5 : s.size ≤ hd s
      · rw [getNum_no (.inr (.inr h5)), decide_eq_true (by omega)]
        exact hno
      · rw [decide_eq_false (by omega), getNum_by s q (by omega) (by omega)]
        have := refGet_l0 s (hd s) (by omega) (by omega) (hd s) 1 (by omega) (by omega)
        refine Ev.step (f := fun k => sextonref01_GetNumber.l0 k s ((1 + hd s : Nat) : Int) 0 1) (fun k => ?_) this
        simp only [sextonref01_GetNumber.j0]
        rw [if_neg (by decide), if_pos (by omega), hw]
end Go.Proofs.Ytfdpebipnapelaa.P
-- Written by a program of this session (xprint.py) over the kit's print.py.
namespace Go.Proofs.Ytfdpebipnapelaa.P
open Go.RowKit Go.Proofs.YtfdpebipnapelaaW.PrintWords Go.Proofs.YtfdpebipnapelaaW.PrintLast Go.Proofs.YtfdpebipnapelaaW.PrintMore
attribute [local go_sem] max2_int min2_int max_two min_two max_three min_three max_four min_four   -- for this text's walks alone
set_option linter.unusedVariables false
set_option linter.unusedSimpArgs false

/-! ### sextonref12_numbers: function 49 -/
def sextonref12_numbers.l0 : Nat → ByteArray → List Int → Option (List Int × Bool)
  | 0, _, _ => none
  | k + 1, x0, x4 => if (x0.size : Int) > 0 then ((sextonref01_GetNumber.f k x0).bind fun bt135 => (if bt135.2.2 = true then (if x4.length < 17592186044416 then (sextonref12_numbers.l0 k bt135.2.1 (x4 ++ [bt135.1])) else (none)) else (some (([] : List Int), false)))) else (some (x4, true))
def sextonref12_numbers.f (k : Nat) (a0 : ByteArray) : Option (List Int × Bool) := sextonref12_numbers.l0 k a0 ([] : List Int)
theorem sextonref12_numbers.mono_l : ∀ k, (∀ y0 y1, LeO (sextonref12_numbers.l0 k y0 y1) (sextonref12_numbers.l0 (k + 1) y0 y1))
  | 0 => fun _ _ r h => by simp [sextonref12_numbers.l0] at h
  | k + 1 => by
    have ih0 := sextonref12_numbers.mono_l k
    · intro y0 y1
      unfold sextonref12_numbers.l0
      repeat' first
      | (with_reducible exact ih0 _ _)
      | (with_reducible exact sextonref01_GetNumber.mono _ _)
      | (with_reducible exact LeO.refl _)
      | (with_reducible exact LeO.none _)
      | (with_reducible refine LeO.ite ?_ ?_)
      | (with_reducible refine LeO.bind ?_ (fun _ => ?_))
      | exact ih0 _ _
      | exact sextonref01_GetNumber.mono _ _
      | exact LeO.none _
      | refine LeO.ite ?_ ?_
      | refine LeO.bind ?_ (fun _ => ?_)
theorem sextonref12_numbers.mono : ∀ a0 k, LeO (sextonref12_numbers.f k a0) (sextonref12_numbers.f (k + 1) a0) := by
  intro a0 k
  have ih0 := sextonref12_numbers.mono_l k
  unfold sextonref12_numbers.f
  repeat' first
      | (with_reducible exact ih0 _ _)
      | (with_reducible exact sextonref01_GetNumber.mono _ _)
      | (with_reducible exact LeO.refl _)
      | (with_reducible exact LeO.none _)
      | (with_reducible refine LeO.ite ?_ ?_)
      | (with_reducible refine LeO.bind ?_ (fun _ => ?_))
      | exact ih0 _ _
      | exact sextonref01_GetNumber.mono _ _
      | exact LeO.none _
      | refine LeO.ite ?_ ?_
      | refine LeO.bind ?_ (fun _ => ?_)
set_option maxHeartbeats 8000000 in
set_option maxRecDepth 100000 in
theorem sextonref12_numbers.calls (k : Nat) (a0 : ByteArray) (r1 : List Int) (r2 : Bool) (w : World) (h : sextonref12_numbers.f k a0 = some (r1, r2)) :
    Calls Try.prog 49 #[.string a0] w fun e w' => ∃ v0_ : Value, e = .returned (.tuple #[v0_, .bool r2]) ∧ Kd.R (Kd.int .i64) 3 w' w.heap.size (fun _ => True) v0_ r1 ∧ Below w.heap.size w w' := by
  have HB := Aside0.mk (Below.refl w.heap.size w)
  have H : (sextonref12_numbers.l0 k a0 ([] : List Int)) = some (r1, r2) := h
  clear h
  have H' := Aside0.mk H
  clear H
  go_enter Try.func49, Try.ntmps49
  go_wp2
  go_loopg [0, 4] k (fun kq v0 v4 w' => ∃ (x0_1 : ByteArray) (x4_1 : List Int), v0 = .string x0_1 ∧ Aside0 (sextonref12_numbers.l0 kq x0_1 x4_1 = some (r1, r2)) ∧ Aside0 (kq ≤ k) ∧ Aside0 (Kd.R (Kd.int .i64) 3 w' w.heap.size (fun _ => True) v4 x4_1) ∧ Aside0 (Below w.heap.size w w'))
  case atStart => exact ⟨(a0), (([] : List Int)), (by first | rfl | (simp; done) | (simp [*]; done)), H', ⟨Nat.le_refl _⟩, ⟨by first | exact Kd.R_nil _ _ _ _ _ | exact Kd.N_nil _ _ _ _ _ | exact Kd.V_nil _ _ _ _ _ | exact Kd.Q_nil _ _ _ _ _ | exact Kd.S_nil _ _ _ _ _⟩, ⟨by repeat (first | (with_reducible first | exact HB.out | apply below_alloc | apply pw_below_drewN | apply below_drew1) | exact HB.out)⟩⟩
  case round =>
    clear H'
    obtain ⟨x0_1, x4_1, rfl, HA, HK1, HO_4, HB⟩ := hrel
    cases gk with
    | zero => exact absurd HA.out (by simp [sextonref12_numbers.l0])
    | succ k1 =>
      have H := HA.out
      clear HA
      simp only [sextonref12_numbers.l0] at H
      by_cases c2 : (x0_1.size : Int) > 0
      · rw [if_pos c2] at H
        have c2b0 : decide (0 < (x0_1.size : Int)) = true := decide_eq_true c2
        have c2b1 : decide (0 < x0_1.size) = true := decide_eq_true (by omega)
        clear c2
        replace H := Option.bind_eq_some_iff.mp H
        obtain ⟨⟨t135, t136, t137⟩, A30, H⟩ := H
        replace H : (if t137 = true then (if x4_1.length < 17592186044416 then (sextonref12_numbers.l0 k1 t136 (x4_1 ++ [t135])) else (none)) else (some (([] : List Int), false))) = some (r1, r2) := H
        have A3 := Aside0.mk A30
        clear A30
        by_cases c4 : t137 = true
        · subst c4
          have H1 : (if x4_1.length < 17592186044416 then (sextonref12_numbers.l0 k1 t136 (x4_1 ++ [t135])) else (none)) = some (r1, r2) := by rw [if_pos rfl] at H; exact H
          clear H
          have H := H1
          clear H1
          by_cases c5 : x4_1.length < 17592186044416
          · rw [if_pos c5] at H
            have LMc5 := Aside0.mk c5
            clear c5
            obtain ⟨y138, hy138⟩ : ∃ y_ : List Int, y_ = (x4_1 ++ [t135]) := ⟨_, rfl⟩
            replace H : (sextonref12_numbers.l0 k1 t136 y138) = some (r1, r2) := by first | (rw [hy138]; with_reducible exact H) | (have H2_ := (Option.bind_some _ _).symm.trans H; rw [hy138]; with_reducible exact H2_) | (have H2_ := (Option.bind_some _ _).symm.trans H; with_reducible exact H2_) | with_reducible exact H | (rw [hy138]; exact H) | exact H
            have Ny138 := Aside0.mk hy138
            clear hy138
            have H' := Aside0.mk H
            clear H
            go_wp2_with (first | ((with_reducible refine gate_callee (f := 66) rfl ?_); refine goesL_ (some 13) rfl rfl Try.func66 (by kernel_rfl) rfl #[.string x0_1] rfl (by (try simp only [List.map_toArray, List.map_cons, List.map_nil]); first | done | rfl | (simp only [List.length_drop, List.length_take]; rfl)) ?_; (with_reducible refine (sextonref01_GetNumber.calls k1 x0_1 t135 t136 true _ A3.out).mono ?_); rintro e w6 ⟨rfl, hb⟩; refine ⟨_, rfl, ?_⟩; have n0_ := Aside0.mk (Kd.R_below (by (with_reducible repeat (first | apply Kd.R_alloc | apply Kd.R_drewN | apply Kd.R_drew)); exact HO_4.out) hb); have n1_ := Aside0.mk (below_step (by repeat (first | (with_reducible first | exact HB.out | apply below_alloc | apply pw_below_drewN | apply below_drew1) | exact HB.out)) hb); clear HO_4; clear HB; have HO_4 := n0_; have HB := n1_; clear n0_ n1_; (try clear hb); (try clear hb2); (try clear hk); (try clear hi)) | ((with_reducible refine gate_builtin (b := .append) (xs := #[.tmp 19, .tmp 21]) rfl ?_); at_builtin; refine Kd.R_append (Kd.int .i64) (w0 := w) w.heap.size rfl (.tmp 19) (.tmp 21) 22 3 (.int .i64 0) 8 rfl Try.underlying22 info3 rfl (by decide) (by omega) u4 x4_1 t135 [.int .i64 t135] (fun _ => True) (fun _ => False) rfl rfl ?aP (fun _ hk => hk.elim) ?aF ?aO ?aB ?aS ?aL ?_; (case aP => exact rfl); (case aB => exact (by repeat (first | (with_reducible first | exact HB.out | apply below_alloc | apply pw_below_drewN | apply below_drew1) | exact HB.out))); (case aF => exact (fun _ _ => trivial)); (case aO => exact (by (with_reducible repeat (first | apply Kd.R_alloc | apply Kd.R_drewN | apply Kd.R_drew)); exact HO_4.out)); (case aS => exact (below_size (by repeat (first | (with_reducible first | exact HB.out | apply below_alloc | apply pw_below_drewN | apply below_drew1) | exact HB.out)))); (case aL => have := LMc5.out; omega); intro v139 w7 ho hb hg hat; rw [← Ny138.out] at ho; have n0_ := Aside0.mk (hb); have n1_ := Aside0.mk (ho); clear HB; clear HO_4; have HB := n0_; have HO140 := n1_; clear n0_ n1_; clear ho hb hg hat))
            go_roundg k1
            case measure => have := HK1.out; omega
            case rel => exact ⟨(t136), (y138), (by first | rfl | (simp; done) | (simp [*]; done)), H', ⟨by have := HK1.out; omega⟩, ⟨by (with_reducible repeat (first | apply Kd.R_alloc | apply Kd.R_drewN | apply Kd.R_drew)); exact HO140.out⟩, ⟨by repeat (first | (with_reducible first | exact HB.out | apply below_alloc | apply pw_below_drewN | apply below_drew1) | exact HB.out)⟩⟩
          · rw [if_neg c5] at H
            exact absurd H (by simp)
        · replace c4 := Bool.eq_false_iff.mpr c4
          subst c4
          have H1 : (some (([] : List Int), false)) = some (r1, r2) := by rw [if_neg (show ¬ (false = true) by decide)] at H; exact H
          clear H
          have H := H1
          clear H1
          simp only [Option.some.injEq, Prod.mk.injEq] at H
          obtain ⟨rfl, rfl⟩ := H
          go_wp2_with (first | ((with_reducible refine gate_callee (f := 66) rfl ?_); refine goesL_ (some 13) rfl rfl Try.func66 (by kernel_rfl) rfl #[.string x0_1] rfl (by (try simp only [List.map_toArray, List.map_cons, List.map_nil]); first | done | rfl | (simp only [List.length_drop, List.length_take]; rfl)) ?_; (with_reducible refine (sextonref01_GetNumber.calls k1 x0_1 t135 t136 false _ A3.out).mono ?_); rintro e w8 ⟨rfl, hb⟩; refine ⟨_, rfl, ?_⟩; have n0_ := Aside0.mk (Kd.R_below (by (with_reducible repeat (first | apply Kd.R_alloc | apply Kd.R_drewN | apply Kd.R_drew)); exact HO_4.out) hb); have n1_ := Aside0.mk (below_step (by repeat (first | (with_reducible first | exact HB.out | apply below_alloc | apply pw_below_drewN | apply below_drew1) | exact HB.out)) hb); clear HO_4; clear HB; have HO_4 := n0_; have HB := n1_; clear n0_ n1_; (try clear hb); (try clear hb2); (try clear hk); (try clear hi)))
          go_ret2
          exact ⟨_, by first | rfl | (simp [errW_none, errW_some] <;> rfl) | (simp [*, errW_none, errW_some] <;> rfl), by first | exact Kd.R_nil _ _ _ _ _ | exact Kd.N_nil _ _ _ _ _ | exact Kd.V_nil _ _ _ _ _ | exact Kd.Q_nil _ _ _ _ _ | exact Kd.S_nil _ _ _ _ _, by repeat (first | (with_reducible first | exact HB.out | apply below_alloc | apply pw_below_drewN | apply below_drew1) | exact HB.out)⟩
      · rw [if_neg c2] at H
        have c2b0 : decide (0 < (x0_1.size : Int)) = false := decide_eq_false c2
        have c2b1 : decide (0 < x0_1.size) = false := decide_eq_false (by omega)
        clear c2
        simp only [Option.some.injEq, Prod.mk.injEq] at H
        obtain ⟨rfl, rfl⟩ := H
        go_wp2
        go_ret2
        exact ⟨_, by first | rfl | (simp [errW_none, errW_some] <;> rfl) | (simp [*, errW_none, errW_some] <;> rfl), by (with_reducible repeat (first | apply Kd.R_alloc | apply Kd.R_drewN | apply Kd.R_drew)); exact HO_4.out, by repeat (first | (with_reducible first | exact HB.out | apply below_alloc | apply pw_below_drewN | apply below_drew1) | exact HB.out)⟩

end Go.Proofs.Ytfdpebipnapelaa.P
-- Written by a program of this session (xprint.py) over the kit's print.py.
namespace Go.Proofs.Ytfdpebipnapelaa.P
open Go.RowKit Go.Proofs.YtfdpebipnapelaaW.PrintWords Go.Proofs.YtfdpebipnapelaaW.PrintLast Go.Proofs.YtfdpebipnapelaaW.PrintMore
attribute [local go_sem] max2_int min2_int max_two min_two max_three min_three max_four min_four   -- for this text's walks alone
set_option linter.unusedVariables false
set_option linter.unusedSimpArgs false

/-! ### sextonref12_Is: function 24 -/
mutual
def sextonref12_Is.j0 : Nat → Bool → Int → Int → List Int → Option (Bool)
  | 0, _, _, _, _ => none
  | k + 1, x27, x114000, x114001, x114002 => if x27 = true then (some false) else (sextonref12_Is.l0 k 0 x114000 x114001 x114002)
def sextonref12_Is.l0 : Nat → Int → Int → Int → List Int → Option (Bool)
  | 0, _, _, _, _ => none
  | k + 1, x3, x114000, x114001, x114002 => if x3 < (x114002.length : Int) then (if 0 ≤ x3 then (if (rd x114002 x3) < 0 then (some false) else (if (rd x114002 x3) > 4294967295 then (some false) else (sextonref12_Is.l0 k (wrap64 (x3 + 1)) x114000 x114001 x114002))) else (none)) else (some true)
end
def sextonref12_Is.f (k : Nat) (a0_0 : Int) (a0_1 : Int) (l0_2 : List Int) : Option (Bool) := if a0_0 < 0 then (sextonref12_Is.j0 k true a0_0 a0_1 l0_2) else (if a0_0 > 1000000000 then (sextonref12_Is.j0 k true a0_0 a0_1 l0_2) else (if a0_1 < 0 then (sextonref12_Is.j0 k true a0_0 a0_1 l0_2) else (if a0_1 > 4095 then (sextonref12_Is.j0 k true a0_0 a0_1 l0_2) else (sextonref12_Is.j0 k (decide ((l0_2.length : Int) > 16)) a0_0 a0_1 l0_2))))
theorem sextonref12_Is.mono_l : ∀ k, (∀ y0 y1 y2 y3, LeO (sextonref12_Is.j0 k y0 y1 y2 y3) (sextonref12_Is.j0 (k + 1) y0 y1 y2 y3)) ∧ (∀ y0 y1 y2 y3, LeO (sextonref12_Is.l0 k y0 y1 y2 y3) (sextonref12_Is.l0 (k + 1) y0 y1 y2 y3))
  | 0 => ⟨fun _ _ _ _ r h => by simp [sextonref12_Is.j0] at h, fun _ _ _ _ r h => by simp [sextonref12_Is.l0] at h⟩
  | k + 1 => by
    obtain ⟨ih0, ih1⟩ := sextonref12_Is.mono_l k
    refine ⟨?_, ?_⟩
    · intro y0 y1 y2 y3
      unfold sextonref12_Is.j0
      repeat' first
      | (with_reducible exact ih0 _ _ _ _)
      | (with_reducible exact ih1 _ _ _ _)
      | (with_reducible exact LeO.refl _)
      | (with_reducible exact LeO.none _)
      | (with_reducible refine LeO.ite ?_ ?_)
      | (with_reducible refine LeO.bind ?_ (fun _ => ?_))
      | exact ih0 _ _ _ _
      | exact ih1 _ _ _ _
      | exact LeO.none _
      | refine LeO.ite ?_ ?_
      | refine LeO.bind ?_ (fun _ => ?_)
    · intro y0 y1 y2 y3
      unfold sextonref12_Is.l0
      repeat' first
      | (with_reducible exact ih0 _ _ _ _)
      | (with_reducible exact ih1 _ _ _ _)
      | (with_reducible exact LeO.refl _)
      | (with_reducible exact LeO.none _)
      | (with_reducible refine LeO.ite ?_ ?_)
      | (with_reducible refine LeO.bind ?_ (fun _ => ?_))
      | exact ih0 _ _ _ _
      | exact ih1 _ _ _ _
      | exact LeO.none _
      | refine LeO.ite ?_ ?_
      | refine LeO.bind ?_ (fun _ => ?_)
theorem sextonref12_Is.mono : ∀ a0 a1 a2 k, LeO (sextonref12_Is.f k a0 a1 a2) (sextonref12_Is.f (k + 1) a0 a1 a2) := by
  intro a0 a1 a2 k
  obtain ⟨ih0, ih1⟩ := sextonref12_Is.mono_l k
  unfold sextonref12_Is.f
  repeat' first
      | (with_reducible exact ih0 _ _ _ _)
      | (with_reducible exact ih1 _ _ _ _)
      | (with_reducible exact LeO.refl _)
      | (with_reducible exact LeO.none _)
      | (with_reducible refine LeO.ite ?_ ?_)
      | (with_reducible refine LeO.bind ?_ (fun _ => ?_))
      | exact ih0 _ _ _ _
      | exact ih1 _ _ _ _
      | exact LeO.none _
      | refine LeO.ite ?_ ?_
      | refine LeO.bind ?_ (fun _ => ?_)
set_option maxHeartbeats 8000000 in
set_option maxRecDepth 100000 in
theorem sextonref12_Is.calls (k : Nat) (a0_0 : Int) (a0_1 : Int) (A0_2 : Option Addr) (c0_2 : Nat) (l0_2 : List Int) (r : Bool) (w : World) (hr0_2 : Kd.C (Kd.int .i64) w A0_2 l0_2.length l0_2) (hc0_2 : l0_2.length ≤ c0_2) (h : sextonref12_Is.f k a0_0 a0_1 l0_2 = some r) :
    Calls Try.prog 24 #[.agg #[.int .i64 a0_0, .int .i64 a0_1, .slice A0_2 l0_2.length c0_2]] w fun e w' => e = .returned (.bool r) ∧ Below w.heap.size w w' := by
  have hu24 := Try.underlying24
  have HR0_2 := Aside0.mk hr0_2
  have HC0_2 := Aside0.mk hc0_2
  clear hr0_2 hc0_2
  have HB := Aside0.mk (Below.refl w.heap.size w)
  have H : (if a0_0 < 0 then (sextonref12_Is.j0 k true a0_0 a0_1 l0_2) else (if a0_0 > 1000000000 then (sextonref12_Is.j0 k true a0_0 a0_1 l0_2) else (if a0_1 < 0 then (sextonref12_Is.j0 k true a0_0 a0_1 l0_2) else (if a0_1 > 4095 then (sextonref12_Is.j0 k true a0_0 a0_1 l0_2) else (sextonref12_Is.j0 k (decide ((l0_2.length : Int) > 16)) a0_0 a0_1 l0_2))))) = some r := h
  clear h
  have HC2 := Aside0.mk H
  clear H
  go_enter Try.func24, Try.ntmps24
  go_upto_region 1 with (first | ((with_reducible refine gate_dst (N := 1) rfl ?_); (try (refine gate_guard (by rfl) ?_; dsimp only)); refine box_event ?hg (N := 1) ?hd (cs := #[.int .i64 a0_0, .int .i64 a0_1, .slice A0_2 l0_2.length c0_2]) (t := 24) ?hr ?_; (case hd => rfl); (case hg => rfl); (case hr => first | (go_simp; done) | (go_simp; rfl)); intro gb113 hg w3 hbox hb; have n0_ := Aside0.mk (below_step (by repeat (first | (with_reducible first | exact HB.out | apply below_alloc | apply pw_below_drewN | apply below_drew1) | exact HB.out)) hb); have n1_ := Aside0.mk (hbox); have n2_ := Aside0.mk ((by rw [hg]; exact (below_size (by repeat (first | (with_reducible first | exact HB.out | apply below_alloc | apply pw_below_drewN | apply below_drew1) | exact HB.out))) : w.heap.size ≤ gb113)); have n3_ := Aside0.mk ((by rw [hg]; exact (below_size (by repeat (first | (with_reducible first | exact HB.out | apply below_alloc | apply pw_below_drewN | apply below_drew1) | exact HB.out))) : w.heap.size ≤ gb113)); clear HB; have HB := n0_; have BK113 := n1_; have GW113 := n2_; have GE113 := n3_; clear n0_ n1_ n2_ n3_; clear hb hbox hg))
  (try simp only [Act.put, List.setIfInBounds_toArray, List.set_cons_zero, List.set_cons_succ])
  go_cut [27] (fun v27 wc => ∃ (kq : Nat) (x27_1 : Bool), v27 = .bool x27_1 ∧ Aside0 (sextonref12_Is.j0 kq x27_1 a0_0 a0_1 l0_2 = some r) ∧ Aside0 (kq ≤ k) ∧ Aside0 (wc.heap[gb113]? = some (.cells #[.int .i64 a0_0, .int .i64 a0_1, (.slice A0_2 l0_2.length c0_2)] 24 (0, 0))) ∧ Aside0 (Below w.heap.size w wc))
  case first =>
    have H := HC2.out
    clear HC2
    by_cases c4 : a0_0 < 0
    · rw [if_pos c4] at H
      have c4b0 : decide (a0_0 < 0) = true := decide_eq_true c4
      clear c4
      (first | rw [c4b0] | (simp only [i64_w, i32_w]; rw [c4b0]) | skip)
      have H' := Aside0.mk H
      clear H
      have hcz5_0 : w3.cell? ⟨gb113, 0, none⟩ = some (.int .i64 a0_0) := (blk_cell BK113.out 0).trans rfl
      have hcz5_1 : w3.cell? ⟨gb113, 1, none⟩ = some (.int .i64 a0_1) := (blk_cell BK113.out 1).trans rfl
      have hcz5_2 : w3.cell? ⟨gb113, 2, none⟩ = some (.slice A0_2 l0_2.length c0_2) := (blk_cell BK113.out 2).trans rfl
      have hfz5_0 := blk_frozen BK113.out 0
      have hfz5_1 := blk_frozen BK113.out 1
      have hfz5_2 := blk_frozen BK113.out 2
      go_wp2
      go_meet
      case rel => exact ⟨_, (true), (by first | rfl | (simp; done) | (simp [*]; done)), H', ⟨by first | omega | exact Nat.le_refl _⟩, ⟨by (with_reducible repeat (first | refine blk_drewN ?_ _ | refine blk_drew ?_ | refine blk_alloc ?_ _)); exact BK113.out⟩, ⟨by repeat (first | (with_reducible first | exact HB.out | apply below_alloc | apply pw_below_drewN | apply below_drew1 | refine below_set ?_ GE113.out) | exact HB.out)⟩⟩
    · rw [if_neg c4] at H
      have c4b0 : decide (a0_0 < 0) = false := decide_eq_false c4
      clear c4
      (first | rw [c4b0] | (simp only [i64_w, i32_w]; rw [c4b0]) | skip)
      by_cases c6 : a0_0 > 1000000000
      · rw [if_pos c6] at H
        have c6b0 : decide (1000000000 < a0_0) = true := decide_eq_true c6
        clear c6
        have H' := Aside0.mk H
        clear H
        have hcz7_0 : w3.cell? ⟨gb113, 0, none⟩ = some (.int .i64 a0_0) := (blk_cell BK113.out 0).trans rfl
        have hcz7_1 : w3.cell? ⟨gb113, 1, none⟩ = some (.int .i64 a0_1) := (blk_cell BK113.out 1).trans rfl
        have hcz7_2 : w3.cell? ⟨gb113, 2, none⟩ = some (.slice A0_2 l0_2.length c0_2) := (blk_cell BK113.out 2).trans rfl
        have hfz7_0 := blk_frozen BK113.out 0
        have hfz7_1 := blk_frozen BK113.out 1
        have hfz7_2 := blk_frozen BK113.out 2
        go_wp2
        go_meet
        case rel => exact ⟨_, (true), (by first | rfl | (simp; done) | (simp [*]; done)), H', ⟨by first | omega | exact Nat.le_refl _⟩, ⟨by (with_reducible repeat (first | refine blk_drewN ?_ _ | refine blk_drew ?_ | refine blk_alloc ?_ _)); exact BK113.out⟩, ⟨by repeat (first | (with_reducible first | exact HB.out | apply below_alloc | apply pw_below_drewN | apply below_drew1 | refine below_set ?_ GE113.out) | exact HB.out)⟩⟩
      · rw [if_neg c6] at H
        have c6b0 : decide (1000000000 < a0_0) = false := decide_eq_false c6
        clear c6
        by_cases c8 : a0_1 < 0
        · rw [if_pos c8] at H
          have c8b0 : decide (a0_1 < 0) = true := decide_eq_true c8
          clear c8
          have H' := Aside0.mk H
          clear H
          have hcz9_0 : w3.cell? ⟨gb113, 0, none⟩ = some (.int .i64 a0_0) := (blk_cell BK113.out 0).trans rfl
          have hcz9_1 : w3.cell? ⟨gb113, 1, none⟩ = some (.int .i64 a0_1) := (blk_cell BK113.out 1).trans rfl
          have hcz9_2 : w3.cell? ⟨gb113, 2, none⟩ = some (.slice A0_2 l0_2.length c0_2) := (blk_cell BK113.out 2).trans rfl
          have hfz9_0 := blk_frozen BK113.out 0
          have hfz9_1 := blk_frozen BK113.out 1
          have hfz9_2 := blk_frozen BK113.out 2
          go_wp2
          go_meet
          case rel => exact ⟨_, (true), (by first | rfl | (simp; done) | (simp [*]; done)), H', ⟨by first | omega | exact Nat.le_refl _⟩, ⟨by (with_reducible repeat (first | refine blk_drewN ?_ _ | refine blk_drew ?_ | refine blk_alloc ?_ _)); exact BK113.out⟩, ⟨by repeat (first | (with_reducible first | exact HB.out | apply below_alloc | apply pw_below_drewN | apply below_drew1 | refine below_set ?_ GE113.out) | exact HB.out)⟩⟩
        · rw [if_neg c8] at H
          have c8b0 : decide (a0_1 < 0) = false := decide_eq_false c8
          clear c8
          by_cases c10 : a0_1 > 4095
          · rw [if_pos c10] at H
            have c10b0 : decide (4095 < a0_1) = true := decide_eq_true c10
            clear c10
            have H' := Aside0.mk H
            clear H
            have hcz11_0 : w3.cell? ⟨gb113, 0, none⟩ = some (.int .i64 a0_0) := (blk_cell BK113.out 0).trans rfl
            have hcz11_1 : w3.cell? ⟨gb113, 1, none⟩ = some (.int .i64 a0_1) := (blk_cell BK113.out 1).trans rfl
            have hcz11_2 : w3.cell? ⟨gb113, 2, none⟩ = some (.slice A0_2 l0_2.length c0_2) := (blk_cell BK113.out 2).trans rfl
            have hfz11_0 := blk_frozen BK113.out 0
            have hfz11_1 := blk_frozen BK113.out 1
            have hfz11_2 := blk_frozen BK113.out 2
            go_wp2
            go_meet
            case rel => exact ⟨_, (true), (by first | rfl | (simp; done) | (simp [*]; done)), H', ⟨by first | omega | exact Nat.le_refl _⟩, ⟨by (with_reducible repeat (first | refine blk_drewN ?_ _ | refine blk_drew ?_ | refine blk_alloc ?_ _)); exact BK113.out⟩, ⟨by repeat (first | (with_reducible first | exact HB.out | apply below_alloc | apply pw_below_drewN | apply below_drew1 | refine below_set ?_ GE113.out) | exact HB.out)⟩⟩
          · rw [if_neg c10] at H
            have c10b0 : decide (4095 < a0_1) = false := decide_eq_false c10
            clear c10
            have H' := Aside0.mk H
            clear H
            have hcz12_0 : w3.cell? ⟨gb113, 0, none⟩ = some (.int .i64 a0_0) := (blk_cell BK113.out 0).trans rfl
            have hcz12_1 : w3.cell? ⟨gb113, 1, none⟩ = some (.int .i64 a0_1) := (blk_cell BK113.out 1).trans rfl
            have hcz12_2 : w3.cell? ⟨gb113, 2, none⟩ = some (.slice A0_2 l0_2.length c0_2) := (blk_cell BK113.out 2).trans rfl
            have hfz12_0 := blk_frozen BK113.out 0
            have hfz12_1 := blk_frozen BK113.out 1
            have hfz12_2 := blk_frozen BK113.out 2
            go_wp2
            go_meet
            case rel => exact ⟨_, (decide ((l0_2.length : Int) > 16)), (by first | rfl | (simp; done) | (simp [*]; done)), H', ⟨by first | omega | exact Nat.le_refl _⟩, ⟨by (with_reducible repeat (first | refine blk_drewN ?_ _ | refine blk_drew ?_ | refine blk_alloc ?_ _)); exact BK113.out⟩, ⟨by repeat (first | (with_reducible first | exact HB.out | apply below_alloc | apply pw_below_drewN | apply below_drew1 | refine below_set ?_ GE113.out) | exact HB.out)⟩⟩
  case rest =>
    clear HC2
    try clear c1
    try clear c2
    try clear p2
    try clear c4
    try clear c4b0
    try clear c6
    try clear c6b0
    try clear c8
    try clear c8b0
    try clear c10
    try clear c10b0
    try clear hcz11_0
    try clear hcz11_1
    try clear hcz11_2
    try clear hcz12_0
    try clear hcz12_1
    try clear hcz12_2
    try clear hcz5_0
    try clear hcz5_1
    try clear hcz5_2
    try clear hcz7_0
    try clear hcz7_1
    try clear hcz7_2
    try clear hcz9_0
    try clear hcz9_1
    try clear hcz9_2
    try clear hfz11_0
    try clear hfz11_1
    try clear hfz11_2
    try clear hfz12_0
    try clear hfz12_1
    try clear hfz12_2
    try clear hfz5_0
    try clear hfz5_1
    try clear hfz5_2
    try clear hfz7_0
    try clear hfz7_1
    try clear hfz7_2
    try clear hfz9_0
    try clear hfz9_1
    try clear hfz9_2
    obtain ⟨kq, x27_1, rfl, HA, HJ1, BK113, HB⟩ := hcut
    cases kq with
    | zero => exact absurd HA.out (by simp [sextonref12_Is.j0])
    | succ kj1 =>
      have H := HA.out
      clear HA
      simp only [sextonref12_Is.j0] at H
      by_cases c13 : x27_1 = true
      · subst c13
        have H1 : (some false) = some r := by rw [if_pos rfl] at H; exact H
        clear H
        have H := H1
        clear H1
        obtain rfl := Option.some.inj H
        go_wp2
        go_ret
        exact ⟨by first | rfl | (simp [errW_none, errW_some] <;> rfl) | (simp [*, errW_none, errW_some] <;> rfl), by repeat (first | (with_reducible first | exact HB.out | apply below_alloc | apply pw_below_drewN | apply below_drew1 | refine below_set ?_ GE113.out) | exact HB.out)⟩
      · replace c13 := Bool.eq_false_iff.mpr c13
        subst c13
        have H1 : (sextonref12_Is.l0 kj1 0 a0_0 a0_1 l0_2) = some r := by rw [if_neg (show ¬ (false = true) by decide)] at H; exact H
        clear H
        have H := H1
        clear H1
        have H' := Aside0.mk H
        clear H
        go_wp2
        go_loopg [3] kj1 (fun kq v3 w' => ∃ (x3_2 : Int), v3 = .int .i64 x3_2 ∧ Aside0 (sextonref12_Is.l0 kq x3_2 a0_0 a0_1 l0_2 = some r) ∧ Aside0 (kq ≤ kj1) ∧ Aside0 (w'.heap[gb113]? = some (.cells #[.int .i64 a0_0, .int .i64 a0_1, (.slice A0_2 l0_2.length c0_2)] 24 (0, 0))) ∧ Aside0 (Below w.heap.size w w'))
        case atStart => exact ⟨(0), (by first | rfl | (simp; done) | (simp [*]; done)), H', ⟨Nat.le_refl _⟩, ⟨by (with_reducible repeat (first | refine blk_drewN ?_ _ | refine blk_drew ?_ | refine blk_alloc ?_ _)); exact BK113.out⟩, ⟨by repeat (first | (with_reducible first | exact HB.out | apply below_alloc | apply pw_below_drewN | apply below_drew1 | refine below_set ?_ GE113.out) | exact HB.out)⟩⟩
        case round =>
          clear H'
          try clear c1
          try clear c2
          try clear p2
          try clear c4
          try clear c4b0
          try clear c6
          try clear c6b0
          try clear c8
          try clear c8b0
          try clear c10
          try clear c10b0
          try clear c13
          try clear hcz11_0
          try clear hcz11_1
          try clear hcz11_2
          try clear hcz12_0
          try clear hcz12_1
          try clear hcz12_2
          try clear hcz5_0
          try clear hcz5_1
          try clear hcz5_2
          try clear hcz7_0
          try clear hcz7_1
          try clear hcz7_2
          try clear hcz9_0
          try clear hcz9_1
          try clear hcz9_2
          try clear hfz11_0
          try clear hfz11_1
          try clear hfz11_2
          try clear hfz12_0
          try clear hfz12_1
          try clear hfz12_2
          try clear hfz5_0
          try clear hfz5_1
          try clear hfz5_2
          try clear hfz7_0
          try clear hfz7_1
          try clear hfz7_2
          try clear hfz9_0
          try clear hfz9_1
          try clear hfz9_2
          try clear p2
          obtain ⟨x3_2, rfl, HA, HK2, BK113, HB⟩ := hrel
          cases gk with
          | zero => exact absurd HA.out (by simp [sextonref12_Is.l0])
          | succ k2 =>
            have H := HA.out
            clear HA
            simp only [sextonref12_Is.l0] at H
            by_cases c14 : x3_2 < (l0_2.length : Int)
            · rw [if_pos c14] at H
              have c14b0 : decide (x3_2 < (l0_2.length : Int)) = true := decide_eq_true c14
              clear c14
              by_cases c15 : 0 ≤ x3_2
              · rw [if_pos c15] at H
                have c15b0 : decide (0 ≤ x3_2) = true := decide_eq_true c15
                clear c15
                by_cases c16 : (rd l0_2 x3_2) < 0
                · rw [if_pos c16] at H
                  have c16b0 : decide ((rd l0_2 x3_2) < 0) = true := decide_eq_true c16
                  clear c16
                  obtain rfl := Option.some.inj H
                  have hcz17_0 : wr.cell? ⟨gb113, 0, none⟩ = some (.int .i64 a0_0) := (blk_cell BK113.out 0).trans rfl
                  have hcz17_1 : wr.cell? ⟨gb113, 1, none⟩ = some (.int .i64 a0_1) := (blk_cell BK113.out 1).trans rfl
                  have hcz17_2 : wr.cell? ⟨gb113, 2, none⟩ = some (.slice A0_2 l0_2.length c0_2) := (blk_cell BK113.out 2).trans rfl
                  have hfz17_0 := blk_frozen BK113.out 0
                  have hfz17_1 := blk_frozen BK113.out 1
                  have hfz17_2 := blk_frozen BK113.out 2
                  have p114 : 0 ≤ (x3_2 : Int) := of_decide_eq_true (by first | (with_reducible assumption) | assumption)
                  have q114 : x3_2 < (l0_2.length : Int) := of_decide_eq_true (by first | (with_reducible assumption) | assumption)
                  obtain ⟨ad114, e114, hx114_0⟩ := Kd.at_int HR0_2.out x3_2 p114 q114
                  cases e114
                  replace hx114_0 := (HB.out.cell (World.block_lt_of_cell? w _ hx114_0)).trans hx114_0
                  replace p114 := eq_true p114
                  replace q114 := eq_true q114
                  go_wp2
                  go_ret
                  exact ⟨by first | rfl | (simp [errW_none, errW_some] <;> rfl) | (simp [*, errW_none, errW_some] <;> rfl), by repeat (first | (with_reducible first | exact HB.out | apply below_alloc | apply pw_below_drewN | apply below_drew1 | refine below_set ?_ GE113.out) | exact HB.out)⟩
                · rw [if_neg c16] at H
                  have c16b0 : decide ((rd l0_2 x3_2) < 0) = false := decide_eq_false c16
                  clear c16
                  by_cases c18 : (rd l0_2 x3_2) > 4294967295
                  · rw [if_pos c18] at H
                    have c18b0 : decide (4294967295 < (rd l0_2 x3_2)) = true := decide_eq_true c18
                    clear c18
                    obtain rfl := Option.some.inj H
                    have hcz19_0 : wr.cell? ⟨gb113, 0, none⟩ = some (.int .i64 a0_0) := (blk_cell BK113.out 0).trans rfl
                    have hcz19_1 : wr.cell? ⟨gb113, 1, none⟩ = some (.int .i64 a0_1) := (blk_cell BK113.out 1).trans rfl
                    have hcz19_2 : wr.cell? ⟨gb113, 2, none⟩ = some (.slice A0_2 l0_2.length c0_2) := (blk_cell BK113.out 2).trans rfl
                    have hfz19_0 := blk_frozen BK113.out 0
                    have hfz19_1 := blk_frozen BK113.out 1
                    have hfz19_2 := blk_frozen BK113.out 2
                    have p114 : 0 ≤ (x3_2 : Int) := of_decide_eq_true (by first | (with_reducible assumption) | assumption)
                    have q114 : x3_2 < (l0_2.length : Int) := of_decide_eq_true (by first | (with_reducible assumption) | assumption)
                    obtain ⟨ad114, e114, hx114_0⟩ := Kd.at_int HR0_2.out x3_2 p114 q114
                    cases e114
                    replace hx114_0 := (HB.out.cell (World.block_lt_of_cell? w _ hx114_0)).trans hx114_0
                    replace p114 := eq_true p114
                    replace q114 := eq_true q114
                    have p115 : 0 ≤ (x3_2 : Int) := of_decide_eq_true (by first | (with_reducible assumption) | assumption)
                    have q115 : x3_2 < (l0_2.length : Int) := of_decide_eq_true (by first | (with_reducible assumption) | assumption)
                    obtain ⟨ad115, e115, hx115_0⟩ := Kd.at_int HR0_2.out x3_2 p115 q115
                    obtain rfl : ad114 = ad115 := (by injection e115)
                    replace hx115_0 := (HB.out.cell (World.block_lt_of_cell? w _ hx115_0)).trans hx115_0
                    replace p115 := eq_true p115
                    replace q115 := eq_true q115
                    go_wp2
                    go_ret
                    exact ⟨by first | rfl | (simp [errW_none, errW_some] <;> rfl) | (simp [*, errW_none, errW_some] <;> rfl), by repeat (first | (with_reducible first | exact HB.out | apply below_alloc | apply pw_below_drewN | apply below_drew1 | refine below_set ?_ GE113.out) | exact HB.out)⟩
                  · rw [if_neg c18] at H
                    have c18b0 : decide (4294967295 < (rd l0_2 x3_2)) = false := decide_eq_false c18
                    clear c18
                    have H' := Aside0.mk H
                    clear H
                    have hcz20_0 : wr.cell? ⟨gb113, 0, none⟩ = some (.int .i64 a0_0) := (blk_cell BK113.out 0).trans rfl
                    have hcz20_1 : wr.cell? ⟨gb113, 1, none⟩ = some (.int .i64 a0_1) := (blk_cell BK113.out 1).trans rfl
                    have hcz20_2 : wr.cell? ⟨gb113, 2, none⟩ = some (.slice A0_2 l0_2.length c0_2) := (blk_cell BK113.out 2).trans rfl
                    have hfz20_0 := blk_frozen BK113.out 0
                    have hfz20_1 := blk_frozen BK113.out 1
                    have hfz20_2 := blk_frozen BK113.out 2
                    have p114 : 0 ≤ (x3_2 : Int) := of_decide_eq_true (by first | (with_reducible assumption) | assumption)
                    have q114 : x3_2 < (l0_2.length : Int) := of_decide_eq_true (by first | (with_reducible assumption) | assumption)
                    obtain ⟨ad114, e114, hx114_0⟩ := Kd.at_int HR0_2.out x3_2 p114 q114
                    cases e114
                    replace hx114_0 := (HB.out.cell (World.block_lt_of_cell? w _ hx114_0)).trans hx114_0
                    replace p114 := eq_true p114
                    replace q114 := eq_true q114
                    have p115 : 0 ≤ (x3_2 : Int) := of_decide_eq_true (by first | (with_reducible assumption) | assumption)
                    have q115 : x3_2 < (l0_2.length : Int) := of_decide_eq_true (by first | (with_reducible assumption) | assumption)
                    obtain ⟨ad115, e115, hx115_0⟩ := Kd.at_int HR0_2.out x3_2 p115 q115
                    obtain rfl : ad114 = ad115 := (by injection e115)
                    replace hx115_0 := (HB.out.cell (World.block_lt_of_cell? w _ hx115_0)).trans hx115_0
                    replace p115 := eq_true p115
                    replace q115 := eq_true q115
                    go_wp2
                    go_roundg k2
                    case measure => have := HJ1.out; have := HK2.out; omega
                    case rel => exact ⟨(wrap64 (x3_2 + 1)), (by first | rfl | (simp; done) | (simp [*]; done)), H', ⟨by have := HJ1.out; have := HK2.out; omega⟩, ⟨by (with_reducible repeat (first | refine blk_drewN ?_ _ | refine blk_drew ?_ | refine blk_alloc ?_ _)); exact BK113.out⟩, ⟨by repeat (first | (with_reducible first | exact HB.out | apply below_alloc | apply pw_below_drewN | apply below_drew1 | refine below_set ?_ GE113.out) | exact HB.out)⟩⟩
              · rw [if_neg c15] at H
                exact absurd H (by simp)
            · rw [if_neg c14] at H
              have c14b0 : decide (x3_2 < (l0_2.length : Int)) = false := decide_eq_false c14
              clear c14
              obtain rfl := Option.some.inj H
              have hcz21_0 : wr.cell? ⟨gb113, 0, none⟩ = some (.int .i64 a0_0) := (blk_cell BK113.out 0).trans rfl
              have hcz21_1 : wr.cell? ⟨gb113, 1, none⟩ = some (.int .i64 a0_1) := (blk_cell BK113.out 1).trans rfl
              have hcz21_2 : wr.cell? ⟨gb113, 2, none⟩ = some (.slice A0_2 l0_2.length c0_2) := (blk_cell BK113.out 2).trans rfl
              have hfz21_0 := blk_frozen BK113.out 0
              have hfz21_1 := blk_frozen BK113.out 1
              have hfz21_2 := blk_frozen BK113.out 2
              go_wp2
              go_ret
              exact ⟨by first | rfl | (simp [errW_none, errW_some] <;> rfl) | (simp [*, errW_none, errW_some] <;> rfl), by repeat (first | (with_reducible first | exact HB.out | apply below_alloc | apply pw_below_drewN | apply below_drew1 | refine below_set ?_ GE113.out) | exact HB.out)⟩

end Go.Proofs.Ytfdpebipnapelaa.P
/-
  sextonref12.numbers, told plainly.
-/
namespace Go.Proofs.Ytfdpebipnapelaa.P
open Go.RowKit Go.Proofs.CodecPlain Go.Proofs.YtfdpebipnapelaaW.PrintWords Go.Proofs.YtfdpebipnapelaaW.PrintLast

/-- The numbers that bytes are, one behind the other. -/
def numsOf : Nat → ByteArray → List Int × Bool
  | 0, _ => ([], true)
  | n + 1, s => if s.size = 0 then ([], true) else if (getNum s).2.2 = true then (if (numsOf n (getNum s).2.1).2 = true then ((getNum s).1 :: (numsOf n (getNum s).2.1).1, true) else ([], false)) else ([], false)
theorem numsOf_len : ∀ (n : Nat) (s : ByteArray), (numsOf n s).1.length ≤ n := by
  intro n
  induction n with
  | zero => intro s; simp [numsOf]
  | succ n ih =>
    intro s
    unfold numsOf
    split
    · simp
    · split
      · split
        · simp only [List.length_cons]; have := ih (getNum s).2.1; omega
        · simp
      · simp
def numsAft (a : List Int) (r : List Int × Bool) : List Int × Bool := if r.2 = true then (a ++ r.1, true) else ([], false)
theorem getNum_rest {s : ByteArray} (h : (getNum s).2.2 = true) : (getNum s).2.1.size < s.size := by
  obtain ⟨x, rest, ok, hg⟩ : ∃ x r ok, getNum s = (x, r, ok) := ⟨_, _, _, rfl⟩
  rw [hg] at h ⊢
  simp only at h ⊢
  subst h
  obtain ⟨_, _, hs⟩ := getNum_got hg
  have := numStr_size x
  rw [hs, CodecPlain.size_append]
  omega
theorem refNums_end (a : List Int) {s : ByteArray} (hs : s.size = 0) : Ev (fun k => sextonref12_numbers.l0 k s a) (a, true) :=
  Ev.step (f := fun _ => some (a, true)) (fun k => by simp only [sextonref12_numbers.l0]; rw [if_neg (by omega)]) (Ev.now _)
theorem refNums_l0 : ∀ (n : Nat) (s : ByteArray) (a : List Int), s.size ≤ n → a.length + n ≤ 17592186044415 → Ev (fun k => sextonref12_numbers.l0 k s a) (numsAft a (numsOf n s)) := by
  intro n
  induction n with
  | zero =>
    intro s a hs _
    have := refNums_end a (s := s) (by omega)
    simpa [numsAft, numsOf] using this
  | succ n ih =>
    intro s a hs hl
    by_cases h0 : s.size = 0
    · have := refNums_end a h0
      simpa [numsAft, numsOf, h0] using this
    · obtain ⟨x, rest, ok, hg⟩ : ∃ x r ok, getNum s = (x, r, ok) := ⟨_, _, _, rfl⟩
      have hr := refGetNumber s
      rw [hg] at hr
      refine Ev.step (f := fun k => (sextonref01_GetNumber.f k s).bind fun bt => if bt.2.2 = true then (if a.length < 17592186044416 then sextonref12_numbers.l0 k bt.2.1 (a ++ [bt.1]) else none) else some ([], false)) (fun k => by simp only [sextonref12_numbers.l0]; rw [if_pos (by omega)]) ?_
      refine Ev.bind hr ?_
      unfold numsOf
      rw [if_neg h0, hg]
      cases ok
      · exact Ev.congr (f := fun _ => some ([], false)) (fun k => by rw [if_neg (by simp)]) (by simpa [numsAft] using Ev.now (([] : List Int), false))
      · simp only [if_true]
        have hlt := getNum_rest (s := s) (by rw [hg])
        rw [hg] at hlt
        simp only at hlt
        refine Ev.congr (f := fun k => sextonref12_numbers.l0 k rest (a ++ [x])) (fun k => by rw [if_pos (by omega)]) ?_
        have := ih rest (a ++ [x]) (by omega) (by rw [List.length_append]; simp only [List.length_cons, List.length_nil]; omega)
        cases hq : (numsOf n rest).2
        · simpa [numsAft, hq] using this
        · simpa [numsAft, hq] using this
theorem refNums (s : ByteArray) (h : s.size ≤ 17592186044415) : Ev (fun k => sextonref12_numbers.f k s) (numsOf s.size s) := by
  have := refNums_l0 s.size s [] (Nat.le_refl _) (by simpa using h)
  refine Ev.congr (f := fun k => sextonref12_numbers.l0 k s []) (fun _ => rfl) ?_
  cases hq : (numsOf s.size s).2
  · have e : numsOf s.size s = ([], false) := by
      clear this h
      revert hq
      generalize s.size = n
      cases n with
      | zero => intro hq; simp [numsOf] at hq
      | succ n =>
        intro hq
        unfold numsOf at hq ⊢
        split at hq
        · cases hq
        · rename_i h1
          rw [if_neg h1]
          split at hq
          · rename_i h2
            rw [if_pos h2]
            split at hq
            · cases hq
            · rename_i h3
              rw [if_neg h3]
          · rename_i h2
            rw [if_neg h2]
    rw [e] at this ⊢
    simpa [numsAft] using this
  · have e : numsAft [] (numsOf s.size s) = numsOf s.size s := by
      unfold numsAft
      rw [if_pos hq, List.nil_append, ← hq]
    rw [e] at this
    exact this
/-- What is told where some have been read is told of the end. -/
theorem refMetaIs_l0 (a b : Int) (l : List Int) (hl : l.length ≤ 9223372036854775807) (d : Nat) : ∀ i : Nat, i + d = l.length → Ev (fun k => sextonref12_Is.l0 k (i : Int) a b l) ((l.drop i).all (fun n => inM n 4294967295)) := by
  induction d with
  | zero =>
    intro i hi
    rw [List.drop_of_length_le (by omega)]
    exact Ev.step (f := fun _ => some true) (fun k => by simp only [sextonref12_Is.l0]; rw [if_neg (by omega)]) (Ev.now _)
  | succ d ih =>
    intro i hi
    have hlt : i < l.length := by omega
    have hr : rd l (i : Int) = l[i] := by simp [rd, List.getD_eq_getElem?_getD, hlt]
    have hw : wrap64 ((i : Int) + 1) = ((i + 1 : Nat) : Int) := by unfold wrap64; omega
    rw [show l.drop i = l[i] :: l.drop (i + 1) from List.drop_eq_getElem_cons hlt, List.all_cons]
    by_cases h0 : l[i] < 0
    · have e : inM l[i] 4294967295 = false := by unfold inM; rw [decide_eq_false (by omega)]; rfl
      rw [e]
      exact Ev.step (f := fun _ => some false) (fun k => by simp only [sextonref12_Is.l0]; rw [if_pos (by omega), if_pos (by omega), hr, if_pos h0]) (Ev.now _)
    · by_cases h1 : l[i] > 4294967295
      · have e : inM l[i] 4294967295 = false := by unfold inM; rw [decide_eq_false (show ¬ l[i] ≤ 4294967295 by omega), Bool.and_false]
        rw [e]
        exact Ev.step (f := fun _ => some false) (fun k => by simp only [sextonref12_Is.l0]; rw [if_pos (by omega), if_pos (by omega), hr, if_neg h0, if_pos h1]) (Ev.now _)
      · have e : inM l[i] 4294967295 = true := by unfold inM; rw [decide_eq_true (by omega), decide_eq_true (by omega)]; rfl
        rw [e, Bool.true_and]
        exact Ev.step (f := fun k => sextonref12_Is.l0 k ((i + 1 : Nat) : Int) a b l) (fun k => by simp only [sextonref12_Is.l0]; rw [if_pos (by omega), if_pos (by omega), hr, if_neg h0, if_neg h1, hw]) (ih (i + 1) (by omega))
theorem refMetaIs (a b : Int) (l : List Int) (hl : l.length ≤ 9223372036854775807) : Ev (fun k => sextonref12_Is.f k a b l) (metaB a b l) := by
  have hl0 := refMetaIs_l0 a b l hl l.length 0 (by omega)
  have hj : ∀ t : Bool, Ev (fun k => sextonref12_Is.j0 k t a b l) (!t && l.all (fun n => inM n 4294967295)) := by
    intro t
    cases t
    · refine Ev.step (f := fun k => sextonref12_Is.l0 k 0 a b l) (fun k => by simp [sextonref12_Is.j0]) ?_
      simpa using hl0
    · exact Ev.step (f := fun _ => some false) (fun k => by simp [sextonref12_Is.j0]) (Ev.now _)
  have hm : metaB a b l = (!(decide (a < 0) || decide (a > 1000000000) || decide (b < 0) || decide (b > 4095) || decide ((l.length : Int) > 16)) && l.all (fun n => inM n 4294967295)) := by
    unfold metaB inM
    rw [Bool.and_comm]
    congr 1
    by_cases h0 : a < 0 <;> by_cases h1 : a > 1000000000 <;> by_cases h2 : b < 0 <;> by_cases h3 : b > 4095 <;> by_cases h4 : (l.length : Int) > 16 <;> simp [h0, h1, h2, h3, h4] <;> omega
  rw [hm]
  by_cases h0 : a < 0
  · exact Ev.congr (f := fun k => sextonref12_Is.j0 k true a b l) (fun k => by unfold sextonref12_Is.f; rw [if_pos h0]) (by simpa [h0] using hj true)
  by_cases h1 : a > 1000000000
  · exact Ev.congr (f := fun k => sextonref12_Is.j0 k true a b l) (fun k => by unfold sextonref12_Is.f; rw [if_neg h0, if_pos h1]) (by simpa [h0, h1] using hj true)
  by_cases h2 : b < 0
  · exact Ev.congr (f := fun k => sextonref12_Is.j0 k true a b l) (fun k => by unfold sextonref12_Is.f; rw [if_neg h0, if_neg h1, if_pos h2]) (by simpa [h0, h1, h2] using hj true)
  by_cases h3 : b > 4095
  · exact Ev.congr (f := fun k => sextonref12_Is.j0 k true a b l) (fun k => by unfold sextonref12_Is.f; rw [if_neg h0, if_neg h1, if_neg h2, if_pos h3]) (by simpa [h0, h1, h2, h3] using hj true)
  exact Ev.congr (f := fun k => sextonref12_Is.j0 k (decide ((l.length : Int) > 16)) a b l) (fun k => by unfold sextonref12_Is.f; rw [if_neg h0, if_neg h1, if_neg h2, if_neg h3]) (by simpa [h0, h1, h2, h3] using hj (decide ((l.length : Int) > 16)))
end Go.Proofs.Ytfdpebipnapelaa.P
