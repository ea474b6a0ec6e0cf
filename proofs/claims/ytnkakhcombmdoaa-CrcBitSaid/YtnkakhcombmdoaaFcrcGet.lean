-- Written by a program of this session (xprint.py) over the kit's print.py.
import Derived.Test.YtnkakhcombmdoaaPx0
import Derived.Test.YtnkakhcombmdoaaFcodecGetText
import Derived.Test.YtnkakhcombmdoaaHcrcSum
namespace Go.Proofs.Ytnkakhcombmdoaa.P
open Go.RowKit Go.Proofs.YtnkakhcombmdoaaW.PrintWords Go.Proofs.YtnkakhcombmdoaaW.PrintLast Go.Proofs.YtnkakhcombmdoaaW.PrintMore
attribute [local go_sem] max2_int min2_int max_two min_two max_three min_three max_four min_four   -- for this text's walks alone
set_option linter.unusedVariables false
set_option linter.unusedSimpArgs false

/-! ### crc_Get: function 37 -/
def crc_Get.l0 : Nat → ByteArray → ByteArray → ByteArray → Int → Int → Option (ByteArray × ByteArray × Int)
  | 0, _, _, _, _, _ => none
  | k + 1, x0, x5, x6, x8, x22 => if x22 < 4 then (if 0 ≤ x22 then (if x22 < (x0.size : Int) then (crc_Get.l0 k x0 x5 x6 (Go.bits .or .i64 (wrap64 (x8 * 256)) (wrap64 (bt x0 x22))) (wrap64 (x22 + 1))) else (none)) else (none)) else ((crc_Sum.f x5).bind fun t178 => (if t178 = x8 then (some (x5, x6, 0)) else (some ((⟨#[]⟩ : ByteArray), (⟨#[]⟩ : ByteArray), 30))))
def crc_Get.f (k : Nat) (a0 : ByteArray) : Option (ByteArray × ByteArray × Int) := if (a0.size : Int) < 4 then (some ((⟨#[]⟩ : ByteArray), (⟨#[]⟩ : ByteArray), 30)) else (if 4 ≤ (a0.size : Int) then ((codec_GetText.f (a0.extract 4 a0.size)).bind fun bt175 => (if bt175.2.2 = true then (crc_Get.l0 k a0 bt175.1 bt175.2.1 0 0) else (some ((⟨#[]⟩ : ByteArray), (⟨#[]⟩ : ByteArray), 30)))) else (none))
theorem crc_Get.mono_l : ∀ k, (∀ y0 y1 y2 y3 y4, LeO (crc_Get.l0 k y0 y1 y2 y3 y4) (crc_Get.l0 (k + 1) y0 y1 y2 y3 y4))
  | 0 => fun _ _ _ _ _ r h => by simp [crc_Get.l0] at h
  | k + 1 => by
    have ih0 := crc_Get.mono_l k
    · intro y0 y1 y2 y3 y4
      unfold crc_Get.l0
      repeat' first
      | (with_reducible exact ih0 _ _ _ _ _)
      | (with_reducible exact LeO.refl _)
      | (with_reducible exact LeO.none _)
      | (with_reducible refine LeO.ite ?_ ?_)
      | (with_reducible refine LeO.bind ?_ (fun _ => ?_))
      | exact ih0 _ _ _ _ _
      | exact LeO.none _
      | refine LeO.ite ?_ ?_
      | refine LeO.bind ?_ (fun _ => ?_)
theorem crc_Get.mono : ∀ a0 k, LeO (crc_Get.f k a0) (crc_Get.f (k + 1) a0) := by
  intro a0 k
  have ih0 := crc_Get.mono_l k
  unfold crc_Get.f
  repeat' first
      | (with_reducible exact ih0 _ _ _ _ _)
      | (with_reducible exact LeO.refl _)
      | (with_reducible exact LeO.none _)
      | (with_reducible refine LeO.ite ?_ ?_)
      | (with_reducible refine LeO.bind ?_ (fun _ => ?_))
      | exact ih0 _ _ _ _ _
      | exact LeO.none _
      | refine LeO.ite ?_ ?_
      | refine LeO.bind ?_ (fun _ => ?_)
set_option maxHeartbeats 8000000 in
set_option maxRecDepth 100000 in
theorem crc_Get.calls (k : Nat) (a0 : ByteArray) (r1 : ByteArray) (r2 : ByteArray) (r3 : Int) (w : World) (h : crc_Get.f k a0 = some (r1, r2, r3)) :
    Calls Try.prog 37 #[.string a0] w fun e w' => e = .returned (.tuple #[.string r1, .string r2, .int .i64 r3]) ∧ Below w.heap.size w w' := by
  have HB := Aside0.mk (Below.refl w.heap.size w)
  have H : (if (a0.size : Int) < 4 then (some ((⟨#[]⟩ : ByteArray), (⟨#[]⟩ : ByteArray), 30)) else (if 4 ≤ (a0.size : Int) then ((codec_GetText.f (a0.extract 4 a0.size)).bind fun bt175 => (if bt175.2.2 = true then (crc_Get.l0 k a0 bt175.1 bt175.2.1 0 0) else (some ((⟨#[]⟩ : ByteArray), (⟨#[]⟩ : ByteArray), 30)))) else (none))) = some (r1, r2, r3) := h
  clear h
  by_cases c2 : (a0.size : Int) < 4
  · rw [if_pos c2] at H
    have c2b0 : decide ((a0.size : Int) < 4) = true := decide_eq_true c2
    have c2b1 : decide (a0.size < 4) = true := decide_eq_true (by omega)
    clear c2
    simp only [Option.some.injEq, Prod.mk.injEq] at H
    obtain ⟨rfl, rfl, rfl⟩ := H
    go_enter Try.func37, Try.ntmps37
    go_wp2
    go_ret3
    exact ⟨by first | rfl | (simp [errW_none, errW_some] <;> rfl) | (simp [*, errW_none, errW_some] <;> rfl), by repeat (first | (with_reducible first | exact HB.out | apply below_alloc | apply pw_below_drewN | apply below_drew1) | exact HB.out)⟩
  · rw [if_neg c2] at H
    have c2b0 : decide ((a0.size : Int) < 4) = false := decide_eq_false c2
    have c2b1 : decide (a0.size < 4) = false := decide_eq_false (by omega)
    clear c2
    by_cases c3 : 4 ≤ (a0.size : Int)
    · rw [if_pos c3] at H
      have c3b0 := eq_true c3
      have c3b1 : decide (4 ≤ (a0.size : Int)) = true := decide_eq_true c3
      clear c3
      replace H := Option.bind_eq_some_iff.mp H
      obtain ⟨⟨t175, t176, t177⟩, A40, H⟩ := H
      replace H : (if t177 = true then (crc_Get.l0 k a0 t175 t176 0 0) else (some ((⟨#[]⟩ : ByteArray), (⟨#[]⟩ : ByteArray), 30))) = some (r1, r2, r3) := H
      have A4 := Aside0.mk A40
      clear A40
      by_cases c5 : t177 = true
      · subst c5
        have H1 : (crc_Get.l0 k a0 t175 t176 0 0) = some (r1, r2, r3) := by rw [if_pos rfl] at H; exact H
        clear H
        have H := H1
        clear H1
        have H' := Aside0.mk H
        clear H
        go_enter Try.func37, Try.ntmps37
        go_wp2_with (first | ((with_reducible refine gate_callee (f := 32) rfl ?_); refine goesL_ (some 16) rfl rfl Try.func32 (by kernel_rfl) rfl #[.string (a0.extract 4 a0.size)] rfl (by (try simp only [List.map_toArray, List.map_cons, List.map_nil]); first | done | rfl | (simp only [List.length_drop, List.length_take]; rfl)) ?_; (with_reducible refine (codec_GetText.calls (a0.extract 4 a0.size) t175 t176 true _ A4.out).mono ?_); rintro e w' ⟨rfl, ⟨nd, rfl⟩⟩; refine ⟨_, rfl, ?_⟩))
        go_loopg [8, 22] k (fun kq v8 v22 w' => ∃ (x8_1 : Int) (x22_1 : Int), v8 = .int .i64 x8_1 ∧ v22 = .int .i64 x22_1 ∧ Aside0 (crc_Get.l0 kq a0 t175 t176 x8_1 x22_1 = some (r1, r2, r3)) ∧ Aside0 (kq ≤ k) ∧ Aside0 (Below w.heap.size w w'))
        case atStart => exact ⟨(0), (0), (by first | rfl | (simp; done) | (simp [*]; done)), (by first | rfl | (simp; done) | (simp [*]; done)), H', ⟨Nat.le_refl _⟩, ⟨by repeat (first | (with_reducible first | exact HB.out | apply below_alloc | apply pw_below_drewN | apply below_drew1) | exact HB.out)⟩⟩
        case round =>
          clear H'
          try clear c2
          try clear c2b0
          try clear c2b1
          try clear p2
          try clear c3
          try clear c3b0
          try clear c3b1
          try clear c5
          obtain ⟨x8_1, x22_1, rfl, rfl, HA, HK1, HB⟩ := hrel
          cases gk with
          | zero => exact absurd HA.out (by simp [crc_Get.l0])
          | succ k1 =>
            have H := HA.out
            clear HA
            simp only [crc_Get.l0] at H
            by_cases c6 : x22_1 < 4
            · rw [if_pos c6] at H
              have c6b0 : decide (x22_1 < 4) = true := decide_eq_true c6
              clear c6
              by_cases c7 : 0 ≤ x22_1
              · rw [if_pos c7] at H
                have c7b0 : decide (0 ≤ x22_1) = true := decide_eq_true c7
                clear c7
                by_cases c8 : x22_1 < (a0.size : Int)
                · rw [if_pos c8] at H
                  have c8b0 : decide (x22_1 < (a0.size : Int)) = true := decide_eq_true c8
                  clear c8
                  have H' := Aside0.mk H
                  clear H
                  have p9 : 0 ≤ (x22_1 : Int) := of_decide_eq_true (by first | (with_reducible assumption) | assumption)
                  have q9 : x22_1 < (a0.size : Int) := of_decide_eq_true (by first | (with_reducible assumption) | assumption)
                  have hx9 := bt_at a0 x22_1
                  replace p9 := eq_true p9
                  replace q9 := eq_true q9
                  go_wp2
                  go_roundg k1
                  case measure => have := HK1.out; omega
                  case rel => exact ⟨(Go.bits .or .i64 (wrap64 (x8_1 * 256)) (wrap64 (bt a0 x22_1))), (wrap64 (x22_1 + 1)), (by first | rfl | (simp; done) | (simp [*]; done)), (by first | rfl | (simp; done) | (simp [*]; done)), H', ⟨by have := HK1.out; omega⟩, ⟨by repeat (first | (with_reducible first | exact HB.out | apply below_alloc | apply pw_below_drewN | apply below_drew1) | exact HB.out)⟩⟩
                · rw [if_neg c8] at H
                  exact absurd H (by simp)
              · rw [if_neg c7] at H
                exact absurd H (by simp)
            · rw [if_neg c6] at H
              have c6b0 : decide (x22_1 < 4) = false := decide_eq_false c6
              clear c6
              replace H := Option.bind_eq_some_iff.mp H
              obtain ⟨t178, A100, H⟩ := H
              replace H : (if t178 = x8_1 then (some (t175, t176, 0)) else (some ((⟨#[]⟩ : ByteArray), (⟨#[]⟩ : ByteArray), 30))) = some (r1, r2, r3) := H
              have A10 := Aside0.mk A100
              clear A100
              by_cases c11 : t178 = x8_1
              · rw [if_pos c11] at H
                have c11b0 : (t178 == x8_1) = true := beq_iff_eq.mpr c11
                have c11b1 : (t178 != x8_1) = false := bne_eq_false_iff_eq.mpr c11
                clear c11
                simp only [Option.some.injEq, Prod.mk.injEq] at H
                obtain ⟨rfl, rfl, rfl⟩ := H
                go_wp2_with (first | ((with_reducible refine gate_callee (f := 24) rfl ?_); refine goesL_ (some 34) rfl rfl Try.func24 (by kernel_rfl) rfl #[.string t175] rfl (by (try simp only [List.map_toArray, List.map_cons, List.map_nil]); first | done | rfl | (simp only [List.length_drop, List.length_take]; rfl)) ?_; (with_reducible refine (crc_Sum.calls t175 t178 _ A10.out).mono ?_); rintro e w12 ⟨rfl, hb⟩; refine ⟨_, rfl, ?_⟩; have n0_ := Aside0.mk (below_step (by repeat (first | (with_reducible first | exact HB.out | apply below_alloc | apply pw_below_drewN | apply below_drew1) | exact HB.out)) hb); clear HB; have HB := n0_; clear n0_; (try clear hb); (try clear hb2); (try clear hk); (try clear hi)))
                go_ret3
                exact ⟨by first | rfl | (simp [errW_none, errW_some] <;> rfl) | (simp [*, errW_none, errW_some] <;> rfl), by repeat (first | (with_reducible first | exact HB.out | apply below_alloc | apply pw_below_drewN | apply below_drew1) | exact HB.out)⟩
              · rw [if_neg c11] at H
                have c11b0 : (t178 == x8_1) = false := beq_eq_false_iff_ne.mpr c11
                have c11b1 : (t178 != x8_1) = true := bne_iff_ne.mpr c11
                simp only [Option.some.injEq, Prod.mk.injEq] at H
                obtain ⟨rfl, rfl, rfl⟩ := H
                go_wp2_with (first | ((with_reducible refine gate_callee (f := 24) rfl ?_); refine goesL_ (some 34) rfl rfl Try.func24 (by kernel_rfl) rfl #[.string t175] rfl (by (try simp only [List.map_toArray, List.map_cons, List.map_nil]); first | done | rfl | (simp only [List.length_drop, List.length_take]; rfl)) ?_; (with_reducible refine (crc_Sum.calls t175 t178 _ A10.out).mono ?_); rintro e w13 ⟨rfl, hb⟩; refine ⟨_, rfl, ?_⟩; have n0_ := Aside0.mk (below_step (by repeat (first | (with_reducible first | exact HB.out | apply below_alloc | apply pw_below_drewN | apply below_drew1) | exact HB.out)) hb); clear HB; have HB := n0_; clear n0_; (try clear hb); (try clear hb2); (try clear hk); (try clear hi)))
                go_ret3
                exact ⟨by first | rfl | (simp [errW_none, errW_some] <;> rfl) | (simp [*, errW_none, errW_some] <;> rfl), by repeat (first | (with_reducible first | exact HB.out | apply below_alloc | apply pw_below_drewN | apply below_drew1) | exact HB.out)⟩
      · replace c5 := Bool.eq_false_iff.mpr c5
        subst c5
        have H1 : (some ((⟨#[]⟩ : ByteArray), (⟨#[]⟩ : ByteArray), 30)) = some (r1, r2, r3) := by rw [if_neg (show ¬ (false = true) by decide)] at H; exact H
        clear H
        have H := H1
        clear H1
        simp only [Option.some.injEq, Prod.mk.injEq] at H
        obtain ⟨rfl, rfl, rfl⟩ := H
        go_enter Try.func37, Try.ntmps37
        go_wp2_with (first | ((with_reducible refine gate_callee (f := 32) rfl ?_); refine goesL_ (some 16) rfl rfl Try.func32 (by kernel_rfl) rfl #[.string (a0.extract 4 a0.size)] rfl (by (try simp only [List.map_toArray, List.map_cons, List.map_nil]); first | done | rfl | (simp only [List.length_drop, List.length_take]; rfl)) ?_; (with_reducible refine (codec_GetText.calls (a0.extract 4 a0.size) t175 t176 false _ A4.out).mono ?_); rintro e w' ⟨rfl, ⟨nd, rfl⟩⟩; refine ⟨_, rfl, ?_⟩))
        go_ret3
        exact ⟨by first | rfl | (simp [errW_none, errW_some] <;> rfl) | (simp [*, errW_none, errW_some] <;> rfl), by repeat (first | (with_reducible first | exact HB.out | apply below_alloc | apply pw_below_drewN | apply below_drew1) | exact HB.out)⟩
    · rw [if_neg c3] at H
      exact absurd H (by simp)

end Go.Proofs.Ytnkakhcombmdoaa.P
