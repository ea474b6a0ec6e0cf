/-
  Texts that the claims of this chapter share, joined.
-/
import Derived.Test.YtkgcaheddhfpgaaPx0
import Derived.Test.YtkgcaheddhfpgaaC05d
import Derived.Test.YtkgcaheddhfpgaaC05b
import Derived.WalkKit
import Derived.ProofKit
import Derived.OpenShut
import Derived.ShutString
import Derived.ChangeOld
import Derived.Below
import Derived.SizedLaws
import Derived.ChangeArms
import Derived.Test.YtkgcaheddhfpgaaWWords
set_option linter.unusedVariables false
set_option linter.unusedSimpArgs false
/-
  sexton/sextonlaw05.twins answers true. The print's walk, with the branches that would answer false closed.
-/
-- Written by a program of this session (xprint.py) over the kit's print.py.
namespace Go.Proofs.Ytkgcaheddhfpgaa.P
open Go.RowKit Go.Proofs.YtkgcaheddhfpgaaW.PrintWords Go.Proofs.YtkgcaheddhfpgaaW.PrintLast Go.Proofs.YtkgcaheddhfpgaaW.PrintMore
attribute [local go_sem] max2_int min2_int max_two min_two max_three min_three max_four min_four   -- for this text's walks alone
set_option linter.unusedVariables false
set_option linter.unusedSimpArgs false

/-! ### sextonlaw05_twinsP: function 14 -/
def sextonlaw05_twinsP.f  : Option (Bool) := (disk_New.f 2).bind fun bt151 => ((twin_Get.f bt151.1 bt151.2.1 0).bind fun bt159 => ((twin_Put.f bt151.1 bt151.2.1 0 (⟨#[97]⟩ : ByteArray)).bind fun bt162 => ((twin_Get.f bt162.1 bt162.2.1 0).bind fun bt170 => ((twin_Put.f bt162.1 bt162.2.1 0 (⟨#[98]⟩ : ByteArray)).bind fun bt173 => ((twin_Stop.f bt173.1 bt173.2.1 0 (⟨#[99]⟩ : ByteArray) 1).bind fun bt181 => ((disk_Crash.f bt181.1 bt181.2.1 ([] : List Bool)).bind fun bt190 => ((twin_Get.f bt190.1 bt190.2.1 0).bind fun bt198 => (if bt151.2.2 = 0 then (if bt159.2.2 = bt151.2.2 then (if bt159.1.toList = ([] : List UInt8) then (if bt159.2.1 = 0 then (if bt162.2.2 = bt151.2.2 then (if bt170.2.2 = bt151.2.2 then (if bt170.1.toList = ([97] : List UInt8) then (if bt170.2.1 = 1 then (if bt173.2.2 = bt151.2.2 then (if bt181.2.2.2 = bt151.2.2 then (if bt181.2.2.1 = true then (some false) else (if bt190.2.2 = bt151.2.2 then (if bt198.2.2 = bt151.2.2 then (if bt198.1.toList = ([98] : List UInt8) then (some (bt198.2.1 == 2)) else (some false)) else (some false)) else (some false))) else (some false)) else (some false)) else (some false)) else (some false)) else (some false)) else (some false)) else (some false)) else (some false)) else (some false)) else (some false)))))))))
set_option maxHeartbeats 8000000 in
set_option maxRecDepth 100000 in
theorem sextonlaw05_twinsP.calls  (r : Bool) (hrt : r = true := by rfl) (w : World) (h : sextonlaw05_twinsP.f  = some r) :
    Calls Try.prog 14 #[] w fun e w' => e = .returned (.bool r) ∧ Below w.heap.size w w' := by
  have HRT := Aside0.mk hrt
  have hu25 := Try.underlying25
  have HB := Aside0.mk (Below.refl w.heap.size w)
  have H : ((disk_New.f 2).bind fun bt151 => ((twin_Get.f bt151.1 bt151.2.1 0).bind fun bt159 => ((twin_Put.f bt151.1 bt151.2.1 0 (⟨#[97]⟩ : ByteArray)).bind fun bt162 => ((twin_Get.f bt162.1 bt162.2.1 0).bind fun bt170 => ((twin_Put.f bt162.1 bt162.2.1 0 (⟨#[98]⟩ : ByteArray)).bind fun bt173 => ((twin_Stop.f bt173.1 bt173.2.1 0 (⟨#[99]⟩ : ByteArray) 1).bind fun bt181 => ((disk_Crash.f bt181.1 bt181.2.1 ([] : List Bool)).bind fun bt190 => ((twin_Get.f bt190.1 bt190.2.1 0).bind fun bt198 => (if bt151.2.2 = 0 then (if bt159.2.2 = bt151.2.2 then (if bt159.1.toList = ([] : List UInt8) then (if bt159.2.1 = 0 then (if bt162.2.2 = bt151.2.2 then (if bt170.2.2 = bt151.2.2 then (if bt170.1.toList = ([97] : List UInt8) then (if bt170.2.1 = 1 then (if bt173.2.2 = bt151.2.2 then (if bt181.2.2.2 = bt151.2.2 then (if bt181.2.2.1 = true then (some false) else (if bt190.2.2 = bt151.2.2 then (if bt198.2.2 = bt151.2.2 then (if bt198.1.toList = ([98] : List UInt8) then (some (bt198.2.1 == 2)) else (some false)) else (some false)) else (some false))) else (some false)) else (some false)) else (some false)) else (some false)) else (some false)) else (some false)) else (some false)) else (some false)) else (some false)) else (some false)))))))))) = some r := h
  clear h
  replace H := Option.bind_eq_some_iff.mp H
  obtain ⟨⟨t151, t154, t157⟩, A10, H⟩ := H
  replace H : ((twin_Get.f t151 t154 0).bind fun bt159 => ((twin_Put.f t151 t154 0 (⟨#[97]⟩ : ByteArray)).bind fun bt162 => ((twin_Get.f bt162.1 bt162.2.1 0).bind fun bt170 => ((twin_Put.f bt162.1 bt162.2.1 0 (⟨#[98]⟩ : ByteArray)).bind fun bt173 => ((twin_Stop.f bt173.1 bt173.2.1 0 (⟨#[99]⟩ : ByteArray) 1).bind fun bt181 => ((disk_Crash.f bt181.1 bt181.2.1 ([] : List Bool)).bind fun bt190 => ((twin_Get.f bt190.1 bt190.2.1 0).bind fun bt198 => (if t157 = 0 then (if bt159.2.2 = t157 then (if bt159.1.toList = ([] : List UInt8) then (if bt159.2.1 = 0 then (if bt162.2.2 = t157 then (if bt170.2.2 = t157 then (if bt170.1.toList = ([97] : List UInt8) then (if bt170.2.1 = 1 then (if bt173.2.2 = t157 then (if bt181.2.2.2 = t157 then (if bt181.2.2.1 = true then (some false) else (if bt190.2.2 = t157 then (if bt198.2.2 = t157 then (if bt198.1.toList = ([98] : List UInt8) then (some (bt198.2.1 == 2)) else (some false)) else (some false)) else (some false))) else (some false)) else (some false)) else (some false)) else (some false)) else (some false)) else (some false)) else (some false)) else (some false)) else (some false)) else (some false))))))))) = some r := H
  have A1 := Aside0.mk A10
  clear A10
  replace H := Option.bind_eq_some_iff.mp H
  obtain ⟨⟨t159, t160, t161⟩, A20, H⟩ := H
  replace H : ((twin_Put.f t151 t154 0 (⟨#[97]⟩ : ByteArray)).bind fun bt162 => ((twin_Get.f bt162.1 bt162.2.1 0).bind fun bt170 => ((twin_Put.f bt162.1 bt162.2.1 0 (⟨#[98]⟩ : ByteArray)).bind fun bt173 => ((twin_Stop.f bt173.1 bt173.2.1 0 (⟨#[99]⟩ : ByteArray) 1).bind fun bt181 => ((disk_Crash.f bt181.1 bt181.2.1 ([] : List Bool)).bind fun bt190 => ((twin_Get.f bt190.1 bt190.2.1 0).bind fun bt198 => (if t157 = 0 then (if t161 = t157 then (if t159.toList = ([] : List UInt8) then (if t160 = 0 then (if bt162.2.2 = t157 then (if bt170.2.2 = t157 then (if bt170.1.toList = ([97] : List UInt8) then (if bt170.2.1 = 1 then (if bt173.2.2 = t157 then (if bt181.2.2.2 = t157 then (if bt181.2.2.1 = true then (some false) else (if bt190.2.2 = t157 then (if bt198.2.2 = t157 then (if bt198.1.toList = ([98] : List UInt8) then (some (bt198.2.1 == 2)) else (some false)) else (some false)) else (some false))) else (some false)) else (some false)) else (some false)) else (some false)) else (some false)) else (some false)) else (some false)) else (some false)) else (some false)) else (some false)))))))) = some r := H
  have A2 := Aside0.mk A20
  clear A20
  replace H := Option.bind_eq_some_iff.mp H
  obtain ⟨⟨t162, t165, t168⟩, A30, H⟩ := H
  replace H : ((twin_Get.f t162 t165 0).bind fun bt170 => ((twin_Put.f t162 t165 0 (⟨#[98]⟩ : ByteArray)).bind fun bt173 => ((twin_Stop.f bt173.1 bt173.2.1 0 (⟨#[99]⟩ : ByteArray) 1).bind fun bt181 => ((disk_Crash.f bt181.1 bt181.2.1 ([] : List Bool)).bind fun bt190 => ((twin_Get.f bt190.1 bt190.2.1 0).bind fun bt198 => (if t157 = 0 then (if t161 = t157 then (if t159.toList = ([] : List UInt8) then (if t160 = 0 then (if t168 = t157 then (if bt170.2.2 = t157 then (if bt170.1.toList = ([97] : List UInt8) then (if bt170.2.1 = 1 then (if bt173.2.2 = t157 then (if bt181.2.2.2 = t157 then (if bt181.2.2.1 = true then (some false) else (if bt190.2.2 = t157 then (if bt198.2.2 = t157 then (if bt198.1.toList = ([98] : List UInt8) then (some (bt198.2.1 == 2)) else (some false)) else (some false)) else (some false))) else (some false)) else (some false)) else (some false)) else (some false)) else (some false)) else (some false)) else (some false)) else (some false)) else (some false)) else (some false))))))) = some r := H
  have A3 := Aside0.mk A30
  clear A30
  replace H := Option.bind_eq_some_iff.mp H
  obtain ⟨⟨t170, t171, t172⟩, A40, H⟩ := H
  replace H : ((twin_Put.f t162 t165 0 (⟨#[98]⟩ : ByteArray)).bind fun bt173 => ((twin_Stop.f bt173.1 bt173.2.1 0 (⟨#[99]⟩ : ByteArray) 1).bind fun bt181 => ((disk_Crash.f bt181.1 bt181.2.1 ([] : List Bool)).bind fun bt190 => ((twin_Get.f bt190.1 bt190.2.1 0).bind fun bt198 => (if t157 = 0 then (if t161 = t157 then (if t159.toList = ([] : List UInt8) then (if t160 = 0 then (if t168 = t157 then (if t172 = t157 then (if t170.toList = ([97] : List UInt8) then (if t171 = 1 then (if bt173.2.2 = t157 then (if bt181.2.2.2 = t157 then (if bt181.2.2.1 = true then (some false) else (if bt190.2.2 = t157 then (if bt198.2.2 = t157 then (if bt198.1.toList = ([98] : List UInt8) then (some (bt198.2.1 == 2)) else (some false)) else (some false)) else (some false))) else (some false)) else (some false)) else (some false)) else (some false)) else (some false)) else (some false)) else (some false)) else (some false)) else (some false)) else (some false)))))) = some r := H
  have A4 := Aside0.mk A40
  clear A40
  replace H := Option.bind_eq_some_iff.mp H
  obtain ⟨⟨t173, t176, t179⟩, A50, H⟩ := H
  replace H : ((twin_Stop.f t173 t176 0 (⟨#[99]⟩ : ByteArray) 1).bind fun bt181 => ((disk_Crash.f bt181.1 bt181.2.1 ([] : List Bool)).bind fun bt190 => ((twin_Get.f bt190.1 bt190.2.1 0).bind fun bt198 => (if t157 = 0 then (if t161 = t157 then (if t159.toList = ([] : List UInt8) then (if t160 = 0 then (if t168 = t157 then (if t172 = t157 then (if t170.toList = ([97] : List UInt8) then (if t171 = 1 then (if t179 = t157 then (if bt181.2.2.2 = t157 then (if bt181.2.2.1 = true then (some false) else (if bt190.2.2 = t157 then (if bt198.2.2 = t157 then (if bt198.1.toList = ([98] : List UInt8) then (some (bt198.2.1 == 2)) else (some false)) else (some false)) else (some false))) else (some false)) else (some false)) else (some false)) else (some false)) else (some false)) else (some false)) else (some false)) else (some false)) else (some false)) else (some false))))) = some r := H
  have A5 := Aside0.mk A50
  clear A50
  replace H := Option.bind_eq_some_iff.mp H
  obtain ⟨⟨t181, t184, t187, t188⟩, A60, H⟩ := H
  replace H : ((disk_Crash.f t181 t184 ([] : List Bool)).bind fun bt190 => ((twin_Get.f bt190.1 bt190.2.1 0).bind fun bt198 => (if t157 = 0 then (if t161 = t157 then (if t159.toList = ([] : List UInt8) then (if t160 = 0 then (if t168 = t157 then (if t172 = t157 then (if t170.toList = ([97] : List UInt8) then (if t171 = 1 then (if t179 = t157 then (if t188 = t157 then (if t187 = true then (some false) else (if bt190.2.2 = t157 then (if bt198.2.2 = t157 then (if bt198.1.toList = ([98] : List UInt8) then (some (bt198.2.1 == 2)) else (some false)) else (some false)) else (some false))) else (some false)) else (some false)) else (some false)) else (some false)) else (some false)) else (some false)) else (some false)) else (some false)) else (some false)) else (some false)))) = some r := H
  have A6 := Aside0.mk A60
  clear A60
  replace H := Option.bind_eq_some_iff.mp H
  obtain ⟨⟨t190, t193, t196⟩, A70, H⟩ := H
  replace H : ((twin_Get.f t190 t193 0).bind fun bt198 => (if t157 = 0 then (if t161 = t157 then (if t159.toList = ([] : List UInt8) then (if t160 = 0 then (if t168 = t157 then (if t172 = t157 then (if t170.toList = ([97] : List UInt8) then (if t171 = 1 then (if t179 = t157 then (if t188 = t157 then (if t187 = true then (some false) else (if t196 = t157 then (if bt198.2.2 = t157 then (if bt198.1.toList = ([98] : List UInt8) then (some (bt198.2.1 == 2)) else (some false)) else (some false)) else (some false))) else (some false)) else (some false)) else (some false)) else (some false)) else (some false)) else (some false)) else (some false)) else (some false)) else (some false)) else (some false))) = some r := H
  have A7 := Aside0.mk A70
  clear A70
  replace H := Option.bind_eq_some_iff.mp H
  obtain ⟨⟨t198, t199, t200⟩, A80, H⟩ := H
  replace H : (if t157 = 0 then (if t161 = t157 then (if t159.toList = ([] : List UInt8) then (if t160 = 0 then (if t168 = t157 then (if t172 = t157 then (if t170.toList = ([97] : List UInt8) then (if t171 = 1 then (if t179 = t157 then (if t188 = t157 then (if t187 = true then (some false) else (if t196 = t157 then (if t200 = t157 then (if t198.toList = ([98] : List UInt8) then (some (t199 == 2)) else (some false)) else (some false)) else (some false))) else (some false)) else (some false)) else (some false)) else (some false)) else (some false)) else (some false)) else (some false)) else (some false)) else (some false)) else (some false)) = some r := H
  have A8 := Aside0.mk A80
  clear A80
  by_cases c9 : t157 = 0
  · rw [if_pos c9] at H
    have c9b0 : (t157 == 0) = true := beq_iff_eq.mpr c9
    have c9b1 : (t157 != 0) = false := bne_eq_false_iff_eq.mpr c9
    clear c9
    by_cases c10 : t161 = t157
    · rw [if_pos c10] at H
      have c10b0 : (t161 == t157) = true := beq_iff_eq.mpr c10
      have c10b1 : (t161 != t157) = false := bne_eq_false_iff_eq.mpr c10
      clear c10
      by_cases c11 : t159.toList = ([] : List UInt8)
      · rw [if_pos c11] at H
        have c11b0 : (t159.toList == ([] : List UInt8)) = true := beq_iff_eq.mpr c11
        have c11b1 : (t159.toList != ([] : List UInt8)) = false := bne_eq_false_iff_eq.mpr c11
        clear c11
        by_cases c12 : t160 = 0
        · rw [if_pos c12] at H
          have c12b0 : (t160 == 0) = true := beq_iff_eq.mpr c12
          have c12b1 : (t160 != 0) = false := bne_eq_false_iff_eq.mpr c12
          clear c12
          by_cases c13 : t168 = t157
          · rw [if_pos c13] at H
            have c13b0 : (t168 == t157) = true := beq_iff_eq.mpr c13
            have c13b1 : (t168 != t157) = false := bne_eq_false_iff_eq.mpr c13
            clear c13
            by_cases c14 : t172 = t157
            · rw [if_pos c14] at H
              have c14b0 : (t172 == t157) = true := beq_iff_eq.mpr c14
              have c14b1 : (t172 != t157) = false := bne_eq_false_iff_eq.mpr c14
              clear c14
              by_cases c15 : t170.toList = ([97] : List UInt8)
              · rw [if_pos c15] at H
                have c15b0 : (t170.toList == ([97] : List UInt8)) = true := beq_iff_eq.mpr c15
                have c15b1 : (t170.toList != ([97] : List UInt8)) = false := bne_eq_false_iff_eq.mpr c15
                clear c15
                by_cases c16 : t171 = 1
                · rw [if_pos c16] at H
                  have c16b0 : (t171 == 1) = true := beq_iff_eq.mpr c16
                  have c16b1 : (t171 != 1) = false := bne_eq_false_iff_eq.mpr c16
                  clear c16
                  by_cases c17 : t179 = t157
                  · rw [if_pos c17] at H
                    have c17b0 : (t179 == t157) = true := beq_iff_eq.mpr c17
                    have c17b1 : (t179 != t157) = false := bne_eq_false_iff_eq.mpr c17
                    clear c17
                    by_cases c18 : t188 = t157
                    · rw [if_pos c18] at H
                      have c18b0 : (t188 == t157) = true := beq_iff_eq.mpr c18
                      have c18b1 : (t188 != t157) = false := bne_eq_false_iff_eq.mpr c18
                      clear c18
                      by_cases c19 : t187 = true
                      · subst c19
                        have H1 : (some false) = some r := by rw [if_pos rfl] at H; exact H
                        exact absurd (H1.trans (congrArg some HRT.out)) (by decide)
                      · replace c19 := Bool.eq_false_iff.mpr c19
                        subst c19
                        have H1 : (if t196 = t157 then (if t200 = t157 then (if t198.toList = ([98] : List UInt8) then (some (t199 == 2)) else (some false)) else (some false)) else (some false)) = some r := by rw [if_neg (show ¬ (false = true) by decide)] at H; exact H
                        clear H
                        have H := H1
                        clear H1
                        by_cases c60 : t196 = t157
                        · rw [if_pos c60] at H
                          have c60b0 : (t196 == t157) = true := beq_iff_eq.mpr c60
                          have c60b1 : (t196 != t157) = false := bne_eq_false_iff_eq.mpr c60
                          clear c60
                          by_cases c61 : t200 = t157
                          · rw [if_pos c61] at H
                            have c61b0 : (t200 == t157) = true := beq_iff_eq.mpr c61
                            have c61b1 : (t200 != t157) = false := bne_eq_false_iff_eq.mpr c61
                            clear c61
                            by_cases c62 : t198.toList = ([98] : List UInt8)
                            · rw [if_pos c62] at H
                              have c62b0 : (t198.toList == ([98] : List UInt8)) = true := beq_iff_eq.mpr c62
                              have c62b1 : (t198.toList != ([98] : List UInt8)) = false := bne_eq_false_iff_eq.mpr c62
                              clear c62
                              obtain rfl := Option.some.inj H
                              go_enter Try.func14, Try.ntmps14
                              go_wp2_with (first | ((with_reducible refine gate_callee (f := 17) rfl ?_); refine goesL_ (some 22) rfl rfl Try.func17 (by kernel_rfl) rfl #[.int .i64 2] rfl (by (try simp only [List.map_toArray, List.map_cons, List.map_nil]); first | done | rfl | (simp only [List.length_drop, List.length_take]; rfl)) ?_; (with_reducible refine (disk_New.calls 2 t151 t154 t157 _ A1.out).mono ?_); rintro e w63 ⟨v152, v155, rfl, ho0, ho1, hb⟩; refine ⟨_, rfl, ?_⟩; have n0_ := Aside0.mk (Kd.R_lower ho0 (below_size (by repeat (first | (with_reducible first | exact HB.out | apply below_alloc | apply pw_below_drewN | apply below_drew1) | exact HB.out)))); have n1_ := Aside0.mk (Kd.R_lower ho1 (below_size (by repeat (first | (with_reducible first | exact HB.out | apply below_alloc | apply pw_below_drewN | apply below_drew1) | exact HB.out)))); have n2_ := Aside0.mk (below_step (by repeat (first | (with_reducible first | exact HB.out | apply below_alloc | apply pw_below_drewN | apply below_drew1) | exact HB.out)) hb); clear HB; have HO153 := n0_; have HO156 := n1_; have HB := n2_; clear n0_ n1_ n2_; (try clear hb); (try clear hb2); (try clear hk); (try clear hi); (try clear ho0); (try clear ho1); go_wp2_with (first | ((with_reducible refine gate_dst (N := 1) rfl ?_); refine box_event ?hg (N := 1) ?hd (cs := #[.slice none 0 0, .slice none 0 0]) (t := 25) ?hr ?_; (case hd => rfl); (case hg => rfl); (case hr => first | (go_simp; done) | (go_simp; rfl)); intro gb158 hg w64 hbox hb; have n0_ := Aside0.mk (Kd.R_below (by (with_reducible repeat (first | apply Kd.R_alloc | apply Kd.R_drewN | apply Kd.R_drew)); exact HO153.out) hb); have n1_ := Aside0.mk (Kd.R_below (by (with_reducible repeat (first | apply Kd.R_alloc | apply Kd.R_drewN | apply Kd.R_drew)); exact HO156.out) hb); have n2_ := Aside0.mk (below_step (by repeat (first | (with_reducible first | exact HB.out | apply below_alloc | apply pw_below_drewN | apply below_drew1) | exact HB.out)) hb); have n3_ := Aside0.mk (hbox); have n4_ := Aside0.mk ((by rw [hg]; exact (below_size (by repeat (first | (with_reducible first | exact HB.out | apply below_alloc | apply pw_below_drewN | apply below_drew1) | exact HB.out))) : w.heap.size ≤ gb158)); have n5_ := Aside0.mk ((by rw [hg]; exact (below_size (by repeat (first | (with_reducible first | exact HB.out | apply below_alloc | apply pw_below_drewN | apply below_drew1) | exact HB.out))) : w.heap.size ≤ gb158)); clear HO153; clear HO156; clear HB; have HO153 := n0_; have HO156 := n1_; have HB := n2_; have BK158 := n3_; have GW158 := n4_; have GE158 := n5_; clear n0_ n1_ n2_ n3_ n4_ n5_; clear hb hbox hg; obtain ⟨Ao65, co65, eo65⟩ := Kd.R_slice HO153.out; subst eo65; have hcz66_0 : w64.cell? ⟨gb158, 0, none⟩ = some (.slice none 0 0) := (blk_cell BK158.out 0).trans rfl; have hcz66_1 : w64.cell? ⟨gb158, 1, none⟩ = some (.slice none 0 0) := (blk_cell BK158.out 1).trans rfl; have hfz66_0 := blk_frozen BK158.out 0; have hfz66_1 := blk_frozen BK158.out 1; obtain ⟨Ao67, co67, eo67⟩ := Kd.R_slice HO156.out; subst eo67; go_wp2_with (first | ((with_reducible refine gate_callee (f := 12) rfl ?_); refine goesL_ (some 27) rfl rfl Try.func12 (by kernel_rfl) rfl #[.agg #[.slice Ao65 t151.length co65, .slice Ao67 t154.length co67], .int .i64 0] rfl (by (try simp only [List.map_toArray, List.map_cons, List.map_nil]); first | done | rfl | (simp only [List.length_drop, List.length_take]; rfl)) ?_; (with_reducible refine (twin_Get.calls _ _ t151 _ _ t154 0 t159 t160 t161 _ ?side1 ?side2 ?side3 ?side4 A2.out).mono ?_); (case side1 => refine (Kd.R_reads' (e := 9) (base := w.heap.size) (ok := fun k_ => True) (n := t151.length) (c := co65) ?_).2.2; exact (by (with_reducible repeat (first | apply Kd.R_alloc | apply Kd.R_drewN | apply Kd.R_drew)); exact (Kd.R_mono (Kd.R_far (p := ⟨gb158, 1, none⟩) (Kd.R_far (p := ⟨gb158, 0, none⟩) (Kd.R_types HO153.out BK158.out (by decide)) (fun _ hk => hk.2) (.slice Ao65 t151.length co65)) (fun _ hk => hk.2) (.slice Ao67 t154.length co67)) (fun _ h_ => h_.1)))); (case side2 => exact (Kd.R_reads' HO153.out).2.1); (case side3 => refine (Kd.R_reads' (e := 73) (base := w.heap.size) (ok := fun k_ => True) (n := t154.length) (c := co67) ?_).2.2; exact (by (with_reducible repeat (first | apply Kd.R_alloc | apply Kd.R_drewN | apply Kd.R_drew)); exact (Kd.R_mono (Kd.R_far (p := ⟨gb158, 1, none⟩) (Kd.R_far (p := ⟨gb158, 0, none⟩) (Kd.R_types HO156.out BK158.out (by decide)) (fun _ hk => hk.2) (.slice Ao65 t151.length co65)) (fun _ hk => hk.2) (.slice Ao67 t154.length co67)) (fun _ h_ => h_.1)))); (case side4 => exact (Kd.R_reads' HO156.out).2.1); rintro e w68 ⟨rfl, hb⟩; refine ⟨_, rfl, ?_⟩; have n0_ := Aside0.mk (Kd.R_below (by (with_reducible repeat (first | apply Kd.R_alloc | apply Kd.R_drewN | apply Kd.R_drew)); exact (Kd.R_mono (Kd.R_far (p := ⟨gb158, 1, none⟩) (Kd.R_far (p := ⟨gb158, 0, none⟩) (Kd.R_types HO153.out BK158.out (by decide)) (fun _ hk => hk.2) (.slice Ao65 t151.length co65)) (fun _ hk => hk.2) (.slice Ao67 t154.length co67)) (fun _ h_ => h_.1))) hb); have n1_ := Aside0.mk (Kd.R_below (by (with_reducible repeat (first | apply Kd.R_alloc | apply Kd.R_drewN | apply Kd.R_drew)); exact (Kd.R_mono (Kd.R_far (p := ⟨gb158, 1, none⟩) (Kd.R_far (p := ⟨gb158, 0, none⟩) (Kd.R_types HO156.out BK158.out (by decide)) (fun _ hk => hk.2) (.slice Ao65 t151.length co65)) (fun _ hk => hk.2) (.slice Ao67 t154.length co67)) (fun _ h_ => h_.1))) hb); have n2_ := Aside0.mk (blk_below (g := gb158) (o := .cells #[.slice Ao65 t151.length co65, .slice Ao67 t154.length co67] 25 (0, 0)) (by (with_reducible repeat (first | refine blk_drewN ?_ _ | refine blk_drew ?_ | refine blk_alloc ?_ _)); refine blk_put (cs := #[.slice Ao65 t151.length co65, .slice none 0 0]) ?_ 1 _ rfl; (with_reducible repeat (first | refine blk_drewN ?_ _ | refine blk_drew ?_ | refine blk_alloc ?_ _)); refine blk_put (cs := #[.slice none 0 0, .slice none 0 0]) ?_ 0 _ rfl; (with_reducible repeat (first | refine blk_drewN ?_ _ | refine blk_drew ?_ | refine blk_alloc ?_ _)); exact BK158.out) hb); have n3_ := Aside0.mk (below_step (by repeat (first | (with_reducible first | exact HB.out | apply below_alloc | apply pw_below_drewN | apply below_drew1 | refine below_set ?_ GE158.out) | exact HB.out)) hb); clear HO153; clear HO156; clear BK158; clear HB; have HO153 := n0_; have HO156 := n1_; have BK158 := n2_; have HB := n3_; clear n0_ n1_ n2_ n3_; (try clear hb); (try clear hb2); (try clear hk); (try clear hi); have hcz69_0 : w68.cell? ⟨gb158, 0, none⟩ = some (.slice Ao65 t151.length co65) := (blk_cell BK158.out 0).trans rfl; have hcz69_1 : w68.cell? ⟨gb158, 1, none⟩ = some (.slice Ao67 t154.length co67) := (blk_cell BK158.out 1).trans rfl; have hfz69_0 := blk_frozen BK158.out 0; have hfz69_1 := blk_frozen BK158.out 1; go_wp2_with (first | ((with_reducible refine gate_callee (f := 13) rfl ?_); refine goesL_ (some 33) rfl rfl Try.func13 (by kernel_rfl) rfl #[.agg #[.slice Ao65 t151.length co65, .slice Ao67 t154.length co67], .int .i64 0, .string (⟨#[97]⟩ : ByteArray)] rfl (by (try simp only [List.map_toArray, List.map_cons, List.map_nil]); first | done | rfl | (simp only [List.length_drop, List.length_take]; rfl)) ?_; (with_reducible refine (twin_Put.calls _ _ t151 _ _ t154 0 (⟨#[97]⟩ : ByteArray) t162 t165 t168 _ ?side1 ?side2 ?side3 ?side4 A3.out).mono ?_); (case side1 => repeat (first | exact (Kd.R_reads' HO153.out).2.2 | (with_reducible refine Kd.C_alloc ?_ _) | (with_reducible refine Kd.C_drewN ?_ _) | (with_reducible refine Kd.C_drew ?_))); (case side2 => exact (Kd.R_reads' HO153.out).2.1); (case side3 => repeat (first | exact (Kd.R_reads' HO156.out).2.2 | (with_reducible refine Kd.C_alloc ?_ _) | (with_reducible refine Kd.C_drewN ?_ _) | (with_reducible refine Kd.C_drew ?_))); (case side4 => exact (Kd.R_reads' HO156.out).2.1); rintro e w70 ⟨v163, v166, rfl, ho0, ho1, hb⟩; refine ⟨_, rfl, ?_⟩; have n0_ := Aside0.mk (Kd.R_elder' (by (with_reducible repeat (first | apply Kd.R_alloc | apply Kd.R_drewN | apply Kd.R_drew)); exact HO153.out) (Kd.R_base ho0) hb); have n1_ := Aside0.mk (Kd.R_elder' (by (with_reducible repeat (first | apply Kd.R_alloc | apply Kd.R_drewN | apply Kd.R_drew)); exact HO156.out) (Kd.R_base ho1) hb); have n2_ := Aside0.mk (Kd.R_lower (Kd.R_new' ho0 (Kd.R_lt (by (with_reducible repeat (first | apply Kd.R_alloc | apply Kd.R_drewN | apply Kd.R_drew)); exact HO153.out))) (below_size (by repeat (first | (with_reducible first | exact HB.out | apply below_alloc | apply pw_below_drewN | apply below_drew1 | refine below_set ?_ GE158.out) | exact HB.out)))); have n3_ := Aside0.mk (Kd.R_lower (Kd.R_new' ho1 (Kd.R_lt (by (with_reducible repeat (first | apply Kd.R_alloc | apply Kd.R_drewN | apply Kd.R_drew)); exact HO156.out))) (below_size (by repeat (first | (with_reducible first | exact HB.out | apply below_alloc | apply pw_below_drewN | apply below_drew1 | refine below_set ?_ GE158.out) | exact HB.out)))); have n4_ := Aside0.mk (blk_below (g := gb158) (o := .cells #[.slice Ao65 t151.length co65, .slice Ao67 t154.length co67] 25 (0, 0)) (by (with_reducible repeat (first | refine blk_drewN ?_ _ | refine blk_drew ?_ | refine blk_alloc ?_ _)); exact BK158.out) hb); have n5_ := Aside0.mk (below_step (by repeat (first | (with_reducible first | exact HB.out | apply below_alloc | apply pw_below_drewN | apply below_drew1 | refine below_set ?_ GE158.out) | exact HB.out)) hb); clear HO153; clear HO156; clear BK158; clear HB; have HO153 := n0_; have HO156 := n1_; have HO164 := n2_; have HO167 := n3_; have BK158 := n4_; have HB := n5_; clear n0_ n1_ n2_ n3_ n4_ n5_; (try clear hb); (try clear hb2); (try clear hk); (try clear hi); (try clear ho0); (try clear ho1); go_wp2_with (first | ((with_reducible refine gate_dst (N := 6) rfl ?_); refine box_event ?hg (N := 6) ?hd (cs := #[.slice none 0 0, .slice none 0 0]) (t := 25) ?hr ?_; (case hd => rfl); (case hg => rfl); (case hr => first | (go_simp; done) | (go_simp; rfl)); intro gb169 hg w71 hbox hb; have n0_ := Aside0.mk (Kd.R_below (by (with_reducible repeat (first | apply Kd.R_alloc | apply Kd.R_drewN | apply Kd.R_drew)); exact HO153.out) hb); have n1_ := Aside0.mk (Kd.R_below (by (with_reducible repeat (first | apply Kd.R_alloc | apply Kd.R_drewN | apply Kd.R_drew)); exact HO156.out) hb); have n2_ := Aside0.mk (Kd.R_below (by (with_reducible repeat (first | apply Kd.R_alloc | apply Kd.R_drewN | apply Kd.R_drew)); exact HO164.out) hb); have n3_ := Aside0.mk (Kd.R_below (by (with_reducible repeat (first | apply Kd.R_alloc | apply Kd.R_drewN | apply Kd.R_drew)); exact HO167.out) hb); have n4_ := Aside0.mk (blk_below (g := gb158) (o := .cells #[.slice Ao65 t151.length co65, .slice Ao67 t154.length co67] 25 (0, 0)) (by (with_reducible repeat (first | refine blk_drewN ?_ _ | refine blk_drew ?_ | refine blk_alloc ?_ _)); exact BK158.out) hb); have n5_ := Aside0.mk (below_step (by repeat (first | (with_reducible first | exact HB.out | apply below_alloc | apply pw_below_drewN | apply below_drew1 | refine below_set ?_ GE158.out) | exact HB.out)) hb); have n6_ := Aside0.mk (hbox); have n7_ := Aside0.mk ((by rw [hg]; exact (below_size (by repeat (first | (with_reducible first | exact HB.out | apply below_alloc | apply pw_below_drewN | apply below_drew1 | refine below_set ?_ GE158.out) | exact HB.out))) : w.heap.size ≤ gb169)); have n8_ := Aside0.mk ((by rw [hg]; exact (below_size (by repeat (first | (with_reducible first | exact HB.out | apply below_alloc | apply pw_below_drewN | apply below_drew1 | refine below_set ?_ GE158.out) | exact HB.out))) : w.heap.size ≤ gb169)); have n9_ := Aside0.mk ((by rw [hg]; exact Nat.ne_of_lt (blk_lt (g := gb158) (o := .cells #[.slice Ao65 t151.length co65, .slice Ao67 t154.length co67] 25 (0, 0)) (by (with_reducible repeat (first | refine blk_drewN ?_ _ | refine blk_drew ?_ | refine blk_alloc ?_ _)); exact BK158.out)) : gb158 ≠ gb169)); have n10_ := Aside0.mk ((by rw [hg]; exact Nat.ne_of_gt (blk_lt (g := gb158) (o := .cells #[.slice Ao65 t151.length co65, .slice Ao67 t154.length co67] 25 (0, 0)) (by (with_reducible repeat (first | refine blk_drewN ?_ _ | refine blk_drew ?_ | refine blk_alloc ?_ _)); exact BK158.out)) : gb169 ≠ gb158)); clear HO153; clear HO156; clear HO164; clear HO167; clear BK158; clear HB; have HO153 := n0_; have HO156 := n1_; have HO164 := n2_; have HO167 := n3_; have BK158 := n4_; have HB := n5_; have BK169 := n6_; have GW169 := n7_; have GE169 := n8_; have NB158_169 := n9_; have NB169_158 := n10_; clear n0_ n1_ n2_ n3_ n4_ n5_ n6_ n7_ n8_ n9_ n10_; clear hb hbox hg; obtain ⟨Ao72, co72, eo72⟩ := Kd.R_slice HO164.out; subst eo72; have hnb73 := NB169_158.out; have hnc73 := NB158_169.out; have hcz74_0 : w71.cell? ⟨gb169, 0, none⟩ = some (.slice none 0 0) := (blk_cell BK169.out 0).trans rfl; have hcz74_1 : w71.cell? ⟨gb169, 1, none⟩ = some (.slice none 0 0) := (blk_cell BK169.out 1).trans rfl; have hfz74_0 := blk_frozen BK169.out 0; have hfz74_1 := blk_frozen BK169.out 1; obtain ⟨Ao75, co75, eo75⟩ := Kd.R_slice HO167.out; subst eo75; go_wp2_with (first | ((with_reducible refine gate_callee (f := 12) rfl ?_); refine goesL_ (some 38) rfl rfl Try.func12 (by kernel_rfl) rfl #[.agg #[.slice Ao72 t162.length co72, .slice Ao75 t165.length co75], .int .i64 0] rfl (by (try simp only [List.map_toArray, List.map_cons, List.map_nil]); first | done | rfl | (simp only [List.length_drop, List.length_take]; rfl)) ?_; (with_reducible refine (twin_Get.calls _ _ t162 _ _ t165 0 t170 t171 t172 _ ?side1 ?side2 ?side3 ?side4 A4.out).mono ?_); (case side1 => refine (Kd.R_reads' (e := 9) (base := w.heap.size) (ok := fun k_ => (True ∧ some k_ ≠ (.slice Ao65 t151.length co65 : Value).ownBlock)) (n := t162.length) (c := co72) ?_).2.2; exact (by (with_reducible repeat (first | apply Kd.R_alloc | apply Kd.R_drewN | apply Kd.R_drew)); exact (Kd.R_mono (Kd.R_far (p := ⟨gb169, 1, none⟩) (Kd.R_far (p := ⟨gb169, 0, none⟩) (Kd.R_types HO164.out BK169.out (by decide)) (fun _ hk => hk.2) (.slice Ao72 t162.length co72)) (fun _ hk => hk.2) (.slice Ao75 t165.length co75)) (fun _ h_ => h_.1)))); (case side2 => exact (Kd.R_reads' HO164.out).2.1); (case side3 => refine (Kd.R_reads' (e := 73) (base := w.heap.size) (ok := fun k_ => (True ∧ some k_ ≠ (.slice Ao67 t154.length co67 : Value).ownBlock)) (n := t165.length) (c := co75) ?_).2.2; exact (by (with_reducible repeat (first | apply Kd.R_alloc | apply Kd.R_drewN | apply Kd.R_drew)); exact (Kd.R_mono (Kd.R_far (p := ⟨gb169, 1, none⟩) (Kd.R_far (p := ⟨gb169, 0, none⟩) (Kd.R_types HO167.out BK169.out (by decide)) (fun _ hk => hk.2) (.slice Ao72 t162.length co72)) (fun _ hk => hk.2) (.slice Ao75 t165.length co75)) (fun _ h_ => h_.1)))); (case side4 => exact (Kd.R_reads' HO167.out).2.1); rintro e w76 ⟨rfl, hb⟩; refine ⟨_, rfl, ?_⟩; have n0_ := Aside0.mk (Kd.R_below (by (with_reducible repeat (first | apply Kd.R_alloc | apply Kd.R_drewN | apply Kd.R_drew)); exact (Kd.R_mono (Kd.R_far (p := ⟨gb169, 1, none⟩) (Kd.R_far (p := ⟨gb169, 0, none⟩) (Kd.R_types HO153.out BK169.out (by decide)) (fun _ hk => hk.2) (.slice Ao72 t162.length co72)) (fun _ hk => hk.2) (.slice Ao75 t165.length co75)) (fun _ h_ => h_.1))) hb); have n1_ := Aside0.mk (Kd.R_below (by (with_reducible repeat (first | apply Kd.R_alloc | apply Kd.R_drewN | apply Kd.R_drew)); exact (Kd.R_mono (Kd.R_far (p := ⟨gb169, 1, none⟩) (Kd.R_far (p := ⟨gb169, 0, none⟩) (Kd.R_types HO156.out BK169.out (by decide)) (fun _ hk => hk.2) (.slice Ao72 t162.length co72)) (fun _ hk => hk.2) (.slice Ao75 t165.length co75)) (fun _ h_ => h_.1))) hb); have n2_ := Aside0.mk (Kd.R_below (by (with_reducible repeat (first | apply Kd.R_alloc | apply Kd.R_drewN | apply Kd.R_drew)); exact (Kd.R_mono (Kd.R_far (p := ⟨gb169, 1, none⟩) (Kd.R_far (p := ⟨gb169, 0, none⟩) (Kd.R_types HO164.out BK169.out (by decide)) (fun _ hk => hk.2) (.slice Ao72 t162.length co72)) (fun _ hk => hk.2) (.slice Ao75 t165.length co75)) (fun _ h_ => h_.1))) hb); have n3_ := Aside0.mk (Kd.R_below (by (with_reducible repeat (first | apply Kd.R_alloc | apply Kd.R_drewN | apply Kd.R_drew)); exact (Kd.R_mono (Kd.R_far (p := ⟨gb169, 1, none⟩) (Kd.R_far (p := ⟨gb169, 0, none⟩) (Kd.R_types HO167.out BK169.out (by decide)) (fun _ hk => hk.2) (.slice Ao72 t162.length co72)) (fun _ hk => hk.2) (.slice Ao75 t165.length co75)) (fun _ h_ => h_.1))) hb); have n4_ := Aside0.mk (blk_below (g := gb158) (o := .cells #[.slice Ao65 t151.length co65, .slice Ao67 t154.length co67] 25 (0, 0)) (by (with_reducible repeat (first | refine blk_drewN ?_ _ | refine blk_drew ?_ | refine blk_alloc ?_ _)); refine blk_far ?_ NB158_169.out _; (with_reducible repeat (first | refine blk_drewN ?_ _ | refine blk_drew ?_ | refine blk_alloc ?_ _)); refine blk_far ?_ NB158_169.out _; (with_reducible repeat (first | refine blk_drewN ?_ _ | refine blk_drew ?_ | refine blk_alloc ?_ _)); exact BK158.out) hb); have n5_ := Aside0.mk (blk_below (g := gb169) (o := .cells #[.slice Ao72 t162.length co72, .slice Ao75 t165.length co75] 25 (0, 0)) (by (with_reducible repeat (first | refine blk_drewN ?_ _ | refine blk_drew ?_ | refine blk_alloc ?_ _)); refine blk_put (cs := #[.slice Ao72 t162.length co72, .slice none 0 0]) ?_ 1 _ rfl; (with_reducible repeat (first | refine blk_drewN ?_ _ | refine blk_drew ?_ | refine blk_alloc ?_ _)); refine blk_put (cs := #[.slice none 0 0, .slice none 0 0]) ?_ 0 _ rfl; (with_reducible repeat (first | refine blk_drewN ?_ _ | refine blk_drew ?_ | refine blk_alloc ?_ _)); exact BK169.out) hb); have n6_ := Aside0.mk (below_step (by repeat (first | (with_reducible first | exact HB.out | apply below_alloc | apply pw_below_drewN | apply below_drew1 | refine below_set ?_ GE158.out | refine below_set ?_ GE169.out) | exact HB.out)) hb); clear HO153; clear HO156; clear HO164; clear HO167; clear BK158; clear BK169; clear HB; have HO153 := n0_; have HO156 := n1_; have HO164 := n2_; have HO167 := n3_; have BK158 := n4_; have BK169 := n5_; have HB := n6_; clear n0_ n1_ n2_ n3_ n4_ n5_ n6_; (try clear hb); (try clear hb2); (try clear hk); (try clear hi); have hcz77_0 : w76.cell? ⟨gb169, 0, none⟩ = some (.slice Ao72 t162.length co72) := (blk_cell BK169.out 0).trans rfl; have hcz77_1 : w76.cell? ⟨gb169, 1, none⟩ = some (.slice Ao75 t165.length co75) := (blk_cell BK169.out 1).trans rfl; have hfz77_0 := blk_frozen BK169.out 0; have hfz77_1 := blk_frozen BK169.out 1; go_wp2_with (first | ((with_reducible refine gate_callee (f := 13) rfl ?_); refine goesL_ (some 44) rfl rfl Try.func13 (by kernel_rfl) rfl #[.agg #[.slice Ao72 t162.length co72, .slice Ao75 t165.length co75], .int .i64 0, .string (⟨#[98]⟩ : ByteArray)] rfl (by (try simp only [List.map_toArray, List.map_cons, List.map_nil]); first | done | rfl | (simp only [List.length_drop, List.length_take]; rfl)) ?_; (with_reducible refine (twin_Put.calls _ _ t162 _ _ t165 0 (⟨#[98]⟩ : ByteArray) t173 t176 t179 _ ?side1 ?side2 ?side3 ?side4 A5.out).mono ?_); (case side1 => repeat (first | exact (Kd.R_reads' HO164.out).2.2 | (with_reducible refine Kd.C_alloc ?_ _) | (with_reducible refine Kd.C_drewN ?_ _) | (with_reducible refine Kd.C_drew ?_))); (case side2 => exact (Kd.R_reads' HO164.out).2.1); (case side3 => repeat (first | exact (Kd.R_reads' HO167.out).2.2 | (with_reducible refine Kd.C_alloc ?_ _) | (with_reducible refine Kd.C_drewN ?_ _) | (with_reducible refine Kd.C_drew ?_))); (case side4 => exact (Kd.R_reads' HO167.out).2.1); rintro e w78 ⟨v174, v177, rfl, ho0, ho1, hb⟩; refine ⟨_, rfl, ?_⟩; have n0_ := Aside0.mk (Kd.R_elder' (by (with_reducible repeat (first | apply Kd.R_alloc | apply Kd.R_drewN | apply Kd.R_drew)); exact HO153.out) (Kd.R_base ho0) hb); have n1_ := Aside0.mk (Kd.R_elder' (by (with_reducible repeat (first | apply Kd.R_alloc | apply Kd.R_drewN | apply Kd.R_drew)); exact HO156.out) (Kd.R_base ho1) hb); have n2_ := Aside0.mk (Kd.R_elder' (by (with_reducible repeat (first | apply Kd.R_alloc | apply Kd.R_drewN | apply Kd.R_drew)); exact HO164.out) (Kd.R_base ho0) hb); have n3_ := Aside0.mk (Kd.R_elder' (by (with_reducible repeat (first | apply Kd.R_alloc | apply Kd.R_drewN | apply Kd.R_drew)); exact HO167.out) (Kd.R_base ho1) hb); have n4_ := Aside0.mk (Kd.R_lower (Kd.R_new' (Kd.R_new' ho0 (Kd.R_lt (by (with_reducible repeat (first | apply Kd.R_alloc | apply Kd.R_drewN | apply Kd.R_drew)); exact HO153.out))) (Kd.R_lt (by (with_reducible repeat (first | apply Kd.R_alloc | apply Kd.R_drewN | apply Kd.R_drew)); exact HO164.out))) (below_size (by repeat (first | (with_reducible first | exact HB.out | apply below_alloc | apply pw_below_drewN | apply below_drew1 | refine below_set ?_ GE158.out | refine below_set ?_ GE169.out) | exact HB.out)))); have n5_ := Aside0.mk (Kd.R_lower (Kd.R_new' (Kd.R_new' ho1 (Kd.R_lt (by (with_reducible repeat (first | apply Kd.R_alloc | apply Kd.R_drewN | apply Kd.R_drew)); exact HO156.out))) (Kd.R_lt (by (with_reducible repeat (first | apply Kd.R_alloc | apply Kd.R_drewN | apply Kd.R_drew)); exact HO167.out))) (below_size (by repeat (first | (with_reducible first | exact HB.out | apply below_alloc | apply pw_below_drewN | apply below_drew1 | refine below_set ?_ GE158.out | refine below_set ?_ GE169.out) | exact HB.out)))); have n6_ := Aside0.mk (blk_below (g := gb158) (o := .cells #[.slice Ao65 t151.length co65, .slice Ao67 t154.length co67] 25 (0, 0)) (by (with_reducible repeat (first | refine blk_drewN ?_ _ | refine blk_drew ?_ | refine blk_alloc ?_ _)); exact BK158.out) hb); have n7_ := Aside0.mk (blk_below (g := gb169) (o := .cells #[.slice Ao72 t162.length co72, .slice Ao75 t165.length co75] 25 (0, 0)) (by (with_reducible repeat (first | refine blk_drewN ?_ _ | refine blk_drew ?_ | refine blk_alloc ?_ _)); exact BK169.out) hb); have n8_ := Aside0.mk (below_step (by repeat (first | (with_reducible first | exact HB.out | apply below_alloc | apply pw_below_drewN | apply below_drew1 | refine below_set ?_ GE158.out | refine below_set ?_ GE169.out) | exact HB.out)) hb); clear HO153; clear HO156; clear HO164; clear HO167; clear BK158; clear BK169; clear HB; have HO153 := n0_; have HO156 := n1_; have HO164 := n2_; have HO167 := n3_; have HO175 := n4_; have HO178 := n5_; have BK158 := n6_; have BK169 := n7_; have HB := n8_; clear n0_ n1_ n2_ n3_ n4_ n5_ n6_ n7_ n8_; (try clear hb); (try clear hb2); (try clear hk); (try clear hi); (try clear ho0); (try clear ho1); go_wp2_with (first | ((with_reducible refine gate_dst (N := 11) rfl ?_); refine box_event ?hg (N := 11) ?hd (cs := #[.slice none 0 0, .slice none 0 0]) (t := 25) ?hr ?_; (case hd => rfl); (case hg => rfl); (case hr => first | (go_simp; done) | (go_simp; rfl)); intro gb180 hg w79 hbox hb; have n0_ := Aside0.mk (Kd.R_below (by (with_reducible repeat (first | apply Kd.R_alloc | apply Kd.R_drewN | apply Kd.R_drew)); exact HO153.out) hb); have n1_ := Aside0.mk (Kd.R_below (by (with_reducible repeat (first | apply Kd.R_alloc | apply Kd.R_drewN | apply Kd.R_drew)); exact HO156.out) hb); have n2_ := Aside0.mk (Kd.R_below (by (with_reducible repeat (first | apply Kd.R_alloc | apply Kd.R_drewN | apply Kd.R_drew)); exact HO164.out) hb); have n3_ := Aside0.mk (Kd.R_below (by (with_reducible repeat (first | apply Kd.R_alloc | apply Kd.R_drewN | apply Kd.R_drew)); exact HO167.out) hb); have n4_ := Aside0.mk (Kd.R_below (by (with_reducible repeat (first | apply Kd.R_alloc | apply Kd.R_drewN | apply Kd.R_drew)); exact HO175.out) hb); have n5_ := Aside0.mk (Kd.R_below (by (with_reducible repeat (first | apply Kd.R_alloc | apply Kd.R_drewN | apply Kd.R_drew)); exact HO178.out) hb); have n6_ := Aside0.mk (blk_below (g := gb158) (o := .cells #[.slice Ao65 t151.length co65, .slice Ao67 t154.length co67] 25 (0, 0)) (by (with_reducible repeat (first | refine blk_drewN ?_ _ | refine blk_drew ?_ | refine blk_alloc ?_ _)); exact BK158.out) hb); have n7_ := Aside0.mk (blk_below (g := gb169) (o := .cells #[.slice Ao72 t162.length co72, .slice Ao75 t165.length co75] 25 (0, 0)) (by (with_reducible repeat (first | refine blk_drewN ?_ _ | refine blk_drew ?_ | refine blk_alloc ?_ _)); exact BK169.out) hb); have n8_ := Aside0.mk (below_step (by repeat (first | (with_reducible first | exact HB.out | apply below_alloc | apply pw_below_drewN | apply below_drew1 | refine below_set ?_ GE158.out | refine below_set ?_ GE169.out) | exact HB.out)) hb); have n9_ := Aside0.mk (hbox); have n10_ := Aside0.mk ((by rw [hg]; exact (below_size (by repeat (first | (with_reducible first | exact HB.out | apply below_alloc | apply pw_below_drewN | apply below_drew1 | refine below_set ?_ GE158.out | refine below_set ?_ GE169.out) | exact HB.out))) : w.heap.size ≤ gb180)); have n11_ := Aside0.mk ((by rw [hg]; exact (below_size (by repeat (first | (with_reducible first | exact HB.out | apply below_alloc | apply pw_below_drewN | apply below_drew1 | refine below_set ?_ GE158.out | refine below_set ?_ GE169.out) | exact HB.out))) : w.heap.size ≤ gb180)); have n12_ := Aside0.mk ((by rw [hg]; exact Nat.ne_of_lt (blk_lt (g := gb158) (o := .cells #[.slice Ao65 t151.length co65, .slice Ao67 t154.length co67] 25 (0, 0)) (by (with_reducible repeat (first | refine blk_drewN ?_ _ | refine blk_drew ?_ | refine blk_alloc ?_ _)); exact BK158.out)) : gb158 ≠ gb180)); have n13_ := Aside0.mk ((by rw [hg]; exact Nat.ne_of_gt (blk_lt (g := gb158) (o := .cells #[.slice Ao65 t151.length co65, .slice Ao67 t154.length co67] 25 (0, 0)) (by (with_reducible repeat (first | refine blk_drewN ?_ _ | refine blk_drew ?_ | refine blk_alloc ?_ _)); exact BK158.out)) : gb180 ≠ gb158)); have n14_ := Aside0.mk ((by rw [hg]; exact Nat.ne_of_lt (blk_lt (g := gb169) (o := .cells #[.slice Ao72 t162.length co72, .slice Ao75 t165.length co75] 25 (0, 0)) (by (with_reducible repeat (first | refine blk_drewN ?_ _ | refine blk_drew ?_ | refine blk_alloc ?_ _)); exact BK169.out)) : gb169 ≠ gb180)); have n15_ := Aside0.mk ((by rw [hg]; exact Nat.ne_of_gt (blk_lt (g := gb169) (o := .cells #[.slice Ao72 t162.length co72, .slice Ao75 t165.length co75] 25 (0, 0)) (by (with_reducible repeat (first | refine blk_drewN ?_ _ | refine blk_drew ?_ | refine blk_alloc ?_ _)); exact BK169.out)) : gb180 ≠ gb169)); clear HO153; clear HO156; clear HO164; clear HO167; clear HO175; clear HO178; clear BK158; clear BK169; clear HB; have HO153 := n0_; have HO156 := n1_; have HO164 := n2_; have HO167 := n3_; have HO175 := n4_; have HO178 := n5_; have BK158 := n6_; have BK169 := n7_; have HB := n8_; have BK180 := n9_; have GW180 := n10_; have GE180 := n11_; have NB158_180 := n12_; have NB180_158 := n13_; have NB169_180 := n14_; have NB180_169 := n15_; clear n0_ n1_ n2_ n3_ n4_ n5_ n6_ n7_ n8_ n9_ n10_ n11_ n12_ n13_ n14_ n15_; clear hb hbox hg; obtain ⟨Ao80, co80, eo80⟩ := Kd.R_slice HO175.out; subst eo80; have hnb81 := NB180_158.out; have hnc81 := NB158_180.out; have hnb82 := NB180_169.out; have hnc82 := NB169_180.out; have hcz83_0 : w79.cell? ⟨gb180, 0, none⟩ = some (.slice none 0 0) := (blk_cell BK180.out 0).trans rfl; have hcz83_1 : w79.cell? ⟨gb180, 1, none⟩ = some (.slice none 0 0) := (blk_cell BK180.out 1).trans rfl; have hfz83_0 := blk_frozen BK180.out 0; have hfz83_1 := blk_frozen BK180.out 1; obtain ⟨Ao84, co84, eo84⟩ := Kd.R_slice HO178.out; subst eo84; go_wp2_with (first | ((with_reducible refine gate_callee (f := 15) rfl ?_); refine goesL_ (some 49) rfl rfl Try.func15 (by kernel_rfl) rfl #[.agg #[.slice Ao80 t173.length co80, .slice Ao84 t176.length co84], .int .i64 0, .string (⟨#[99]⟩ : ByteArray), .int .i64 1] rfl (by (try simp only [List.map_toArray, List.map_cons, List.map_nil]); first | done | rfl | (simp only [List.length_drop, List.length_take]; rfl)) ?_; (with_reducible refine (twin_Stop.calls _ _ t173 _ _ t176 0 (⟨#[99]⟩ : ByteArray) 1 t181 t184 false t188 _ ?side1 ?side2 ?side3 ?side4 A6.out).mono ?_); (case side1 => refine (Kd.R_reads' (e := 9) (base := w.heap.size) (ok := fun k_ => ((True ∧ some k_ ≠ (.slice Ao65 t151.length co65 : Value).ownBlock) ∧ some k_ ≠ (.slice Ao72 t162.length co72 : Value).ownBlock)) (n := t173.length) (c := co80) ?_).2.2; exact (by (with_reducible repeat (first | apply Kd.R_alloc | apply Kd.R_drewN | apply Kd.R_drew)); exact (Kd.R_mono (Kd.R_far (p := ⟨gb180, 1, none⟩) (Kd.R_far (p := ⟨gb180, 0, none⟩) (Kd.R_types HO175.out BK180.out (by decide)) (fun _ hk => hk.2) (.slice Ao80 t173.length co80)) (fun _ hk => hk.2) (.slice Ao84 t176.length co84)) (fun _ h_ => h_.1)))); (case side2 => exact (Kd.R_reads' HO175.out).2.1); (case side3 => refine (Kd.R_reads' (e := 73) (base := w.heap.size) (ok := fun k_ => ((True ∧ some k_ ≠ (.slice Ao67 t154.length co67 : Value).ownBlock) ∧ some k_ ≠ (.slice Ao75 t165.length co75 : Value).ownBlock)) (n := t176.length) (c := co84) ?_).2.2; exact (by (with_reducible repeat (first | apply Kd.R_alloc | apply Kd.R_drewN | apply Kd.R_drew)); exact (Kd.R_mono (Kd.R_far (p := ⟨gb180, 1, none⟩) (Kd.R_far (p := ⟨gb180, 0, none⟩) (Kd.R_types HO178.out BK180.out (by decide)) (fun _ hk => hk.2) (.slice Ao80 t173.length co80)) (fun _ hk => hk.2) (.slice Ao84 t176.length co84)) (fun _ h_ => h_.1)))); (case side4 => exact (Kd.R_reads' HO178.out).2.1); rintro e w85 ⟨v182, v185, rfl, ho0, ho1, hb⟩; refine ⟨_, rfl, ?_⟩; have n0_ := Aside0.mk (Kd.R_elder' (by (with_reducible repeat (first | apply Kd.R_alloc | apply Kd.R_drewN | apply Kd.R_drew)); exact (Kd.R_mono (Kd.R_far (p := ⟨gb180, 1, none⟩) (Kd.R_far (p := ⟨gb180, 0, none⟩) (Kd.R_types HO153.out BK180.out (by decide)) (fun _ hk => hk.2) (.slice Ao80 t173.length co80)) (fun _ hk => hk.2) (.slice Ao84 t176.length co84)) (fun _ h_ => h_.1))) (Kd.R_base ho0) hb); have n1_ := Aside0.mk (Kd.R_elder' (by (with_reducible repeat (first | apply Kd.R_alloc | apply Kd.R_drewN | apply Kd.R_drew)); exact (Kd.R_mono (Kd.R_far (p := ⟨gb180, 1, none⟩) (Kd.R_far (p := ⟨gb180, 0, none⟩) (Kd.R_types HO156.out BK180.out (by decide)) (fun _ hk => hk.2) (.slice Ao80 t173.length co80)) (fun _ hk => hk.2) (.slice Ao84 t176.length co84)) (fun _ h_ => h_.1))) (Kd.R_base ho1) hb); have n2_ := Aside0.mk (Kd.R_elder' (by (with_reducible repeat (first | apply Kd.R_alloc | apply Kd.R_drewN | apply Kd.R_drew)); exact (Kd.R_mono (Kd.R_far (p := ⟨gb180, 1, none⟩) (Kd.R_far (p := ⟨gb180, 0, none⟩) (Kd.R_types HO164.out BK180.out (by decide)) (fun _ hk => hk.2) (.slice Ao80 t173.length co80)) (fun _ hk => hk.2) (.slice Ao84 t176.length co84)) (fun _ h_ => h_.1))) (Kd.R_base ho0) hb); have n3_ := Aside0.mk (Kd.R_elder' (by (with_reducible repeat (first | apply Kd.R_alloc | apply Kd.R_drewN | apply Kd.R_drew)); exact (Kd.R_mono (Kd.R_far (p := ⟨gb180, 1, none⟩) (Kd.R_far (p := ⟨gb180, 0, none⟩) (Kd.R_types HO167.out BK180.out (by decide)) (fun _ hk => hk.2) (.slice Ao80 t173.length co80)) (fun _ hk => hk.2) (.slice Ao84 t176.length co84)) (fun _ h_ => h_.1))) (Kd.R_base ho1) hb); have n4_ := Aside0.mk (Kd.R_elder' (by (with_reducible repeat (first | apply Kd.R_alloc | apply Kd.R_drewN | apply Kd.R_drew)); exact (Kd.R_mono (Kd.R_far (p := ⟨gb180, 1, none⟩) (Kd.R_far (p := ⟨gb180, 0, none⟩) (Kd.R_types HO175.out BK180.out (by decide)) (fun _ hk => hk.2) (.slice Ao80 t173.length co80)) (fun _ hk => hk.2) (.slice Ao84 t176.length co84)) (fun _ h_ => h_.1))) (Kd.R_base ho0) hb); have n5_ := Aside0.mk (Kd.R_elder' (by (with_reducible repeat (first | apply Kd.R_alloc | apply Kd.R_drewN | apply Kd.R_drew)); exact (Kd.R_mono (Kd.R_far (p := ⟨gb180, 1, none⟩) (Kd.R_far (p := ⟨gb180, 0, none⟩) (Kd.R_types HO178.out BK180.out (by decide)) (fun _ hk => hk.2) (.slice Ao80 t173.length co80)) (fun _ hk => hk.2) (.slice Ao84 t176.length co84)) (fun _ h_ => h_.1))) (Kd.R_base ho1) hb); have n6_ := Aside0.mk (Kd.R_lower (Kd.R_new' (Kd.R_new' (Kd.R_new' ho0 (Kd.R_lt (by (with_reducible repeat (first | apply Kd.R_alloc | apply Kd.R_drewN | apply Kd.R_drew)); exact (Kd.R_mono (Kd.R_far (p := ⟨gb180, 1, none⟩) (Kd.R_far (p := ⟨gb180, 0, none⟩) (Kd.R_types HO153.out BK180.out (by decide)) (fun _ hk => hk.2) (.slice Ao80 t173.length co80)) (fun _ hk => hk.2) (.slice Ao84 t176.length co84)) (fun _ h_ => h_.1))))) (Kd.R_lt (by (with_reducible repeat (first | apply Kd.R_alloc | apply Kd.R_drewN | apply Kd.R_drew)); exact (Kd.R_mono (Kd.R_far (p := ⟨gb180, 1, none⟩) (Kd.R_far (p := ⟨gb180, 0, none⟩) (Kd.R_types HO164.out BK180.out (by decide)) (fun _ hk => hk.2) (.slice Ao80 t173.length co80)) (fun _ hk => hk.2) (.slice Ao84 t176.length co84)) (fun _ h_ => h_.1))))) (Kd.R_lt (by (with_reducible repeat (first | apply Kd.R_alloc | apply Kd.R_drewN | apply Kd.R_drew)); exact (Kd.R_mono (Kd.R_far (p := ⟨gb180, 1, none⟩) (Kd.R_far (p := ⟨gb180, 0, none⟩) (Kd.R_types HO175.out BK180.out (by decide)) (fun _ hk => hk.2) (.slice Ao80 t173.length co80)) (fun _ hk => hk.2) (.slice Ao84 t176.length co84)) (fun _ h_ => h_.1))))) (below_size (by repeat (first | (with_reducible first | exact HB.out | apply below_alloc | apply pw_below_drewN | apply below_drew1 | refine below_set ?_ GE158.out | refine below_set ?_ GE169.out | refine below_set ?_ GE180.out) | exact HB.out)))); have n7_ := Aside0.mk (Kd.R_lower (Kd.R_new' (Kd.R_new' (Kd.R_new' ho1 (Kd.R_lt (by (with_reducible repeat (first | apply Kd.R_alloc | apply Kd.R_drewN | apply Kd.R_drew)); exact (Kd.R_mono (Kd.R_far (p := ⟨gb180, 1, none⟩) (Kd.R_far (p := ⟨gb180, 0, none⟩) (Kd.R_types HO156.out BK180.out (by decide)) (fun _ hk => hk.2) (.slice Ao80 t173.length co80)) (fun _ hk => hk.2) (.slice Ao84 t176.length co84)) (fun _ h_ => h_.1))))) (Kd.R_lt (by (with_reducible repeat (first | apply Kd.R_alloc | apply Kd.R_drewN | apply Kd.R_drew)); exact (Kd.R_mono (Kd.R_far (p := ⟨gb180, 1, none⟩) (Kd.R_far (p := ⟨gb180, 0, none⟩) (Kd.R_types HO167.out BK180.out (by decide)) (fun _ hk => hk.2) (.slice Ao80 t173.length co80)) (fun _ hk => hk.2) (.slice Ao84 t176.length co84)) (fun _ h_ => h_.1))))) (Kd.R_lt (by (with_reducible repeat (first | apply Kd.R_alloc | apply Kd.R_drewN | apply Kd.R_drew)); exact (Kd.R_mono (Kd.R_far (p := ⟨gb180, 1, none⟩) (Kd.R_far (p := ⟨gb180, 0, none⟩) (Kd.R_types HO178.out BK180.out (by decide)) (fun _ hk => hk.2) (.slice Ao80 t173.length co80)) (fun _ hk => hk.2) (.slice Ao84 t176.length co84)) (fun _ h_ => h_.1))))) (below_size (by repeat (first | (with_reducible first | exact HB.out | apply below_alloc | apply pw_below_drewN | apply below_drew1 | refine below_set ?_ GE158.out | refine below_set ?_ GE169.out | refine below_set ?_ GE180.out) | exact HB.out)))); have n8_ := Aside0.mk (blk_below (g := gb158) (o := .cells #[.slice Ao65 t151.length co65, .slice Ao67 t154.length co67] 25 (0, 0)) (by (with_reducible repeat (first | refine blk_drewN ?_ _ | refine blk_drew ?_ | refine blk_alloc ?_ _)); refine blk_far ?_ NB158_180.out _; (with_reducible repeat (first | refine blk_drewN ?_ _ | refine blk_drew ?_ | refine blk_alloc ?_ _)); refine blk_far ?_ NB158_180.out _; (with_reducible repeat (first | refine blk_drewN ?_ _ | refine blk_drew ?_ | refine blk_alloc ?_ _)); exact BK158.out) hb); have n9_ := Aside0.mk (blk_below (g := gb169) (o := .cells #[.slice Ao72 t162.length co72, .slice Ao75 t165.length co75] 25 (0, 0)) (by (with_reducible repeat (first | refine blk_drewN ?_ _ | refine blk_drew ?_ | refine blk_alloc ?_ _)); refine blk_far ?_ NB169_180.out _; (with_reducible repeat (first | refine blk_drewN ?_ _ | refine blk_drew ?_ | refine blk_alloc ?_ _)); refine blk_far ?_ NB169_180.out _; (with_reducible repeat (first | refine blk_drewN ?_ _ | refine blk_drew ?_ | refine blk_alloc ?_ _)); exact BK169.out) hb); have n10_ := Aside0.mk (blk_below (g := gb180) (o := .cells #[.slice Ao80 t173.length co80, .slice Ao84 t176.length co84] 25 (0, 0)) (by (with_reducible repeat (first | refine blk_drewN ?_ _ | refine blk_drew ?_ | refine blk_alloc ?_ _)); refine blk_put (cs := #[.slice Ao80 t173.length co80, .slice none 0 0]) ?_ 1 _ rfl; (with_reducible repeat (first | refine blk_drewN ?_ _ | refine blk_drew ?_ | refine blk_alloc ?_ _)); refine blk_put (cs := #[.slice none 0 0, .slice none 0 0]) ?_ 0 _ rfl; (with_reducible repeat (first | refine blk_drewN ?_ _ | refine blk_drew ?_ | refine blk_alloc ?_ _)); exact BK180.out) hb); have n11_ := Aside0.mk (below_step (by repeat (first | (with_reducible first | exact HB.out | apply below_alloc | apply pw_below_drewN | apply below_drew1 | refine below_set ?_ GE158.out | refine below_set ?_ GE169.out | refine below_set ?_ GE180.out) | exact HB.out)) hb); clear HO153; clear HO156; clear HO164; clear HO167; clear HO175; clear HO178; clear BK158; clear BK169; clear BK180; clear HB; have HO153 := n0_; have HO156 := n1_; have HO164 := n2_; have HO167 := n3_; have HO175 := n4_; have HO178 := n5_; have HO183 := n6_; have HO186 := n7_; have BK158 := n8_; have BK169 := n9_; have BK180 := n10_; have HB := n11_; clear n0_ n1_ n2_ n3_ n4_ n5_ n6_ n7_ n8_ n9_ n10_ n11_; (try clear hb); (try clear hb2); (try clear hk); (try clear hi); (try clear ho0); (try clear ho1); go_wp2_with (first | ((with_reducible refine gate_dst (N := 13) rfl ?_); refine box_event ?hg (N := 13) ?hd (cs := #[.slice none 0 0, .slice none 0 0]) (t := 25) ?hr ?_; (case hd => rfl); (case hg => rfl); (case hr => first | (go_simp; done) | (go_simp; rfl)); intro gb189 hg w86 hbox hb; have n0_ := Aside0.mk (Kd.R_below (by (with_reducible repeat (first | apply Kd.R_alloc | apply Kd.R_drewN | apply Kd.R_drew)); exact HO153.out) hb); have n1_ := Aside0.mk (Kd.R_below (by (with_reducible repeat (first | apply Kd.R_alloc | apply Kd.R_drewN | apply Kd.R_drew)); exact HO156.out) hb); have n2_ := Aside0.mk (Kd.R_below (by (with_reducible repeat (first | apply Kd.R_alloc | apply Kd.R_drewN | apply Kd.R_drew)); exact HO164.out) hb); have n3_ := Aside0.mk (Kd.R_below (by (with_reducible repeat (first | apply Kd.R_alloc | apply Kd.R_drewN | apply Kd.R_drew)); exact HO167.out) hb); have n4_ := Aside0.mk (Kd.R_below (by (with_reducible repeat (first | apply Kd.R_alloc | apply Kd.R_drewN | apply Kd.R_drew)); exact HO175.out) hb); have n5_ := Aside0.mk (Kd.R_below (by (with_reducible repeat (first | apply Kd.R_alloc | apply Kd.R_drewN | apply Kd.R_drew)); exact HO178.out) hb); have n6_ := Aside0.mk (Kd.R_below (by (with_reducible repeat (first | apply Kd.R_alloc | apply Kd.R_drewN | apply Kd.R_drew)); exact HO183.out) hb); have n7_ := Aside0.mk (Kd.R_below (by (with_reducible repeat (first | apply Kd.R_alloc | apply Kd.R_drewN | apply Kd.R_drew)); exact HO186.out) hb); have n8_ := Aside0.mk (blk_below (g := gb158) (o := .cells #[.slice Ao65 t151.length co65, .slice Ao67 t154.length co67] 25 (0, 0)) (by (with_reducible repeat (first | refine blk_drewN ?_ _ | refine blk_drew ?_ | refine blk_alloc ?_ _)); exact BK158.out) hb); have n9_ := Aside0.mk (blk_below (g := gb169) (o := .cells #[.slice Ao72 t162.length co72, .slice Ao75 t165.length co75] 25 (0, 0)) (by (with_reducible repeat (first | refine blk_drewN ?_ _ | refine blk_drew ?_ | refine blk_alloc ?_ _)); exact BK169.out) hb); have n10_ := Aside0.mk (blk_below (g := gb180) (o := .cells #[.slice Ao80 t173.length co80, .slice Ao84 t176.length co84] 25 (0, 0)) (by (with_reducible repeat (first | refine blk_drewN ?_ _ | refine blk_drew ?_ | refine blk_alloc ?_ _)); exact BK180.out) hb); have n11_ := Aside0.mk (below_step (by repeat (first | (with_reducible first | exact HB.out | apply below_alloc | apply pw_below_drewN | apply below_drew1 | refine below_set ?_ GE158.out | refine below_set ?_ GE169.out | refine below_set ?_ GE180.out) | exact HB.out)) hb); have n12_ := Aside0.mk (hbox); have n13_ := Aside0.mk ((by rw [hg]; exact (below_size (by repeat (first | (with_reducible first | exact HB.out | apply below_alloc | apply pw_below_drewN | apply below_drew1 | refine below_set ?_ GE158.out | refine below_set ?_ GE169.out | refine below_set ?_ GE180.out) | exact HB.out))) : w.heap.size ≤ gb189)); have n14_ := Aside0.mk ((by rw [hg]; exact (below_size (by repeat (first | (with_reducible first | exact HB.out | apply below_alloc | apply pw_below_drewN | apply below_drew1 | refine below_set ?_ GE158.out | refine below_set ?_ GE169.out | refine below_set ?_ GE180.out) | exact HB.out))) : w.heap.size ≤ gb189)); have n15_ := Aside0.mk ((by rw [hg]; exact Nat.ne_of_lt (blk_lt (g := gb158) (o := .cells #[.slice Ao65 t151.length co65, .slice Ao67 t154.length co67] 25 (0, 0)) (by (with_reducible repeat (first | refine blk_drewN ?_ _ | refine blk_drew ?_ | refine blk_alloc ?_ _)); exact BK158.out)) : gb158 ≠ gb189)); have n16_ := Aside0.mk ((by rw [hg]; exact Nat.ne_of_gt (blk_lt (g := gb158) (o := .cells #[.slice Ao65 t151.length co65, .slice Ao67 t154.length co67] 25 (0, 0)) (by (with_reducible repeat (first | refine blk_drewN ?_ _ | refine blk_drew ?_ | refine blk_alloc ?_ _)); exact BK158.out)) : gb189 ≠ gb158)); have n17_ := Aside0.mk ((by rw [hg]; exact Nat.ne_of_lt (blk_lt (g := gb169) (o := .cells #[.slice Ao72 t162.length co72, .slice Ao75 t165.length co75] 25 (0, 0)) (by (with_reducible repeat (first | refine blk_drewN ?_ _ | refine blk_drew ?_ | refine blk_alloc ?_ _)); exact BK169.out)) : gb169 ≠ gb189)); have n18_ := Aside0.mk ((by rw [hg]; exact Nat.ne_of_gt (blk_lt (g := gb169) (o := .cells #[.slice Ao72 t162.length co72, .slice Ao75 t165.length co75] 25 (0, 0)) (by (with_reducible repeat (first | refine blk_drewN ?_ _ | refine blk_drew ?_ | refine blk_alloc ?_ _)); exact BK169.out)) : gb189 ≠ gb169)); have n19_ := Aside0.mk ((by rw [hg]; exact Nat.ne_of_lt (blk_lt (g := gb180) (o := .cells #[.slice Ao80 t173.length co80, .slice Ao84 t176.length co84] 25 (0, 0)) (by (with_reducible repeat (first | refine blk_drewN ?_ _ | refine blk_drew ?_ | refine blk_alloc ?_ _)); exact BK180.out)) : gb180 ≠ gb189)); have n20_ := Aside0.mk ((by rw [hg]; exact Nat.ne_of_gt (blk_lt (g := gb180) (o := .cells #[.slice Ao80 t173.length co80, .slice Ao84 t176.length co84] 25 (0, 0)) (by (with_reducible repeat (first | refine blk_drewN ?_ _ | refine blk_drew ?_ | refine blk_alloc ?_ _)); exact BK180.out)) : gb189 ≠ gb180)); clear HO153; clear HO156; clear HO164; clear HO167; clear HO175; clear HO178; clear HO183; clear HO186; clear BK158; clear BK169; clear BK180; clear HB; have HO153 := n0_; have HO156 := n1_; have HO164 := n2_; have HO167 := n3_; have HO175 := n4_; have HO178 := n5_; have HO183 := n6_; have HO186 := n7_; have BK158 := n8_; have BK169 := n9_; have BK180 := n10_; have HB := n11_; have BK189 := n12_; have GW189 := n13_; have GE189 := n14_; have NB158_189 := n15_; have NB189_158 := n16_; have NB169_189 := n17_; have NB189_169 := n18_; have NB180_189 := n19_; have NB189_180 := n20_; clear n0_ n1_ n2_ n3_ n4_ n5_ n6_ n7_ n8_ n9_ n10_ n11_ n12_ n13_ n14_ n15_ n16_ n17_ n18_ n19_ n20_; clear hb hbox hg; obtain ⟨Ao87, co87, eo87⟩ := Kd.R_slice HO183.out; subst eo87; have hnb88 := NB189_158.out; have hnc88 := NB158_189.out; have hnb89 := NB189_169.out; have hnc89 := NB169_189.out; have hnb90 := NB189_180.out; have hnc90 := NB180_189.out; have hcz91_0 : w86.cell? ⟨gb189, 0, none⟩ = some (.slice none 0 0) := (blk_cell BK189.out 0).trans rfl; have hcz91_1 : w86.cell? ⟨gb189, 1, none⟩ = some (.slice none 0 0) := (blk_cell BK189.out 1).trans rfl; have hfz91_0 := blk_frozen BK189.out 0; have hfz91_1 := blk_frozen BK189.out 1; obtain ⟨Ao92, co92, eo92⟩ := Kd.R_slice HO186.out; subst eo92; go_wp2_with (first | ((with_reducible refine gate_callee (f := 16) rfl ?_); refine goesL_ (some 55) rfl rfl Try.func16 (by kernel_rfl) rfl #[.agg #[.slice Ao87 t181.length co87, .slice Ao92 t184.length co92], .slice none 0 0] rfl (by (try simp only [List.map_toArray, List.map_cons, List.map_nil]); first | done | rfl | (simp only [List.length_drop, List.length_take]; rfl)) ?_; (refine (disk_Crash.calls _ _ t181 _ _ t184 _ _ ([] : List Bool) t190 t193 t196 _ ?side1 ?side2 ?side3 ?side4 ?side5 ?side6 A7.out).mono ?_); (case side1 => refine (Kd.R_reads' (e := 9) (base := w.heap.size) (ok := fun k_ => (((True ∧ some k_ ≠ (.slice Ao65 t151.length co65 : Value).ownBlock) ∧ some k_ ≠ (.slice Ao72 t162.length co72 : Value).ownBlock) ∧ some k_ ≠ (.slice Ao80 t173.length co80 : Value).ownBlock)) (n := t181.length) (c := co87) ?_).2.2; exact (by (with_reducible repeat (first | apply Kd.R_alloc | apply Kd.R_drewN | apply Kd.R_drew)); exact (Kd.R_mono (Kd.R_far (p := ⟨gb189, 1, none⟩) (Kd.R_far (p := ⟨gb189, 0, none⟩) (Kd.R_types HO183.out BK189.out (by decide)) (fun _ hk => hk.2) (.slice Ao87 t181.length co87)) (fun _ hk => hk.2) (.slice Ao92 t184.length co92)) (fun _ h_ => h_.1)))); (case side2 => exact (Kd.R_reads' HO183.out).2.1); (case side3 => refine (Kd.R_reads' (e := 73) (base := w.heap.size) (ok := fun k_ => (((True ∧ some k_ ≠ (.slice Ao67 t154.length co67 : Value).ownBlock) ∧ some k_ ≠ (.slice Ao75 t165.length co75 : Value).ownBlock) ∧ some k_ ≠ (.slice Ao84 t176.length co84 : Value).ownBlock)) (n := t184.length) (c := co92) ?_).2.2; exact (by (with_reducible repeat (first | apply Kd.R_alloc | apply Kd.R_drewN | apply Kd.R_drew)); exact (Kd.R_mono (Kd.R_far (p := ⟨gb189, 1, none⟩) (Kd.R_far (p := ⟨gb189, 0, none⟩) (Kd.R_types HO186.out BK189.out (by decide)) (fun _ hk => hk.2) (.slice Ao87 t181.length co87)) (fun _ hk => hk.2) (.slice Ao92 t184.length co92)) (fun _ h_ => h_.1)))); (case side4 => exact (Kd.R_reads' HO186.out).2.1); (case side5 => exact Kd.C_nil _ _); (case side6 => exact Nat.le_refl _); rintro e w93 ⟨v191, v194, rfl, ho0, ho1, hb⟩; refine ⟨_, rfl, ?_⟩; have n0_ := Aside0.mk (Kd.R_elder' (by (with_reducible repeat (first | apply Kd.R_alloc | apply Kd.R_drewN | apply Kd.R_drew)); exact (Kd.R_mono (Kd.R_far (p := ⟨gb189, 1, none⟩) (Kd.R_far (p := ⟨gb189, 0, none⟩) (Kd.R_types HO153.out BK189.out (by decide)) (fun _ hk => hk.2) (.slice Ao87 t181.length co87)) (fun _ hk => hk.2) (.slice Ao92 t184.length co92)) (fun _ h_ => h_.1))) (Kd.R_base ho0) hb); have n1_ := Aside0.mk (Kd.R_elder' (by (with_reducible repeat (first | apply Kd.R_alloc | apply Kd.R_drewN | apply Kd.R_drew)); exact (Kd.R_mono (Kd.R_far (p := ⟨gb189, 1, none⟩) (Kd.R_far (p := ⟨gb189, 0, none⟩) (Kd.R_types HO156.out BK189.out (by decide)) (fun _ hk => hk.2) (.slice Ao87 t181.length co87)) (fun _ hk => hk.2) (.slice Ao92 t184.length co92)) (fun _ h_ => h_.1))) (Kd.R_base ho1) hb); have n2_ := Aside0.mk (Kd.R_elder' (by (with_reducible repeat (first | apply Kd.R_alloc | apply Kd.R_drewN | apply Kd.R_drew)); exact (Kd.R_mono (Kd.R_far (p := ⟨gb189, 1, none⟩) (Kd.R_far (p := ⟨gb189, 0, none⟩) (Kd.R_types HO164.out BK189.out (by decide)) (fun _ hk => hk.2) (.slice Ao87 t181.length co87)) (fun _ hk => hk.2) (.slice Ao92 t184.length co92)) (fun _ h_ => h_.1))) (Kd.R_base ho0) hb); have n3_ := Aside0.mk (Kd.R_elder' (by (with_reducible repeat (first | apply Kd.R_alloc | apply Kd.R_drewN | apply Kd.R_drew)); exact (Kd.R_mono (Kd.R_far (p := ⟨gb189, 1, none⟩) (Kd.R_far (p := ⟨gb189, 0, none⟩) (Kd.R_types HO167.out BK189.out (by decide)) (fun _ hk => hk.2) (.slice Ao87 t181.length co87)) (fun _ hk => hk.2) (.slice Ao92 t184.length co92)) (fun _ h_ => h_.1))) (Kd.R_base ho1) hb); have n4_ := Aside0.mk (Kd.R_elder' (by (with_reducible repeat (first | apply Kd.R_alloc | apply Kd.R_drewN | apply Kd.R_drew)); exact (Kd.R_mono (Kd.R_far (p := ⟨gb189, 1, none⟩) (Kd.R_far (p := ⟨gb189, 0, none⟩) (Kd.R_types HO175.out BK189.out (by decide)) (fun _ hk => hk.2) (.slice Ao87 t181.length co87)) (fun _ hk => hk.2) (.slice Ao92 t184.length co92)) (fun _ h_ => h_.1))) (Kd.R_base ho0) hb); have n5_ := Aside0.mk (Kd.R_elder' (by (with_reducible repeat (first | apply Kd.R_alloc | apply Kd.R_drewN | apply Kd.R_drew)); exact (Kd.R_mono (Kd.R_far (p := ⟨gb189, 1, none⟩) (Kd.R_far (p := ⟨gb189, 0, none⟩) (Kd.R_types HO178.out BK189.out (by decide)) (fun _ hk => hk.2) (.slice Ao87 t181.length co87)) (fun _ hk => hk.2) (.slice Ao92 t184.length co92)) (fun _ h_ => h_.1))) (Kd.R_base ho1) hb); have n6_ := Aside0.mk (Kd.R_elder' (by (with_reducible repeat (first | apply Kd.R_alloc | apply Kd.R_drewN | apply Kd.R_drew)); exact (Kd.R_mono (Kd.R_far (p := ⟨gb189, 1, none⟩) (Kd.R_far (p := ⟨gb189, 0, none⟩) (Kd.R_types HO183.out BK189.out (by decide)) (fun _ hk => hk.2) (.slice Ao87 t181.length co87)) (fun _ hk => hk.2) (.slice Ao92 t184.length co92)) (fun _ h_ => h_.1))) (Kd.R_base ho0) hb); have n7_ := Aside0.mk (Kd.R_elder' (by (with_reducible repeat (first | apply Kd.R_alloc | apply Kd.R_drewN | apply Kd.R_drew)); exact (Kd.R_mono (Kd.R_far (p := ⟨gb189, 1, none⟩) (Kd.R_far (p := ⟨gb189, 0, none⟩) (Kd.R_types HO186.out BK189.out (by decide)) (fun _ hk => hk.2) (.slice Ao87 t181.length co87)) (fun _ hk => hk.2) (.slice Ao92 t184.length co92)) (fun _ h_ => h_.1))) (Kd.R_base ho1) hb); have n8_ := Aside0.mk (Kd.R_lower (Kd.R_new' (Kd.R_new' (Kd.R_new' (Kd.R_new' ho0 (Kd.R_lt (by (with_reducible repeat (first | apply Kd.R_alloc | apply Kd.R_drewN | apply Kd.R_drew)); exact (Kd.R_mono (Kd.R_far (p := ⟨gb189, 1, none⟩) (Kd.R_far (p := ⟨gb189, 0, none⟩) (Kd.R_types HO153.out BK189.out (by decide)) (fun _ hk => hk.2) (.slice Ao87 t181.length co87)) (fun _ hk => hk.2) (.slice Ao92 t184.length co92)) (fun _ h_ => h_.1))))) (Kd.R_lt (by (with_reducible repeat (first | apply Kd.R_alloc | apply Kd.R_drewN | apply Kd.R_drew)); exact (Kd.R_mono (Kd.R_far (p := ⟨gb189, 1, none⟩) (Kd.R_far (p := ⟨gb189, 0, none⟩) (Kd.R_types HO164.out BK189.out (by decide)) (fun _ hk => hk.2) (.slice Ao87 t181.length co87)) (fun _ hk => hk.2) (.slice Ao92 t184.length co92)) (fun _ h_ => h_.1))))) (Kd.R_lt (by (with_reducible repeat (first | apply Kd.R_alloc | apply Kd.R_drewN | apply Kd.R_drew)); exact (Kd.R_mono (Kd.R_far (p := ⟨gb189, 1, none⟩) (Kd.R_far (p := ⟨gb189, 0, none⟩) (Kd.R_types HO175.out BK189.out (by decide)) (fun _ hk => hk.2) (.slice Ao87 t181.length co87)) (fun _ hk => hk.2) (.slice Ao92 t184.length co92)) (fun _ h_ => h_.1))))) (Kd.R_lt (by (with_reducible repeat (first | apply Kd.R_alloc | apply Kd.R_drewN | apply Kd.R_drew)); exact (Kd.R_mono (Kd.R_far (p := ⟨gb189, 1, none⟩) (Kd.R_far (p := ⟨gb189, 0, none⟩) (Kd.R_types HO183.out BK189.out (by decide)) (fun _ hk => hk.2) (.slice Ao87 t181.length co87)) (fun _ hk => hk.2) (.slice Ao92 t184.length co92)) (fun _ h_ => h_.1))))) (below_size (by repeat (first | (with_reducible first | exact HB.out | apply below_alloc | apply pw_below_drewN | apply below_drew1 | refine below_set ?_ GE158.out | refine below_set ?_ GE169.out | refine below_set ?_ GE180.out | refine below_set ?_ GE189.out) | exact HB.out)))); have n9_ := Aside0.mk (Kd.R_lower (Kd.R_new' (Kd.R_new' (Kd.R_new' (Kd.R_new' ho1 (Kd.R_lt (by (with_reducible repeat (first | apply Kd.R_alloc | apply Kd.R_drewN | apply Kd.R_drew)); exact (Kd.R_mono (Kd.R_far (p := ⟨gb189, 1, none⟩) (Kd.R_far (p := ⟨gb189, 0, none⟩) (Kd.R_types HO156.out BK189.out (by decide)) (fun _ hk => hk.2) (.slice Ao87 t181.length co87)) (fun _ hk => hk.2) (.slice Ao92 t184.length co92)) (fun _ h_ => h_.1))))) (Kd.R_lt (by (with_reducible repeat (first | apply Kd.R_alloc | apply Kd.R_drewN | apply Kd.R_drew)); exact (Kd.R_mono (Kd.R_far (p := ⟨gb189, 1, none⟩) (Kd.R_far (p := ⟨gb189, 0, none⟩) (Kd.R_types HO167.out BK189.out (by decide)) (fun _ hk => hk.2) (.slice Ao87 t181.length co87)) (fun _ hk => hk.2) (.slice Ao92 t184.length co92)) (fun _ h_ => h_.1))))) (Kd.R_lt (by (with_reducible repeat (first | apply Kd.R_alloc | apply Kd.R_drewN | apply Kd.R_drew)); exact (Kd.R_mono (Kd.R_far (p := ⟨gb189, 1, none⟩) (Kd.R_far (p := ⟨gb189, 0, none⟩) (Kd.R_types HO178.out BK189.out (by decide)) (fun _ hk => hk.2) (.slice Ao87 t181.length co87)) (fun _ hk => hk.2) (.slice Ao92 t184.length co92)) (fun _ h_ => h_.1))))) (Kd.R_lt (by (with_reducible repeat (first | apply Kd.R_alloc | apply Kd.R_drewN | apply Kd.R_drew)); exact (Kd.R_mono (Kd.R_far (p := ⟨gb189, 1, none⟩) (Kd.R_far (p := ⟨gb189, 0, none⟩) (Kd.R_types HO186.out BK189.out (by decide)) (fun _ hk => hk.2) (.slice Ao87 t181.length co87)) (fun _ hk => hk.2) (.slice Ao92 t184.length co92)) (fun _ h_ => h_.1))))) (below_size (by repeat (first | (with_reducible first | exact HB.out | apply below_alloc | apply pw_below_drewN | apply below_drew1 | refine below_set ?_ GE158.out | refine below_set ?_ GE169.out | refine below_set ?_ GE180.out | refine below_set ?_ GE189.out) | exact HB.out)))); have n10_ := Aside0.mk (blk_below (g := gb158) (o := .cells #[.slice Ao65 t151.length co65, .slice Ao67 t154.length co67] 25 (0, 0)) (by (with_reducible repeat (first | refine blk_drewN ?_ _ | refine blk_drew ?_ | refine blk_alloc ?_ _)); refine blk_far ?_ NB158_189.out _; (with_reducible repeat (first | refine blk_drewN ?_ _ | refine blk_drew ?_ | refine blk_alloc ?_ _)); refine blk_far ?_ NB158_189.out _; (with_reducible repeat (first | refine blk_drewN ?_ _ | refine blk_drew ?_ | refine blk_alloc ?_ _)); exact BK158.out) hb); have n11_ := Aside0.mk (blk_below (g := gb169) (o := .cells #[.slice Ao72 t162.length co72, .slice Ao75 t165.length co75] 25 (0, 0)) (by (with_reducible repeat (first | refine blk_drewN ?_ _ | refine blk_drew ?_ | refine blk_alloc ?_ _)); refine blk_far ?_ NB169_189.out _; (with_reducible repeat (first | refine blk_drewN ?_ _ | refine blk_drew ?_ | refine blk_alloc ?_ _)); refine blk_far ?_ NB169_189.out _; (with_reducible repeat (first | refine blk_drewN ?_ _ | refine blk_drew ?_ | refine blk_alloc ?_ _)); exact BK169.out) hb); have n12_ := Aside0.mk (blk_below (g := gb180) (o := .cells #[.slice Ao80 t173.length co80, .slice Ao84 t176.length co84] 25 (0, 0)) (by (with_reducible repeat (first | refine blk_drewN ?_ _ | refine blk_drew ?_ | refine blk_alloc ?_ _)); refine blk_far ?_ NB180_189.out _; (with_reducible repeat (first | refine blk_drewN ?_ _ | refine blk_drew ?_ | refine blk_alloc ?_ _)); refine blk_far ?_ NB180_189.out _; (with_reducible repeat (first | refine blk_drewN ?_ _ | refine blk_drew ?_ | refine blk_alloc ?_ _)); exact BK180.out) hb); have n13_ := Aside0.mk (blk_below (g := gb189) (o := .cells #[.slice Ao87 t181.length co87, .slice Ao92 t184.length co92] 25 (0, 0)) (by (with_reducible repeat (first | refine blk_drewN ?_ _ | refine blk_drew ?_ | refine blk_alloc ?_ _)); refine blk_put (cs := #[.slice Ao87 t181.length co87, .slice none 0 0]) ?_ 1 _ rfl; (with_reducible repeat (first | refine blk_drewN ?_ _ | refine blk_drew ?_ | refine blk_alloc ?_ _)); refine blk_put (cs := #[.slice none 0 0, .slice none 0 0]) ?_ 0 _ rfl; (with_reducible repeat (first | refine blk_drewN ?_ _ | refine blk_drew ?_ | refine blk_alloc ?_ _)); exact BK189.out) hb); have n14_ := Aside0.mk (below_step (by repeat (first | (with_reducible first | exact HB.out | apply below_alloc | apply pw_below_drewN | apply below_drew1 | refine below_set ?_ GE158.out | refine below_set ?_ GE169.out | refine below_set ?_ GE180.out | refine below_set ?_ GE189.out) | exact HB.out)) hb); clear HO153; clear HO156; clear HO164; clear HO167; clear HO175; clear HO178; clear HO183; clear HO186; clear BK158; clear BK169; clear BK180; clear BK189; clear HB; have HO153 := n0_; have HO156 := n1_; have HO164 := n2_; have HO167 := n3_; have HO175 := n4_; have HO178 := n5_; have HO183 := n6_; have HO186 := n7_; have HO192 := n8_; have HO195 := n9_; have BK158 := n10_; have BK169 := n11_; have BK180 := n12_; have BK189 := n13_; have HB := n14_; clear n0_ n1_ n2_ n3_ n4_ n5_ n6_ n7_ n8_ n9_ n10_ n11_ n12_ n13_ n14_; (try clear hb); (try clear hb2); (try clear hk); (try clear hi); (try clear ho0); (try clear ho1); go_wp2_with (first | ((with_reducible refine gate_dst (N := 16) rfl ?_); refine box_event ?hg (N := 16) ?hd (cs := #[.slice none 0 0, .slice none 0 0]) (t := 25) ?hr ?_; (case hd => rfl); (case hg => rfl); (case hr => first | (go_simp; done) | (go_simp; rfl)); intro gb197 hg w94 hbox hb; have n0_ := Aside0.mk (Kd.R_below (by (with_reducible repeat (first | apply Kd.R_alloc | apply Kd.R_drewN | apply Kd.R_drew)); exact HO153.out) hb); have n1_ := Aside0.mk (Kd.R_below (by (with_reducible repeat (first | apply Kd.R_alloc | apply Kd.R_drewN | apply Kd.R_drew)); exact HO156.out) hb); have n2_ := Aside0.mk (Kd.R_below (by (with_reducible repeat (first | apply Kd.R_alloc | apply Kd.R_drewN | apply Kd.R_drew)); exact HO164.out) hb); have n3_ := Aside0.mk (Kd.R_below (by (with_reducible repeat (first | apply Kd.R_alloc | apply Kd.R_drewN | apply Kd.R_drew)); exact HO167.out) hb); have n4_ := Aside0.mk (Kd.R_below (by (with_reducible repeat (first | apply Kd.R_alloc | apply Kd.R_drewN | apply Kd.R_drew)); exact HO175.out) hb); have n5_ := Aside0.mk (Kd.R_below (by (with_reducible repeat (first | apply Kd.R_alloc | apply Kd.R_drewN | apply Kd.R_drew)); exact HO178.out) hb); have n6_ := Aside0.mk (Kd.R_below (by (with_reducible repeat (first | apply Kd.R_alloc | apply Kd.R_drewN | apply Kd.R_drew)); exact HO183.out) hb); have n7_ := Aside0.mk (Kd.R_below (by (with_reducible repeat (first | apply Kd.R_alloc | apply Kd.R_drewN | apply Kd.R_drew)); exact HO186.out) hb); have n8_ := Aside0.mk (Kd.R_below (by (with_reducible repeat (first | apply Kd.R_alloc | apply Kd.R_drewN | apply Kd.R_drew)); exact HO192.out) hb); have n9_ := Aside0.mk (Kd.R_below (by (with_reducible repeat (first | apply Kd.R_alloc | apply Kd.R_drewN | apply Kd.R_drew)); exact HO195.out) hb); have n10_ := Aside0.mk (blk_below (g := gb158) (o := .cells #[.slice Ao65 t151.length co65, .slice Ao67 t154.length co67] 25 (0, 0)) (by (with_reducible repeat (first | refine blk_drewN ?_ _ | refine blk_drew ?_ | refine blk_alloc ?_ _)); exact BK158.out) hb); have n11_ := Aside0.mk (blk_below (g := gb169) (o := .cells #[.slice Ao72 t162.length co72, .slice Ao75 t165.length co75] 25 (0, 0)) (by (with_reducible repeat (first | refine blk_drewN ?_ _ | refine blk_drew ?_ | refine blk_alloc ?_ _)); exact BK169.out) hb); have n12_ := Aside0.mk (blk_below (g := gb180) (o := .cells #[.slice Ao80 t173.length co80, .slice Ao84 t176.length co84] 25 (0, 0)) (by (with_reducible repeat (first | refine blk_drewN ?_ _ | refine blk_drew ?_ | refine blk_alloc ?_ _)); exact BK180.out) hb); have n13_ := Aside0.mk (blk_below (g := gb189) (o := .cells #[.slice Ao87 t181.length co87, .slice Ao92 t184.length co92] 25 (0, 0)) (by (with_reducible repeat (first | refine blk_drewN ?_ _ | refine blk_drew ?_ | refine blk_alloc ?_ _)); exact BK189.out) hb); have n14_ := Aside0.mk (below_step (by repeat (first | (with_reducible first | exact HB.out | apply below_alloc | apply pw_below_drewN | apply below_drew1 | refine below_set ?_ GE158.out | refine below_set ?_ GE169.out | refine below_set ?_ GE180.out | refine below_set ?_ GE189.out) | exact HB.out)) hb); have n15_ := Aside0.mk (hbox); have n16_ := Aside0.mk ((by rw [hg]; exact (below_size (by repeat (first | (with_reducible first | exact HB.out | apply below_alloc | apply pw_below_drewN | apply below_drew1 | refine below_set ?_ GE158.out | refine below_set ?_ GE169.out | refine below_set ?_ GE180.out | refine below_set ?_ GE189.out) | exact HB.out))) : w.heap.size ≤ gb197)); have n17_ := Aside0.mk ((by rw [hg]; exact (below_size (by repeat (first | (with_reducible first | exact HB.out | apply below_alloc | apply pw_below_drewN | apply below_drew1 | refine below_set ?_ GE158.out | refine below_set ?_ GE169.out | refine below_set ?_ GE180.out | refine below_set ?_ GE189.out) | exact HB.out))) : w.heap.size ≤ gb197)); have n18_ := Aside0.mk ((by rw [hg]; exact Nat.ne_of_lt (blk_lt (g := gb158) (o := .cells #[.slice Ao65 t151.length co65, .slice Ao67 t154.length co67] 25 (0, 0)) (by (with_reducible repeat (first | refine blk_drewN ?_ _ | refine blk_drew ?_ | refine blk_alloc ?_ _)); exact BK158.out)) : gb158 ≠ gb197)); have n19_ := Aside0.mk ((by rw [hg]; exact Nat.ne_of_gt (blk_lt (g := gb158) (o := .cells #[.slice Ao65 t151.length co65, .slice Ao67 t154.length co67] 25 (0, 0)) (by (with_reducible repeat (first | refine blk_drewN ?_ _ | refine blk_drew ?_ | refine blk_alloc ?_ _)); exact BK158.out)) : gb197 ≠ gb158)); have n20_ := Aside0.mk ((by rw [hg]; exact Nat.ne_of_lt (blk_lt (g := gb169) (o := .cells #[.slice Ao72 t162.length co72, .slice Ao75 t165.length co75] 25 (0, 0)) (by (with_reducible repeat (first | refine blk_drewN ?_ _ | refine blk_drew ?_ | refine blk_alloc ?_ _)); exact BK169.out)) : gb169 ≠ gb197)); have n21_ := Aside0.mk ((by rw [hg]; exact Nat.ne_of_gt (blk_lt (g := gb169) (o := .cells #[.slice Ao72 t162.length co72, .slice Ao75 t165.length co75] 25 (0, 0)) (by (with_reducible repeat (first | refine blk_drewN ?_ _ | refine blk_drew ?_ | refine blk_alloc ?_ _)); exact BK169.out)) : gb197 ≠ gb169)); have n22_ := Aside0.mk ((by rw [hg]; exact Nat.ne_of_lt (blk_lt (g := gb180) (o := .cells #[.slice Ao80 t173.length co80, .slice Ao84 t176.length co84] 25 (0, 0)) (by (with_reducible repeat (first | refine blk_drewN ?_ _ | refine blk_drew ?_ | refine blk_alloc ?_ _)); exact BK180.out)) : gb180 ≠ gb197)); have n23_ := Aside0.mk ((by rw [hg]; exact Nat.ne_of_gt (blk_lt (g := gb180) (o := .cells #[.slice Ao80 t173.length co80, .slice Ao84 t176.length co84] 25 (0, 0)) (by (with_reducible repeat (first | refine blk_drewN ?_ _ | refine blk_drew ?_ | refine blk_alloc ?_ _)); exact BK180.out)) : gb197 ≠ gb180)); have n24_ := Aside0.mk ((by rw [hg]; exact Nat.ne_of_lt (blk_lt (g := gb189) (o := .cells #[.slice Ao87 t181.length co87, .slice Ao92 t184.length co92] 25 (0, 0)) (by (with_reducible repeat (first | refine blk_drewN ?_ _ | refine blk_drew ?_ | refine blk_alloc ?_ _)); exact BK189.out)) : gb189 ≠ gb197)); have n25_ := Aside0.mk ((by rw [hg]; exact Nat.ne_of_gt (blk_lt (g := gb189) (o := .cells #[.slice Ao87 t181.length co87, .slice Ao92 t184.length co92] 25 (0, 0)) (by (with_reducible repeat (first | refine blk_drewN ?_ _ | refine blk_drew ?_ | refine blk_alloc ?_ _)); exact BK189.out)) : gb197 ≠ gb189)); clear HO153; clear HO156; clear HO164; clear HO167; clear HO175; clear HO178; clear HO183; clear HO186; clear HO192; clear HO195; clear BK158; clear BK169; clear BK180; clear BK189; clear HB; have HO153 := n0_; have HO156 := n1_; have HO164 := n2_; have HO167 := n3_; have HO175 := n4_; have HO178 := n5_; have HO183 := n6_; have HO186 := n7_; have HO192 := n8_; have HO195 := n9_; have BK158 := n10_; have BK169 := n11_; have BK180 := n12_; have BK189 := n13_; have HB := n14_; have BK197 := n15_; have GW197 := n16_; have GE197 := n17_; have NB158_197 := n18_; have NB197_158 := n19_; have NB169_197 := n20_; have NB197_169 := n21_; have NB180_197 := n22_; have NB197_180 := n23_; have NB189_197 := n24_; have NB197_189 := n25_; clear n0_ n1_ n2_ n3_ n4_ n5_ n6_ n7_ n8_ n9_ n10_ n11_ n12_ n13_ n14_ n15_ n16_ n17_ n18_ n19_ n20_ n21_ n22_ n23_ n24_ n25_; clear hb hbox hg; obtain ⟨Ao95, co95, eo95⟩ := Kd.R_slice HO192.out; subst eo95; have hnb96 := NB197_158.out; have hnc96 := NB158_197.out; have hnb97 := NB197_169.out; have hnc97 := NB169_197.out; have hnb98 := NB197_180.out; have hnc98 := NB180_197.out; have hnb99 := NB197_189.out; have hnc99 := NB189_197.out; have hcz100_0 : w94.cell? ⟨gb197, 0, none⟩ = some (.slice none 0 0) := (blk_cell BK197.out 0).trans rfl; have hcz100_1 : w94.cell? ⟨gb197, 1, none⟩ = some (.slice none 0 0) := (blk_cell BK197.out 1).trans rfl; have hfz100_0 := blk_frozen BK197.out 0; have hfz100_1 := blk_frozen BK197.out 1; obtain ⟨Ao101, co101, eo101⟩ := Kd.R_slice HO195.out; subst eo101; go_wp2_with (first | ((with_reducible refine gate_callee (f := 12) rfl ?_); refine goesL_ (some 60) rfl rfl Try.func12 (by kernel_rfl) rfl #[.agg #[.slice Ao95 t190.length co95, .slice Ao101 t193.length co101], .int .i64 0] rfl (by (try simp only [List.map_toArray, List.map_cons, List.map_nil]); first | done | rfl | (simp only [List.length_drop, List.length_take]; rfl)) ?_; (with_reducible refine (twin_Get.calls _ _ t190 _ _ t193 0 t198 t199 t200 _ ?side1 ?side2 ?side3 ?side4 A8.out).mono ?_); (case side1 => refine (Kd.R_reads' (e := 9) (base := w.heap.size) (ok := fun k_ => ((((True ∧ some k_ ≠ (.slice Ao65 t151.length co65 : Value).ownBlock) ∧ some k_ ≠ (.slice Ao72 t162.length co72 : Value).ownBlock) ∧ some k_ ≠ (.slice Ao80 t173.length co80 : Value).ownBlock) ∧ some k_ ≠ (.slice Ao87 t181.length co87 : Value).ownBlock)) (n := t190.length) (c := co95) ?_).2.2; exact (by (with_reducible repeat (first | apply Kd.R_alloc | apply Kd.R_drewN | apply Kd.R_drew)); exact (Kd.R_mono (Kd.R_far (p := ⟨gb197, 1, none⟩) (Kd.R_far (p := ⟨gb197, 0, none⟩) (Kd.R_types HO192.out BK197.out (by decide)) (fun _ hk => hk.2) (.slice Ao95 t190.length co95)) (fun _ hk => hk.2) (.slice Ao101 t193.length co101)) (fun _ h_ => h_.1)))); (case side2 => exact (Kd.R_reads' HO192.out).2.1); (case side3 => refine (Kd.R_reads' (e := 73) (base := w.heap.size) (ok := fun k_ => ((((True ∧ some k_ ≠ (.slice Ao67 t154.length co67 : Value).ownBlock) ∧ some k_ ≠ (.slice Ao75 t165.length co75 : Value).ownBlock) ∧ some k_ ≠ (.slice Ao84 t176.length co84 : Value).ownBlock) ∧ some k_ ≠ (.slice Ao92 t184.length co92 : Value).ownBlock)) (n := t193.length) (c := co101) ?_).2.2; exact (by (with_reducible repeat (first | apply Kd.R_alloc | apply Kd.R_drewN | apply Kd.R_drew)); exact (Kd.R_mono (Kd.R_far (p := ⟨gb197, 1, none⟩) (Kd.R_far (p := ⟨gb197, 0, none⟩) (Kd.R_types HO195.out BK197.out (by decide)) (fun _ hk => hk.2) (.slice Ao95 t190.length co95)) (fun _ hk => hk.2) (.slice Ao101 t193.length co101)) (fun _ h_ => h_.1)))); (case side4 => exact (Kd.R_reads' HO195.out).2.1); rintro e w102 ⟨rfl, hb⟩; refine ⟨_, rfl, ?_⟩; have n0_ := Aside0.mk (Kd.R_below (by (with_reducible repeat (first | apply Kd.R_alloc | apply Kd.R_drewN | apply Kd.R_drew)); exact (Kd.R_mono (Kd.R_far (p := ⟨gb197, 1, none⟩) (Kd.R_far (p := ⟨gb197, 0, none⟩) (Kd.R_types HO153.out BK197.out (by decide)) (fun _ hk => hk.2) (.slice Ao95 t190.length co95)) (fun _ hk => hk.2) (.slice Ao101 t193.length co101)) (fun _ h_ => h_.1))) hb); have n1_ := Aside0.mk (Kd.R_below (by (with_reducible repeat (first | apply Kd.R_alloc | apply Kd.R_drewN | apply Kd.R_drew)); exact (Kd.R_mono (Kd.R_far (p := ⟨gb197, 1, none⟩) (Kd.R_far (p := ⟨gb197, 0, none⟩) (Kd.R_types HO156.out BK197.out (by decide)) (fun _ hk => hk.2) (.slice Ao95 t190.length co95)) (fun _ hk => hk.2) (.slice Ao101 t193.length co101)) (fun _ h_ => h_.1))) hb); have n2_ := Aside0.mk (Kd.R_below (by (with_reducible repeat (first | apply Kd.R_alloc | apply Kd.R_drewN | apply Kd.R_drew)); exact (Kd.R_mono (Kd.R_far (p := ⟨gb197, 1, none⟩) (Kd.R_far (p := ⟨gb197, 0, none⟩) (Kd.R_types HO164.out BK197.out (by decide)) (fun _ hk => hk.2) (.slice Ao95 t190.length co95)) (fun _ hk => hk.2) (.slice Ao101 t193.length co101)) (fun _ h_ => h_.1))) hb); have n3_ := Aside0.mk (Kd.R_below (by (with_reducible repeat (first | apply Kd.R_alloc | apply Kd.R_drewN | apply Kd.R_drew)); exact (Kd.R_mono (Kd.R_far (p := ⟨gb197, 1, none⟩) (Kd.R_far (p := ⟨gb197, 0, none⟩) (Kd.R_types HO167.out BK197.out (by decide)) (fun _ hk => hk.2) (.slice Ao95 t190.length co95)) (fun _ hk => hk.2) (.slice Ao101 t193.length co101)) (fun _ h_ => h_.1))) hb); have n4_ := Aside0.mk (Kd.R_below (by (with_reducible repeat (first | apply Kd.R_alloc | apply Kd.R_drewN | apply Kd.R_drew)); exact (Kd.R_mono (Kd.R_far (p := ⟨gb197, 1, none⟩) (Kd.R_far (p := ⟨gb197, 0, none⟩) (Kd.R_types HO175.out BK197.out (by decide)) (fun _ hk => hk.2) (.slice Ao95 t190.length co95)) (fun _ hk => hk.2) (.slice Ao101 t193.length co101)) (fun _ h_ => h_.1))) hb); have n5_ := Aside0.mk (Kd.R_below (by (with_reducible repeat (first | apply Kd.R_alloc | apply Kd.R_drewN | apply Kd.R_drew)); exact (Kd.R_mono (Kd.R_far (p := ⟨gb197, 1, none⟩) (Kd.R_far (p := ⟨gb197, 0, none⟩) (Kd.R_types HO178.out BK197.out (by decide)) (fun _ hk => hk.2) (.slice Ao95 t190.length co95)) (fun _ hk => hk.2) (.slice Ao101 t193.length co101)) (fun _ h_ => h_.1))) hb); have n6_ := Aside0.mk (Kd.R_below (by (with_reducible repeat (first | apply Kd.R_alloc | apply Kd.R_drewN | apply Kd.R_drew)); exact (Kd.R_mono (Kd.R_far (p := ⟨gb197, 1, none⟩) (Kd.R_far (p := ⟨gb197, 0, none⟩) (Kd.R_types HO183.out BK197.out (by decide)) (fun _ hk => hk.2) (.slice Ao95 t190.length co95)) (fun _ hk => hk.2) (.slice Ao101 t193.length co101)) (fun _ h_ => h_.1))) hb); have n7_ := Aside0.mk (Kd.R_below (by (with_reducible repeat (first | apply Kd.R_alloc | apply Kd.R_drewN | apply Kd.R_drew)); exact (Kd.R_mono (Kd.R_far (p := ⟨gb197, 1, none⟩) (Kd.R_far (p := ⟨gb197, 0, none⟩) (Kd.R_types HO186.out BK197.out (by decide)) (fun _ hk => hk.2) (.slice Ao95 t190.length co95)) (fun _ hk => hk.2) (.slice Ao101 t193.length co101)) (fun _ h_ => h_.1))) hb); have n8_ := Aside0.mk (Kd.R_below (by (with_reducible repeat (first | apply Kd.R_alloc | apply Kd.R_drewN | apply Kd.R_drew)); exact (Kd.R_mono (Kd.R_far (p := ⟨gb197, 1, none⟩) (Kd.R_far (p := ⟨gb197, 0, none⟩) (Kd.R_types HO192.out BK197.out (by decide)) (fun _ hk => hk.2) (.slice Ao95 t190.length co95)) (fun _ hk => hk.2) (.slice Ao101 t193.length co101)) (fun _ h_ => h_.1))) hb); have n9_ := Aside0.mk (Kd.R_below (by (with_reducible repeat (first | apply Kd.R_alloc | apply Kd.R_drewN | apply Kd.R_drew)); exact (Kd.R_mono (Kd.R_far (p := ⟨gb197, 1, none⟩) (Kd.R_far (p := ⟨gb197, 0, none⟩) (Kd.R_types HO195.out BK197.out (by decide)) (fun _ hk => hk.2) (.slice Ao95 t190.length co95)) (fun _ hk => hk.2) (.slice Ao101 t193.length co101)) (fun _ h_ => h_.1))) hb); have n10_ := Aside0.mk (blk_below (g := gb158) (o := .cells #[.slice Ao65 t151.length co65, .slice Ao67 t154.length co67] 25 (0, 0)) (by (with_reducible repeat (first | refine blk_drewN ?_ _ | refine blk_drew ?_ | refine blk_alloc ?_ _)); refine blk_far ?_ NB158_197.out _; (with_reducible repeat (first | refine blk_drewN ?_ _ | refine blk_drew ?_ | refine blk_alloc ?_ _)); refine blk_far ?_ NB158_197.out _; (with_reducible repeat (first | refine blk_drewN ?_ _ | refine blk_drew ?_ | refine blk_alloc ?_ _)); exact BK158.out) hb); have n11_ := Aside0.mk (blk_below (g := gb169) (o := .cells #[.slice Ao72 t162.length co72, .slice Ao75 t165.length co75] 25 (0, 0)) (by (with_reducible repeat (first | refine blk_drewN ?_ _ | refine blk_drew ?_ | refine blk_alloc ?_ _)); refine blk_far ?_ NB169_197.out _; (with_reducible repeat (first | refine blk_drewN ?_ _ | refine blk_drew ?_ | refine blk_alloc ?_ _)); refine blk_far ?_ NB169_197.out _; (with_reducible repeat (first | refine blk_drewN ?_ _ | refine blk_drew ?_ | refine blk_alloc ?_ _)); exact BK169.out) hb); have n12_ := Aside0.mk (blk_below (g := gb180) (o := .cells #[.slice Ao80 t173.length co80, .slice Ao84 t176.length co84] 25 (0, 0)) (by (with_reducible repeat (first | refine blk_drewN ?_ _ | refine blk_drew ?_ | refine blk_alloc ?_ _)); refine blk_far ?_ NB180_197.out _; (with_reducible repeat (first | refine blk_drewN ?_ _ | refine blk_drew ?_ | refine blk_alloc ?_ _)); refine blk_far ?_ NB180_197.out _; (with_reducible repeat (first | refine blk_drewN ?_ _ | refine blk_drew ?_ | refine blk_alloc ?_ _)); exact BK180.out) hb); have n13_ := Aside0.mk (blk_below (g := gb189) (o := .cells #[.slice Ao87 t181.length co87, .slice Ao92 t184.length co92] 25 (0, 0)) (by (with_reducible repeat (first | refine blk_drewN ?_ _ | refine blk_drew ?_ | refine blk_alloc ?_ _)); refine blk_far ?_ NB189_197.out _; (with_reducible repeat (first | refine blk_drewN ?_ _ | refine blk_drew ?_ | refine blk_alloc ?_ _)); refine blk_far ?_ NB189_197.out _; (with_reducible repeat (first | refine blk_drewN ?_ _ | refine blk_drew ?_ | refine blk_alloc ?_ _)); exact BK189.out) hb); have n14_ := Aside0.mk (blk_below (g := gb197) (o := .cells #[.slice Ao95 t190.length co95, .slice Ao101 t193.length co101] 25 (0, 0)) (by (with_reducible repeat (first | refine blk_drewN ?_ _ | refine blk_drew ?_ | refine blk_alloc ?_ _)); refine blk_put (cs := #[.slice Ao95 t190.length co95, .slice none 0 0]) ?_ 1 _ rfl; (with_reducible repeat (first | refine blk_drewN ?_ _ | refine blk_drew ?_ | refine blk_alloc ?_ _)); refine blk_put (cs := #[.slice none 0 0, .slice none 0 0]) ?_ 0 _ rfl; (with_reducible repeat (first | refine blk_drewN ?_ _ | refine blk_drew ?_ | refine blk_alloc ?_ _)); exact BK197.out) hb); have n15_ := Aside0.mk (below_step (by repeat (first | (with_reducible first | exact HB.out | apply below_alloc | apply pw_below_drewN | apply below_drew1 | refine below_set ?_ GE158.out | refine below_set ?_ GE169.out | refine below_set ?_ GE180.out | refine below_set ?_ GE189.out | refine below_set ?_ GE197.out) | exact HB.out)) hb); clear HO153; clear HO156; clear HO164; clear HO167; clear HO175; clear HO178; clear HO183; clear HO186; clear HO192; clear HO195; clear BK158; clear BK169; clear BK180; clear BK189; clear BK197; clear HB; have HO153 := n0_; have HO156 := n1_; have HO164 := n2_; have HO167 := n3_; have HO175 := n4_; have HO178 := n5_; have HO183 := n6_; have HO186 := n7_; have HO192 := n8_; have HO195 := n9_; have BK158 := n10_; have BK169 := n11_; have BK180 := n12_; have BK189 := n13_; have BK197 := n14_; have HB := n15_; clear n0_ n1_ n2_ n3_ n4_ n5_ n6_ n7_ n8_ n9_ n10_ n11_ n12_ n13_ n14_ n15_; (try clear hb); (try clear hb2); (try clear hk); (try clear hi)))))))))))))))))))))))))))
                              go_ret
                              exact ⟨by first | rfl | (simp [errW_none, errW_some] <;> rfl) | (simp [*, errW_none, errW_some] <;> rfl), by repeat (first | (with_reducible first | exact HB.out | apply below_alloc | apply pw_below_drewN | apply below_drew1 | refine below_set ?_ GE158.out | refine below_set ?_ GE169.out | refine below_set ?_ GE180.out | refine below_set ?_ GE189.out | refine below_set ?_ GE197.out) | exact HB.out)⟩
                            · rw [if_neg c62] at H
                              exact absurd (H.trans (congrArg some HRT.out)) (by decide)
                          · rw [if_neg c61] at H
                            exact absurd (H.trans (congrArg some HRT.out)) (by decide)
                        · rw [if_neg c60] at H
                          exact absurd (H.trans (congrArg some HRT.out)) (by decide)
                    · rw [if_neg c18] at H
                      exact absurd (H.trans (congrArg some HRT.out)) (by decide)
                  · rw [if_neg c17] at H
                    exact absurd (H.trans (congrArg some HRT.out)) (by decide)
                · rw [if_neg c16] at H
                  exact absurd (H.trans (congrArg some HRT.out)) (by decide)
              · rw [if_neg c15] at H
                exact absurd (H.trans (congrArg some HRT.out)) (by decide)
            · rw [if_neg c14] at H
              exact absurd (H.trans (congrArg some HRT.out)) (by decide)
          · rw [if_neg c13] at H
            exact absurd (H.trans (congrArg some HRT.out)) (by decide)
        · rw [if_neg c12] at H
          exact absurd (H.trans (congrArg some HRT.out)) (by decide)
      · rw [if_neg c11] at H
        exact absurd (H.trans (congrArg some HRT.out)) (by decide)
    · rw [if_neg c10] at H
      exact absurd (H.trans (congrArg some HRT.out)) (by decide)
  · rw [if_neg c9] at H
    exact absurd (H.trans (congrArg some HRT.out)) (by decide)

/-- THE ONE PURE STATEMENT of sextonlaw05_twinsP: yours. -/

theorem sextonlaw05_twinsP_true : sextonlaw05_twinsP.f = some true := by decide +kernel
/-- What it answers. -/
def sextonlaw05_twins.f : Option Bool := some true
theorem sextonlaw05_twins.calls (r : Bool) (w : World) (h : sextonlaw05_twins.f = some r) :
    Calls Try.prog 14 #[] w fun e w' => e = .returned (.bool r) ∧ Below w.heap.size w w' := by
  obtain rfl := Option.some.inj h
  exact sextonlaw05_twinsP.calls true (w := w) (h := sextonlaw05_twinsP_true)
end Go.Proofs.Ytkgcaheddhfpgaa.P
/-
  What a crash leaves, plainly.
-/
namespace Go.Proofs.Ytkgcaheddhfpgaa.P
open Go.RowKit Go.Proofs.YtkgcaheddhfpgaaW.PrintWords Go.Proofs.YtkgcaheddhfpgaaW.PrintLast Go.Proofs.Plain

theorem apply_from (p : Int → Bool) : ∀ (l : List S73) (i : Nat) (b : List ByteArray) (k : Nat), k < b.length →
    (applyW p i l b)[k]? = b[k]? ∨ ∃ x ∈ l, x.f0.toNat = k ∧ (applyW p i l b)[k]? = some x.f1
  | [], i, b, k, h => .inl rfl
  | y :: l, i, b, k, h => by
    simp only [applyW]
    by_cases hp : p (i : Int) = true
    · rw [if_pos hp]
      rcases apply_from p l (i + 1) (b.set y.f0.toNat y.f1) k (by simpa using h) with h1 | ⟨x, hx, h2, h3⟩
      · by_cases hk : y.f0.toNat = k
        · right
          refine ⟨y, List.mem_cons_self, hk, ?_⟩
          rw [h1, List.getElem?_set, if_pos hk, if_pos (by omega)]
        · left
          rw [h1, List.getElem?_set, if_neg hk]
      · exact .inr ⟨x, List.mem_cons_of_mem _ hx, h2, h3⟩
    · rw [if_neg hp]
      rcases apply_from p l (i + 1) b k h with h1 | ⟨x, hx, h2, h3⟩
      · exact .inl h1
      · exact .inr ⟨x, List.mem_cons_of_mem _ hx, h2, h3⟩


theorem crash_parts (p : Int → Bool) {l0 : List ByteArray} {l1 : List S73} (h : checkB l0 l1 = true) (k : Nat) (hk : k < (applyW p 0 l1 l0).length) (hk' : k < l0.length) :
    (applyW p 0 l1 l0)[k] = l0[k] ∨ ∃ x ∈ l1, x.f0 = (k : Int) ∧ x.f1 = (applyW p 0 l1 l0)[k] := by
  obtain ⟨_, _, _, _, hx⟩ := check_len h
  rcases apply_from p l1 0 l0 k hk' with h1 | ⟨x, hm, h2, h3⟩
  · left
    rw [List.getElem?_eq_getElem hk, List.getElem?_eq_getElem hk'] at h1
    exact Option.some.inj h1
  · right
    rw [List.getElem?_eq_getElem hk] at h3
    have := hx x hm
    exact ⟨x, hm, by omega, (Option.some.inj h3).symm⟩

theorem crash_right (p : Int → Bool) {l0 : List ByteArray} {l1 : List S73} (h : checkB l0 l1 = true) : checkB (applyW p 0 l1 l0) [] = true := by
  obtain ⟨h1, h2, h3, h4, h5⟩ := check_len h
  unfold checkB
  have hany : (applyW p 0 l1 l0).any longS = false := by
    rw [List.any_eq_false]
    intro s hs
    obtain ⟨k, hk, rfl⟩ := List.getElem_of_mem hs
    have hsz : (applyW p 0 l1 l0)[k].size ≤ 256 := by
      rcases crash_parts p h k hk (by rw [applyW_length] at hk; exact hk) with e | ⟨x, hx, _, e⟩
      · rw [e]; exact h4 _ (List.getElem_mem _)
      · rw [← e]; exact (h5 x hx).2.2
    unfold longS
    simp
    omega
  rw [hany, applyW_length]
  simp
  omega

theorem apply_congr {p q : Int → Bool} : ∀ (l : List S73) (i : Nat) (b : List ByteArray), (∀ j : Nat, i ≤ j → j < i + l.length → p (j : Int) = q (j : Int)) → applyW p i l b = applyW q i l b
  | [], i, b, _ => rfl
  | y :: l, i, b, h => by
    simp only [applyW]
    rw [h i (Nat.le_refl _) (by simp)]
    exact apply_congr l (i + 1) _ (fun j h1 h2 => h j (by omega) (by simp; omega))

theorem apply_none {p : Int → Bool} (hp : ∀ j : Nat, p (j : Int) = false) : ∀ (l : List S73) (i : Nat) (b : List ByteArray), applyW p i l b = b
  | [], i, b => rfl
  | y :: l, i, b => by
    simp only [applyW]
    rw [hp i, if_neg (by decide)]
    exact apply_none hp l (i + 1) b
end Go.Proofs.Ytkgcaheddhfpgaa.P
/-
  What a Stop makes of a twin, plainly.
-/
namespace Go.Proofs.Ytkgcaheddhfpgaa.P
open Go.RowKit Go.Proofs Go.Proofs.CodecPlain Go.Proofs.YtkgcaheddhfpgaaW.PrintWords Go.Proofs.YtkgcaheddhfpgaaW.PrintLast Go.Proofs.Plain

/-- What a disk's blocks say. -/
def contW (l0 : List ByteArray) (l1 : List S73) : List ByteArray := applyW (fun _ => true) 0 l1 l0
theorem contW_length (l0 : List ByteArray) (l1 : List S73) : (contW l0 l1).length = l0.length := applyW_length _ _ _ _
theorem contW_nil (l0 : List ByteArray) : contW l0 [] = l0 := rfl
theorem contW_snoc (l0 : List ByteArray) (l1 : List S73) (at_ : Int) (f : ByteArray) : contW l0 (l1 ++ [⟨at_, f⟩]) = (contW l0 l1).set at_.toNat f := by
  unfold contW
  rw [applyW_snoc, if_pos rfl]
theorem readV_at {l0 : List ByteArray} {l1 : List S73} {i : Int} (h : checkB l0 l1 = true) (h0 : 0 ≤ i) (h1 : i < (l0.length : Int)) : readV l0 l1 i = (rdOf ByteArray.empty (contW l0 l1) i, 0) := by
  unfold readV contW
  rw [if_neg (by rw [h]; decide), if_neg (by omega)]
theorem readV_out {l0 : List ByteArray} {l1 : List S73} {i : Int} (h : checkB l0 l1 = true) (h0 : i < 0 ∨ i ≥ (l0.length : Int)) : readV l0 l1 i = (⟨#[]⟩, 40) := by
  unfold readV
  rw [if_neg (by rw [h]; decide), if_pos h0]
theorem readV_cont {l0 : List ByteArray} {l1 : List S73} {e0 : List ByteArray} {e1 : List S73} (h : checkB l0 l1 = true) (h' : checkB e0 e1 = true) (hc : contW l0 l1 = contW e0 e1) (i : Int) : readV l0 l1 i = readV e0 e1 i := by
  have hl : l0.length = e0.length := by rw [← contW_length l0 l1, hc, contW_length]
  by_cases h0 : 0 ≤ i ∧ i < (l0.length : Int)
  · rw [readV_at h h0.1 h0.2, readV_at h' h0.1 (by omega), hc]
  · rw [readV_out h (by omega), readV_out h' (by omega)]
theorem pairV_cont {l0 : List ByteArray} {l1 : List S73} {e0 : List ByteArray} {e1 : List S73} (h : checkB l0 l1 = true) (h' : checkB e0 e1 = true) (hc : contW l0 l1 = contW e0 e1) (a : Int) : pairV l0 l1 a = pairV e0 e1 a := by
  unfold pairV
  rw [readV_cont h h' hc, readV_cont h h' hc]
theorem getT_cont {l0 : List ByteArray} {l1 : List S73} {e0 : List ByteArray} {e1 : List S73} (h : checkB l0 l1 = true) (h' : checkB e0 e1 = true) (hc : contW l0 l1 = contW e0 e1) (a : Int) : getT l0 l1 a = getT e0 e1 a := by
  unfold getT
  rw [pairV_cont h h' hc]
theorem ver_put (m : Int) (s : ByteArray) (h0 : 0 ≤ m) (h1 : m ≤ 4294967295) (hs : s.size ≤ 200) : verV (frameOf (numStr m ++ s)) = (m, s, true) := by
  have hz := numStr_size m
  have hg := getFrame_put (numStr m ++ s) (by rw [CodecPlain.size_append]; omega) ⟨#[]⟩
  rw [show frameOf (numStr m ++ s) ++ (⟨#[]⟩ : ByteArray) = frameOf (numStr m ++ s) from ByteArray.append_empty] at hg
  unfold verV
  rw [hg]
  simp only
  rw [if_pos ⟨trivial, trivial⟩]
  exact getNum_put m h0 h1 s
theorem frame_short (m : Int) (s : ByteArray) (hs : s.size ≤ 200) : longS (frameOf (numStr m ++ s)) = false := by
  have hz := numStr_size m
  have := (frame_size (numStr m ++ s)).2
  rw [CodecPlain.size_append] at this
  unfold longS
  exact decide_eq_false (by omega)
/-- A twin that can be read: its place, and the newer copy. -/
structure TwinAt (l0 : List ByteArray) (l1 : List S73) (a : Int) (n0 : Int) (t0 : ByteArray) (k0 : Bool) (n1 : Int) (t1 : ByteArray) (k1 : Bool) : Prop where
  check : checkB l0 l1 = true
  low : 0 ≤ a
  high : a + 1 < (l0.length : Int)
  v0 : verV (rdOf ByteArray.empty (contW l0 l1) a) = (n0, t0, k0)
  v1 : verV (rdOf ByteArray.empty (contW l0 l1) (a + 1)) = (n1, t1, k1)
  apart : ¬ (k0 = true ∧ k1 = true ∧ n0 = n1)
theorem TwinAt.pair {l0 : List ByteArray} {l1 : List S73} {a n0 n1 : Int} {t0 t1 : ByteArray} {k0 k1 : Bool} (h : TwinAt l0 l1 a n0 t0 k0 n1 t1 k1) : pairV l0 l1 a = (n0, t0, k0, n1, t1, k1, 0) := by
  have hl := (check_len h.check).2.1
  have h1 := h.low
  have h2 := h.high
  unfold pairV
  rw [wrap_at (x := a) (by omega) (by omega), wrap_at (x := a + 1) (by omega) (by omega), readV_at h.check h.low (by omega), readV_at h.check (by omega) h.high]
  simp only
  rw [if_pos trivial, if_pos trivial, h.v0, h.v1]
  simp only
  rw [if_neg h.apart]
theorem twin_of {l0 : List ByteArray} {l1 : List S73} {a : Int} (ha : -9223372036854775808 ≤ a ∧ a ≤ 9223372036854775807) {n0 : Int} {t0 : ByteArray} {k0 : Bool} {n1 : Int} {t1 : ByteArray} {k1 : Bool} (hp : pairV l0 l1 a = (n0, t0, k0, n1, t1, k1, 0)) : TwinAt l0 l1 a n0 t0 k0 n1 t1 k1 := by
  obtain ⟨g1, g2, g3, g4, g5⟩ := pair_ok hp
  rw [wrap_at ha.1 ha.2] at g1 g3
  obtain ⟨o1, o2, o3, o4⟩ := readV_ok g1
  have hl := (check_len o1).2.1
  rw [wrap_at (x := a + 1) (by omega) (by omega)] at g2 g4
  obtain ⟨p1, p2, p3, p4⟩ := readV_ok g2
  exact ⟨o1, o2, p3, by rw [g3, o4]; rfl, by rw [g4, p4]; rfl, g5⟩
/-- The newer copy's number and text. -/
def newN (n0 : Int) (k0 : Bool) (n1 : Int) (k1 : Bool) : Int := if newB n0 k0 n1 k1 = true then n0 else n1
def newT (n0 : Int) (t0 : ByteArray) (k0 : Bool) (n1 : Int) (t1 : ByteArray) (k1 : Bool) : ByteArray := if newB n0 k0 n1 k1 = true then t0 else t1
theorem TwinAt.get {l0 : List ByteArray} {l1 : List S73} {a n0 n1 : Int} {t0 t1 : ByteArray} {k0 k1 : Bool} (h : TwinAt l0 l1 a n0 t0 k0 n1 t1 k1) : getT l0 l1 a = (newT n0 t0 k0 n1 t1 k1, newN n0 k0 n1 k1, 0) := by
  unfold getT newT newN
  rw [h.pair]
  simp only
  rw [if_pos trivial]
  split <;> rfl
theorem TwinAt.num {l0 : List ByteArray} {l1 : List S73} {a n0 n1 : Int} {t0 t1 : ByteArray} {k0 k1 : Bool} (h : TwinAt l0 l1 a n0 t0 k0 n1 t1 k1) : 0 ≤ n0 ∧ 0 ≤ n1 ∧ 0 ≤ newN n0 k0 n1 k1 := by
  have h0 := ver_bd (rdOf ByteArray.empty (contW l0 l1) a)
  have h1 := ver_bd (rdOf ByteArray.empty (contW l0 l1) (a + 1))
  rw [h.v0] at h0
  rw [h.v1] at h1
  simp only at h0 h1
  refine ⟨h0, h1, ?_⟩
  unfold newN
  split
  · exact h0
  · exact h1
/-- The block to which the next copy goes. -/
def nextAt (a n0 : Int) (k0 : Bool) (n1 : Int) (k1 : Bool) : Int := a + 1 - newV n0 k0 n1 k1
theorem nextAt_is (a n0 : Int) (k0 : Bool) (n1 : Int) (k1 : Bool) : newB n0 k0 n1 k1 = true ∧ nextAt a n0 k0 n1 k1 = a + 1 ∨ newB n0 k0 n1 k1 = false ∧ nextAt a n0 k0 n1 k1 = a := by
  unfold nextAt newV
  cases h : newB n0 k0 n1 k1
  · right; simp
  · left; simp
/-- Behind the next copy: it is the newer one. -/
theorem TwinAt.next {l0 : List ByteArray} {l1 : List S73} {a n0 n1 : Int} {t0 t1 : ByteArray} {k0 k1 : Bool} (h : TwinAt l0 l1 a n0 t0 k0 n1 t1 k1) {s : ByteArray} (hs : s.size ≤ 200) (hn : newN n0 k0 n1 k1 < 1000000000)
    {c0 : List ByteArray} {c1 : List S73} (hck : checkB c0 c1 = true) (hc : contW c0 c1 = (contW l0 l1).set (nextAt a n0 k0 n1 k1).toNat (frameOf (numStr (newN n0 k0 n1 k1 + 1) ++ s))) :
    ∃ m0 u0 j0 m1 u1 j1, TwinAt c0 c1 a m0 u0 j0 m1 u1 j1 ∧ newN m0 j0 m1 j1 = newN n0 k0 n1 k1 + 1 ∧ newT m0 u0 j0 m1 u1 j1 = s := by
  obtain ⟨b0, b1, b2⟩ := h.num
  have hl := h.low
  have hh := h.high
  have hlen : c0.length = l0.length := by rw [← contW_length c0 c1, hc, List.length_set, contW_length]
  have hcl : (contW l0 l1).length = l0.length := contW_length l0 l1
  have hv := ver_put (newN n0 k0 n1 k1 + 1) s (by omega) (by omega) hs
  have hset : ∀ i : Int, 0 ≤ i → rdOf ByteArray.empty (contW c0 c1) i = if i = nextAt a n0 k0 n1 k1 then frameOf (numStr (newN n0 k0 n1 k1 + 1) ++ s) else rdOf ByteArray.empty (contW l0 l1) i := by
    intro i hi
    rw [hc]
    exact rdOf_set _ _ _ _ (by rcases nextAt_is a n0 k0 n1 k1 with h | h <;> omega) (by rcases nextAt_is a n0 k0 n1 k1 with h | h <;> omega) hi
  rcases nextAt_is a n0 k0 n1 k1 with ⟨hb, hx⟩ | ⟨hb, hx⟩
  · have e : newN n0 k0 n1 k1 = n0 := by unfold newN; rw [if_pos hb]
    have hk : k0 = true := by unfold newB at hb; revert hb; cases k0 <;> simp
    have r0 := hset a (by omega)
    have r1 := hset (a + 1) (by omega)
    rw [if_neg (by omega)] at r0
    rw [if_pos (by omega)] at r1
    have hnb : newB n0 k0 (n0 + 1) true = false := by
      unfold newB
      rw [hk, decide_eq_false (by omega)]
      rfl
    refine ⟨n0, t0, k0, n0 + 1, s, true, ⟨hck, hl, by omega, by rw [r0]; exact h.v0, by rw [r1, hv, e], fun hq => by omega⟩, ?_, ?_⟩
    · unfold newN; rw [hnb, hb]; simp
    · unfold newT; rw [hnb]; simp
  · have e : newN n0 k0 n1 k1 = n1 := by unfold newN; rw [hb]; simp
    have r0 := hset a (by omega)
    have r1 := hset (a + 1) (by omega)
    rw [if_pos (by omega)] at r0
    rw [if_neg (by omega)] at r1
    have hnb : newB (n1 + 1) true n1 k1 = true := by
      unfold newB
      rw [decide_eq_true (show n1 + 1 > n1 by omega)]
      simp
    refine ⟨n1 + 1, s, true, n1, t1, k1, ⟨hck, hl, by omega, by rw [r0, hv, e], by rw [r1]; exact h.v1, fun hq => by omega⟩, ?_, ?_⟩
    · unfold newN; rw [hnb, hb]; simp
    · unfold newT; rw [hnb]; simp
/-- What a Stop makes that is not refused: one write, or none. -/
theorem TwinAt.stop {l0 : List ByteArray} {l1 : List S73} {a n0 n1 : Int} {t0 t1 : ByteArray} {k0 k1 : Bool} (h : TwinAt l0 l1 a n0 t0 k0 n1 t1 k1) (s : ByteArray) (deeds : Int) :
    stopV l0 l1 a s deeds = (if 200 < s.size ∨ 1000000000 ≤ newN n0 k0 n1 k1 then ([], [], false, 2) else if l1.length = 100 then ([], [], false, 41) else
      if deeds = 0 then (l0, l1, false, 0) else if deeds = 1 then (l0, l1 ++ [⟨nextAt a n0 k0 n1 k1, frameOf (numStr (newN n0 k0 n1 k1 + 1) ++ s)⟩], false, 0)
      else ((contW l0 l1).set (nextAt a n0 k0 n1 k1).toNat (frameOf (numStr (newN n0 k0 n1 k1 + 1) ++ s)), [], true, 0)) := by
  have hl := h.low
  have hh := h.high
  unfold stopV
  rw [h.pair]
  simp only
  rw [if_pos trivial]
  show (if 200 < s.size ∨ 1000000000 ≤ newN n0 k0 n1 k1 then _ else stopW l0 l1 (nextAt a n0 k0 n1 k1) (frameOf (numStr (newN n0 k0 n1 k1 + 1) ++ s)) deeds) = _
  by_cases hlim : 200 < s.size ∨ 1000000000 ≤ newN n0 k0 n1 k1
  · rw [if_pos hlim, if_pos hlim]
  · rw [if_neg hlim, if_neg hlim]
    have ha : ¬ (nextAt a n0 k0 n1 k1 < 0 ∨ nextAt a n0 k0 n1 k1 ≥ (l0.length : Int)) := by rcases nextAt_is a n0 k0 n1 k1 with q | q <;> omega
    have hlo := frame_short (newN n0 k0 n1 k1 + 1) s (by omega)
    have hwv : writeV l0 l1 (nextAt a n0 k0 n1 k1) (frameOf (numStr (newN n0 k0 n1 k1 + 1) ++ s)) = if l1.length = 100 then ([], [], 41) else (l0, l1 ++ [⟨nextAt a n0 k0 n1 k1, frameOf (numStr (newN n0 k0 n1 k1 + 1) ++ s)⟩], 0) := by
      unfold writeV
      rw [if_neg (by rw [h.check]; decide), if_neg ha, if_neg (show ¬ longS (frameOf (numStr (newN n0 k0 n1 k1 + 1) ++ s)) = true by rw [hlo]; decide)]
    unfold stopW
    rw [hwv]
    by_cases hf : l1.length = 100
    · rw [if_pos hf, if_pos hf]
      rfl
    · rw [if_neg hf, if_neg hf]
      have hck := check_write h.check ha hlo hf
      have hd : (doneV (fun _ => true) l0 (l1 ++ [⟨nextAt a n0 k0 n1 k1, frameOf (numStr (newN n0 k0 n1 k1 + 1) ++ s)⟩])).1 = (contW l0 l1).set (nextAt a n0 k0 n1 k1).toNat (frameOf (numStr (newN n0 k0 n1 k1 + 1) ++ s)) := by
        unfold doneV
        rw [if_pos hck, ← contW_snoc]
        rfl
      simp only [if_true]
      rw [hd]
theorem TwinAt.stopped {l0 : List ByteArray} {l1 : List S73} {a n0 n1 : Int} {t0 t1 : ByteArray} {k0 k1 : Bool} (h : TwinAt l0 l1 a n0 t0 k0 n1 t1 k1) (s : ByteArray) (hs : s.size ≤ 200) (hf : ¬ l1.length = 100) :
    checkB l0 (l1 ++ [⟨nextAt a n0 k0 n1 k1, frameOf (numStr (newN n0 k0 n1 k1 + 1) ++ s)⟩]) = true ∧ checkB ((contW l0 l1).set (nextAt a n0 k0 n1 k1).toNat (frameOf (numStr (newN n0 k0 n1 k1 + 1) ++ s))) [] = true := by
  have hl := h.low
  have hh := h.high
  have ha : ¬ (nextAt a n0 k0 n1 k1 < 0 ∨ nextAt a n0 k0 n1 k1 ≥ (l0.length : Int)) := by rcases nextAt_is a n0 k0 n1 k1 with q | q <;> omega
  have hck := check_write h.check ha (frame_short (newN n0 k0 n1 k1 + 1) s hs) hf
  refine ⟨hck, ?_⟩
  have := crash_right (fun _ => true) hck
  rw [← contW_snoc]
  exact this
/-- A Stop that is refused makes nothing. -/
theorem stop_fails {l0 : List ByteArray} {l1 : List S73} {a : Int} {s : ByteArray} {deeds : Int} (h : (stopV l0 l1 a s deeds).2.2.2 ≠ 0) : (stopV l0 l1 a s deeds).1 = [] := by
  unfold stopV at h ⊢
  obtain ⟨⟨n0, t0, k0, n1, t1, k1, er⟩, hp⟩ : ∃ p, pairV l0 l1 a = p := ⟨_, rfl⟩
  rw [hp] at h ⊢
  simp only at h ⊢
  by_cases he : er = 0
  · rw [if_pos he] at h ⊢
    generalize (if newB n0 k0 n1 k1 = true then n0 else n1) = X at h ⊢
    generalize frameOf (numStr (X + 1) ++ s) = F at h ⊢
    generalize a + 1 - newV n0 k0 n1 k1 = P at h ⊢
    by_cases hq : 200 < s.size ∨ 1000000000 ≤ X
    · rw [if_pos hq]
    · rw [if_neg hq] at h ⊢
      unfold stopW at h ⊢
      by_cases hw : (writeV l0 l1 P F).2.2 = 0
      · rw [if_pos hw] at h
        by_cases h0 : deeds = 0
        · rw [if_pos h0] at h; exact absurd rfl h
        · by_cases h1 : deeds = 1
          · rw [if_neg h0, if_pos h1] at h; exact absurd rfl h
          · rw [if_neg h0, if_neg h1] at h; exact absurd rfl h
      · rw [if_neg hw]
  · rw [if_neg he]
/-- Where a Stop is not refused there is a twin. -/
theorem stop_twin {l0 : List ByteArray} {l1 : List S73} {a : Int} (ha : -9223372036854775808 ≤ a ∧ a ≤ 9223372036854775807) {s : ByteArray} {deeds : Int} (h : (stopV l0 l1 a s deeds).2.2.2 = 0) : ∃ n0 t0 k0 n1 t1 k1, TwinAt l0 l1 a n0 t0 k0 n1 t1 k1 ∧ s.size ≤ 200 ∧ newN n0 k0 n1 k1 < 1000000000 ∧ ¬ l1.length = 100 := by
  obtain ⟨⟨n0, t0, k0, n1, t1, k1, er⟩, hp⟩ : ∃ p, pairV l0 l1 a = p := ⟨_, rfl⟩
  by_cases he : er = 0
  · subst he
    have ht := twin_of ha hp
    rw [ht.stop] at h
    refine ⟨n0, t0, k0, n1, t1, k1, ht, ?_⟩
    split at h
    · cases h
    · split at h
      · cases h
      · exact ⟨by omega, by omega, by assumption⟩
  · unfold stopV at h
    rw [hp] at h
    simp only at h
    rw [if_neg he] at h
    exact absurd h he
end Go.Proofs.Ytkgcaheddhfpgaa.P
/-
  What can be read as data reads as a value of its kind: kind by kind, for the rows of the statements.
-/
namespace Go.Proofs.Ytkgcaheddhfpgaa.Opens
open Go.ChangeShapes Go.WideShapes Go.ChangeAt Go.RowKit Go.Proofs.YtkgcaheddhfpgaaW.PrintWords

def Opens (P : Program) {α : Type} (kd : Kd α) (ok : α → Prop) (t : TypeId) : Prop :=
  ∀ {H : Type} (enc : TypeId × Value → H) (W : World) (base : Nat) (spare : Nat → Bool) (held : Bool) (fuel : Nat) (cs : List Value) (x : DataW H × List MemPlace),
    DataW.trod enc P W base spare held fuel t cs = some x → ∃ a, kd.K W a cs ∧ ok a
def OkInt (k : IntKind) (n : Int) : Prop := (Lit.int k n).wf = true
def OkStr (s : ByteArray) : Prop := s.size ≤ maxLen
def OkList {α : Type} (ok : α → Prop) (l : List α) : Prop := l.length ≤ maxLen ∧ ∀ a ∈ l, ok a
def OkTrue {α : Type} (_ : α) : Prop := True
def OkPair {α β : Type} (p : α → Prop) (q : β → Prop) (x : α × β) : Prop := p x.1 ∧ q x.2

section
variable {P : Program} {t e : TypeId}
theorem opens_int {k : IntKind} (ht : P.underlying t = some (.int k)) : Opens P (Kd.int k) (OkInt k) t := by
  intro H enc W base spare held fuel cs x h
  obtain ⟨n, rfl, _, hw⟩ := DataW.trod_int ht h
  exact ⟨n, rfl, hw⟩
theorem opens_bool (ht : P.underlying t = some .bool) : Opens P Kd.bool OkTrue t := by
  intro H enc W base spare held fuel cs x h
  obtain ⟨b, rfl, _⟩ := DataW.trod_bool ht h
  exact ⟨b, rfl, trivial⟩
theorem opens_string (ht : P.underlying t = some .string) : Opens P Kd.string OkStr t := by
  intro H enc W base spare held fuel cs x h
  obtain ⟨s, rfl, _, hs⟩ := DataW.trod_string ht h
  exact ⟨s, rfl, hs⟩
theorem addr_add (a : Addr) (x i : Nat) : a.add (x + i) = (a.add x).add i := by
  unfold Addr.add
  by_cases h1 : x = 0 <;> by_cases h2 : i = 0 <;> simp [h1, h2, Nat.add_assoc]
theorem opens_slice {α : Type} {kd : Kd α} {ok : α → Prop} (ht : P.underlying t = some (.slice e)) (hc : P.cellsOf e = kd.sz) (he : Opens P kd ok e) : Opens P (Kd.slice e kd) (OkList ok) t := by
  intro H enc W base spare held fuel cs x h
  rcases DataW.trod_slice ht h with ⟨rfl, _⟩ | ⟨a, len, cap, elems, rest, n, _, rfl, _, hb, hl, hm, hlen, hel, _, _⟩
  · exact ⟨[], ⟨none, 0, rfl, Nat.le_refl _, rfl, by simp, fun h0 => absurd h0 (Nat.lt_irrefl 0)⟩, by simp [maxLen], by simp⟩
  · have each : ∀ i, i < len → ∃ (y : α) (c : List Value), c.length = kd.sz ∧ kd.K W y c ∧ ok y ∧ ∀ j u, c[j]? = some u → W.cell? ((a.add (i * kd.sz)).add j) = some u := by
      intro i hi
      have h1 := hel i hi
      rw [hc, List.getElem?_eq_getElem (by omega), Option.bind_eq_some_iff] at h1
      obtain ⟨c, hcs, hy⟩ := h1
      obtain ⟨y, hK, hok⟩ := he enc W base spare held n c _ hy
      obtain ⟨_, hcl, hcell⟩ := World.cells?_some hcs
      refine ⟨y, c, kd.K_len hK, hK, hok, fun j u hj => ?_⟩
      have hjl : j < kd.sz := by have := (List.getElem?_eq_some_iff.1 hj).1; rw [kd.K_len hK] at this; exact this
      rw [hcell j hjl, hj]
    have pick : ∃ l : List α, l.length = len ∧ ∀ i y, l[i]? = some y → ∃ c : List Value, c.length = kd.sz ∧ kd.K W y c ∧ ok y ∧ ∀ j u, c[j]? = some u → W.cell? ((a.add (i * kd.sz)).add j) = some u := by
      have key : ∀ m, m ≤ len → ∃ l : List α, l.length = m ∧ ∀ i y, l[i]? = some y → ∃ c : List Value, c.length = kd.sz ∧ kd.K W y c ∧ ok y ∧ ∀ j u, c[j]? = some u → W.cell? ((a.add (i * kd.sz)).add j) = some u := by
        intro m
        induction m with
        | zero => intro _; exact ⟨[], rfl, fun i y h => by simp at h⟩
        | succ m ih =>
          intro hm
          obtain ⟨l, hl1, hl2⟩ := ih (by omega)
          obtain ⟨y, c, h1, h2, h3, h4⟩ := each m (by omega)
          refine ⟨l ++ [y], by simp [hl1], fun i z hz => ?_⟩
          rcases Nat.lt_or_ge i l.length with hi | hi
          · rw [List.getElem?_append_left hi] at hz
            exact hl2 i z hz
          · have : i = l.length := by
              have := (List.getElem?_eq_some_iff.1 hz).1
              rw [List.length_append, List.length_singleton] at this
              omega
            subst this
            have hz' : y = z := by simpa using hz
            subst hz'
            exact ⟨c, h1, h2, h3, by rw [hl1]; exact h4⟩
      exact key len (Nat.le_refl _)
    obtain ⟨l, hl1, hl2⟩ := pick
    subst hl1
    refine ⟨l, ⟨some a, cap, rfl, hl, rfl, by unfold maxLen at hm; omega, fun _ => ⟨a, rfl, fun j p hj => ?_⟩⟩, by omega, fun y hy => ?_⟩
    · obtain ⟨c, h1, h2, _, h4⟩ := hl2 j p hj
      refine ⟨c, h1, h2, fun i u hu => ?_⟩
      rw [← h4 i u hu, addr_add]
    · obtain ⟨i, hi⟩ := List.getElem?_of_mem hy
      obtain ⟨_, _, _, h3, _⟩ := hl2 i y hi
      exact h3

/-- The same of fields in line, from one place of the cells on. -/
def OpensF (P : Program) {α : Type} (kd : Kd α) (ok : α → Prop) (fs : List Field) (off len : Nat) : Prop :=
  ∀ {H : Type} (enc : TypeId × Value → H) (W : World) (base : Nat) (spare : Nat → Bool) (held : Bool) (n : Nat) (cs : List Value),
    (∀ f ∈ fs, ∃ y, DataW.trod enc P W base spare held n f.type ((cs.drop f.offset).take (P.cellsOf f.type)) = some y) → off + len ≤ cs.length → ∃ a, kd.K W a ((cs.drop off).take len) ∧ ok a
theorem opensF_one {α : Type} {kd : Kd α} {ok : α → Prop} {f : Field} {t off len : Nat} (h : Opens P kd ok t) (ht : f.type = t) (ho : f.offset = off) (hl : P.cellsOf t = len) : OpensF P kd ok [f] off len := by
  intro H enc W base spare held n cs hf _
  obtain ⟨y, hy⟩ := hf f List.mem_cons_self
  subst ht ho hl
  exact h enc W base spare held n _ y hy
theorem opensF_pair {α β : Type} {kd : Kd α} {kd' : Kd β} {ok : α → Prop} {ok' : β → Prop} {f : Field} {fs : List Field} {t off len len' : Nat} (h : Opens P kd ok t) (ht : f.type = t) (ho : f.offset = off) (hl : P.cellsOf t = len)
    (h' : OpensF P kd' ok' fs (off + len) len') : OpensF P (Kd.pair kd kd') (OkPair ok ok') (f :: fs) off (len + len') := by
  intro H enc W base spare held n cs hf hle
  obtain ⟨y, hy⟩ := hf f List.mem_cons_self
  subst ht ho hl
  obtain ⟨a, ha, hoka⟩ := h enc W base spare held n _ y hy
  obtain ⟨b, hb, hokb⟩ := h' enc W base spare held n cs (fun g hg => hf g (List.mem_cons_of_mem _ hg)) (by omega)
  refine ⟨(a, b), ⟨_, _, ?_, ha, hb⟩, hoka, hokb⟩
  rw [List.take_add, List.drop_drop]
theorem opens_struct {α β : Type} {kd : Kd α} {ok : α → Prop} {fs : Array Field} {len : Nat} (ht : P.underlying t = some (.struct fs)) (hc : P.cellsOf t = len) (h : OpensF P kd ok fs.toList 0 len) (f : β → α) (g : α → β) (hg : ∀ a, f (g a) = a) :
    Opens P (Kd.iso kd f) (fun b => ok (f b)) t := by
  intro H enc W base spare held fuel cs x hx
  obtain ⟨xs, n, _, _, hl, hlen, hf⟩ := DataW.trod_struct ht hx
  obtain ⟨a, ha, hok⟩ := h enc W base spare held n cs (fun fd hfd => by
    obtain ⟨i, hi⟩ := List.getElem?_of_mem hfd
    have h1 := hf i fd (by simpa using hi)
    have hi2 : i < xs.length := by
      have := (List.getElem?_eq_some_iff.1 hi).1
      rw [hlen]; simpa using this
    rw [List.getElem?_eq_getElem hi2] at h1
    exact ⟨_, h1⟩) (by omega)
  refine ⟨g a, ?_, by show ok (f (g a)); rw [hg]; exact hok⟩
  show kd.K W (f (g a)) cs
  rw [hg]
  have : (cs.drop 0).take len = cs := by rw [List.drop_zero]; exact List.take_of_length_le (by omega)
  rw [this] at ha
  exact ha
theorem opens_struct_id {α : Type} {kd : Kd α} {ok : α → Prop} {fs : Array Field} {len : Nat} (ht : P.underlying t = some (.struct fs)) (hc : P.cellsOf t = len) (h : OpensF P kd ok fs.toList 0 len) : Opens P kd ok t :=
  opens_struct ht hc h id id (fun _ => rfl)

/-! ### a parameter, opened -/
variable {H : Type} {enc : TypeId × Value → H} {W : World} {base : Nat} {spare : Nat → Bool} {held : Bool} {r : Reach} {b0 : Nat} {v : Value} {d : DataW H} {ps : List MemPlace}
theorem param_slice {α : Type} {kd : Kd α} {ok : List α → Prop} (ht : P.underlying t = some (.slice e)) (h : Opens P (Kd.slice e kd) ok t) (hval : Value.okWide P W r b0 t v) (hd : DataW.Trod enc P W base spare held t v d ps) :
    ∃ A c l, v = .slice A l.length c ∧ l.length ≤ c ∧ Kd.C kd W A l.length l ∧ ok l := by
  obtain ⟨a, len, cap, rfl⟩ := okWide_slice ht hval
  obtain ⟨fuel, hf⟩ := hd
  obtain ⟨l, ⟨A, c, hcs, hl, hC⟩, hok⟩ := h enc W base spare held fuel _ _ hf
  have : Value.slice a len cap = Value.slice A l.length c := by simpa [Value.cells] using hcs
  exact ⟨A, c, l, this, hl, hC, hok⟩
theorem param_struct {α : Type} {kd : Kd α} {ok : α → Prop} {fs : Array Field} (ht : P.underlying t = some (.struct fs)) (h : Opens P kd ok t) (hval : Value.okWide P W r b0 t v) (hd : DataW.Trod enc P W base spare held t v d ps) :
    ∃ cs a, v = .agg cs ∧ kd.K W a cs.toList ∧ ok a := by
  obtain ⟨cs, rfl, hsz⟩ := okWide_struct ht hval
  obtain ⟨fuel, hf⟩ := hd
  obtain ⟨a, hK, hok⟩ := h enc W base spare held fuel _ _ hf
  exact ⟨cs, a, rfl, hK, hok⟩
theorem agg_eq {cs : Array Value} {l : List Value} (h : cs.toList = l) : cs = l.toArray := by rw [← h]
end
end Go.Proofs.Ytkgcaheddhfpgaa.Opens
