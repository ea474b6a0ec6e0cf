/-
  The walk and the plain statement of ChainBack, joined.
-/
import Derived.Test.YtfdpebipnapelaaPx0
import Derived.Test.YtfdpebipnapelaaC13a
import Derived.Test.YtfdpebipnapelaaC13b
set_option linter.unusedVariables false
set_option linter.unusedSimpArgs false
/-
  The walk of ChainBack, by the print; the ways that would answer false are closed.
-/
namespace Go.Proofs.Ytfdpebipnapelaa.P
open Go.RowKit Go.Proofs.YtfdpebipnapelaaW.PrintWords Go.Proofs.YtfdpebipnapelaaW.PrintLast Go.Proofs.YtfdpebipnapelaaW.PrintMore
attribute [local go_sem] max2_int min2_int max_two min_two max_three min_three max_four min_four   -- for this text's walks alone
set_option linter.unusedVariables false
set_option linter.unusedSimpArgs false

/-! ### sextonlaw13_ChainBack: function 8 -/
def sextonlaw13_ChainBack.l0 : Nat → ByteArray → Int → List ByteArray → ByteArray → Int → Option (Bool)
  | 0, _, _, _, _, _ => none
  | k + 1, x0, x1, x5, x7, x8 => if x8 < (x5.length : Int) then (if 0 ≤ x8 then (if ((rdOf ByteArray.empty x5 x8).size : Int) = 0 then (some false) else (if ((rdOf ByteArray.empty x5 x8).size : Int) > x1 then (some false) else (if x8 < (wrap64 ((x5.length : Int) - 1)) then (if ((rdOf ByteArray.empty x5 x8).size : Int) = x1 then (if x7.size + (rdOf ByteArray.empty x5 x8).size ≤ 9223372036854775807 then (sextonlaw13_ChainBack.l0 k x0 x1 x5 (x7 ++ (rdOf ByteArray.empty x5 x8)) (wrap64 (x8 + 1))) else (none)) else (some false)) else (if x7.size + (rdOf ByteArray.empty x5 x8).size ≤ 9223372036854775807 then (sextonlaw13_ChainBack.l0 k x0 x1 x5 (x7 ++ (rdOf ByteArray.empty x5 x8)) (wrap64 (x8 + 1))) else (none))))) else (none)) else ((sextonlaw13_cut.f).bind fun t234 => (if t234 = true then (if x7.toList = x0.toList then (some (decide ((x5.length : Int) ≤ 16))) else (some false)) else (some false)))
def sextonlaw13_ChainBack.f (k : Nat) (a0 : ByteArray) (a1 : Int) : Option (Bool) := if (a0.size : Int) > 5000 then (some true) else ((chain_Cut.f a0 a1).bind fun bt224 => (if bt224.2 = 0 then (sextonlaw13_ChainBack.l0 k a0 a1 bt224.1 (⟨#[]⟩ : ByteArray) 0) else ((sextonlaw13_cut.f).bind fun t228 => (if t228 = true then (if (bt224.1.length : Int) = 0 then (if a1 < 1 then (some true) else (if a1 > 4000 then (some true) else (some (decide ((a0.size : Int) > (wrap64 (16 * a1))))))) else (some false)) else (some false)))))
theorem sextonlaw13_ChainBack.mono_l : ∀ k, (∀ y0 y1 y2 y3 y4, LeO (sextonlaw13_ChainBack.l0 k y0 y1 y2 y3 y4) (sextonlaw13_ChainBack.l0 (k + 1) y0 y1 y2 y3 y4))
  | 0 => fun _ _ _ _ _ r h => by simp [sextonlaw13_ChainBack.l0] at h
  | k + 1 => by
    have ih0 := sextonlaw13_ChainBack.mono_l k
    · intro y0 y1 y2 y3 y4
      unfold sextonlaw13_ChainBack.l0
      repeat' first
      | (with_reducible exact ih0 _ _ _ _ _)
      | (with_reducible exact LeO.refl _)
      | (with_reducible exact LeO.none _)
      | (with_reducible refine LeO.ite ?_ ?_)
      | (with_reducible refine LeO.bind ?_ (fun _ => ?_))
      | exact ih0 _ _ _ _ _
      | exact LeO.none _
      | refine LeO.ite ?_ ?_
      | refine LeO.bind ?_ (fun _ => ?_)
theorem sextonlaw13_ChainBack.mono : ∀ a0 a1 k, LeO (sextonlaw13_ChainBack.f k a0 a1) (sextonlaw13_ChainBack.f (k + 1) a0 a1) := by
  intro a0 a1 k
  have ih0 := sextonlaw13_ChainBack.mono_l k
  unfold sextonlaw13_ChainBack.f
  repeat' first
      | (with_reducible exact ih0 _ _ _ _ _)
      | (with_reducible exact LeO.refl _)
      | (with_reducible exact LeO.none _)
      | (with_reducible refine LeO.ite ?_ ?_)
      | (with_reducible refine LeO.bind ?_ (fun _ => ?_))
      | exact ih0 _ _ _ _ _
      | exact LeO.none _
      | refine LeO.ite ?_ ?_
      | refine LeO.bind ?_ (fun _ => ?_)
set_option maxHeartbeats 8000000 in
set_option maxRecDepth 100000 in
theorem sextonlaw13_ChainBack.calls (k : Nat) (a0 : ByteArray) (a1 : Int) (r : Bool) (hrt : r = true := by rfl) (w : World) (h : sextonlaw13_ChainBack.f k a0 a1 = some r) :
    Calls Try.prog 8 #[.string a0, .int .i64 a1] w fun e w' => e = .returned (.bool r) ∧ Below w.heap.size w w' := by
  have HRT := Aside0.mk hrt
  have HB := Aside0.mk (Below.refl w.heap.size w)
  have H : (if (a0.size : Int) > 5000 then (some true) else ((chain_Cut.f a0 a1).bind fun bt224 => (if bt224.2 = 0 then (sextonlaw13_ChainBack.l0 k a0 a1 bt224.1 (⟨#[]⟩ : ByteArray) 0) else ((sextonlaw13_cut.f).bind fun t228 => (if t228 = true then (if (bt224.1.length : Int) = 0 then (if a1 < 1 then (some true) else (if a1 > 4000 then (some true) else (some (decide ((a0.size : Int) > (wrap64 (16 * a1))))))) else (some false)) else (some false)))))) = some r := h
  clear h
  by_cases c3 : (a0.size : Int) > 5000
  · rw [if_pos c3] at H
    have c3b0 : decide (5000 < (a0.size : Int)) = true := decide_eq_true c3
    have c3b1 : decide (5000 < a0.size) = true := decide_eq_true (by omega)
    clear c3
    obtain rfl := Option.some.inj H
    go_enter Try.func8, Try.ntmps8
    go_wp2
    go_ret
    exact ⟨by first | rfl | (simp [errW_none, errW_some] <;> rfl) | (simp [*, errW_none, errW_some] <;> rfl), by repeat (first | (with_reducible first | exact HB.out | apply below_alloc | apply pw_below_drewN | apply below_drew1) | exact HB.out)⟩
  · rw [if_neg c3] at H
    have c3b0 : decide (5000 < (a0.size : Int)) = false := decide_eq_false c3
    have c3b1 : decide (5000 < a0.size) = false := decide_eq_false (by omega)
    clear c3
    replace H := Option.bind_eq_some_iff.mp H
    obtain ⟨⟨t224, t225⟩, A40, H⟩ := H
    replace H : (if t225 = 0 then (sextonlaw13_ChainBack.l0 k a0 a1 t224 (⟨#[]⟩ : ByteArray) 0) else ((sextonlaw13_cut.f).bind fun t228 => (if t228 = true then (if (t224.length : Int) = 0 then (if a1 < 1 then (some true) else (if a1 > 4000 then (some true) else (some (decide ((a0.size : Int) > (wrap64 (16 * a1))))))) else (some false)) else (some false)))) = some r := H
    have A4 := Aside0.mk A40
    clear A40
    by_cases c5 : t225 = 0
    · rw [if_pos c5] at H
      have c5b0 : (t225 == 0) = true := beq_iff_eq.mpr c5
      have c5b1 : (t225 != 0) = false := bne_eq_false_iff_eq.mpr c5
      clear c5
      have H' := Aside0.mk H
      clear H
      go_enter Try.func8, Try.ntmps8
      go_wp2_with (first | ((with_reducible refine gate_callee (f := 28) rfl ?_); refine goesL_ (some 15) rfl rfl Try.func28 (by kernel_rfl) rfl #[.string a0, .int .i64 a1] rfl (by (try simp only [List.map_toArray, List.map_cons, List.map_nil]); first | done | rfl | (simp only [List.length_drop, List.length_take]; rfl)) ?_; (with_reducible refine (chain_Cut.calls a0 a1 t224 t225 _ A4.out).mono ?_); rintro e w6 ⟨v226, rfl, ho0, hb⟩; refine ⟨_, rfl, ?_⟩; have n0_ := Aside0.mk (Kd.R_lower ho0 (below_size (by repeat (first | (with_reducible first | exact HB.out | apply below_alloc | apply pw_below_drewN | apply below_drew1) | exact HB.out)))); have n1_ := Aside0.mk (below_step (by repeat (first | (with_reducible first | exact HB.out | apply below_alloc | apply pw_below_drewN | apply below_drew1) | exact HB.out)) hb); clear HB; have HO227 := n0_; have HB := n1_; clear n0_ n1_; (try clear hb); (try clear hb2); (try clear hk); (try clear hi); (try clear ho0)))
      go_loopg [7, 8] k (fun kq v7 v8 w' => ∃ (x7_1 : ByteArray) (x8_1 : Int), v7 = .string x7_1 ∧ v8 = .int .i64 x8_1 ∧ Aside0 (sextonlaw13_ChainBack.l0 kq a0 a1 t224 x7_1 x8_1 = some r) ∧ Aside0 (kq ≤ k) ∧ Aside0 (Kd.R Kd.string 9 w' w.heap.size (fun _ => True) v226 t224) ∧ Aside0 (Below w.heap.size w w'))
      case atStart => exact ⟨((⟨#[]⟩ : ByteArray)), (0), (by first | rfl | (simp; done) | (simp [*]; done)), (by first | rfl | (simp; done) | (simp [*]; done)), H', ⟨Nat.le_refl _⟩, ⟨by (with_reducible repeat (first | apply Kd.R_alloc | apply Kd.R_drewN | apply Kd.R_drew)); exact HO227.out⟩, ⟨by repeat (first | (with_reducible first | exact HB.out | apply below_alloc | apply pw_below_drewN | apply below_drew1) | exact HB.out)⟩⟩
      case round =>
        clear H'
        try clear c2
        try clear p2
        try clear c3
        try clear c3b0
        try clear c3b1
        try clear c5
        try clear c5b0
        try clear c5b1
        try clear p6
        obtain ⟨x7_1, x8_1, rfl, rfl, HA, HK1, HO_5, HB⟩ := hrel
        cases gk with
        | zero => exact absurd HA.out (by simp [sextonlaw13_ChainBack.l0])
        | succ k1 =>
          have H := HA.out
          clear HA
          simp only [sextonlaw13_ChainBack.l0] at H
          by_cases c7 : x8_1 < (t224.length : Int)
          · rw [if_pos c7] at H
            have c7b0 : decide (x8_1 < (t224.length : Int)) = true := decide_eq_true c7
            clear c7
            by_cases c8 : 0 ≤ x8_1
            · rw [if_pos c8] at H
              have c8b0 : decide (0 ≤ x8_1) = true := decide_eq_true c8
              clear c8
              by_cases c9 : ((rdOf ByteArray.empty t224 x8_1).size : Int) = 0
              · rw [if_pos c9] at H
                have c9b0 : (((rdOf ByteArray.empty t224 x8_1).size : Int) == 0) = true := beq_iff_eq.mpr c9
                have c9n0 : ((rdOf ByteArray.empty t224 x8_1).size == 0) = true := by simpa using c9b0
                have c9b1 : (((rdOf ByteArray.empty t224 x8_1).size : Int) != 0) = false := bne_eq_false_iff_eq.mpr c9
                have c9n1 : ((rdOf ByteArray.empty t224 x8_1).size != 0) = false := by simpa using c9b1
                clear c9
                obtain rfl := Option.some.inj H
                exact absurd hrt (by decide)
              · rw [if_neg c9] at H
                have c9b0 : (((rdOf ByteArray.empty t224 x8_1).size : Int) == 0) = false := beq_eq_false_iff_ne.mpr c9
                have c9n0 : ((rdOf ByteArray.empty t224 x8_1).size == 0) = false := by simpa using c9b0
                have c9b1 : (((rdOf ByteArray.empty t224 x8_1).size : Int) != 0) = true := bne_iff_ne.mpr c9
                have c9n1 : ((rdOf ByteArray.empty t224 x8_1).size != 0) = true := by simpa using c9b1
                by_cases c11 : ((rdOf ByteArray.empty t224 x8_1).size : Int) > a1
                · rw [if_pos c11] at H
                  have c11b0 : decide (a1 < ((rdOf ByteArray.empty t224 x8_1).size : Int)) = true := decide_eq_true c11
                  clear c11
                  obtain rfl := Option.some.inj H
                  exact absurd hrt (by decide)
                · rw [if_neg c11] at H
                  have c11b0 : decide (a1 < ((rdOf ByteArray.empty t224 x8_1).size : Int)) = false := decide_eq_false c11
                  clear c11
                  by_cases c13 : x8_1 < (wrap64 ((t224.length : Int) - 1))
                  · rw [if_pos c13] at H
                    have c13b0 : decide (x8_1 < (wrap64 ((t224.length : Int) - 1))) = true := decide_eq_true c13
                    clear c13
                    by_cases c14 : ((rdOf ByteArray.empty t224 x8_1).size : Int) = a1
                    · rw [if_pos c14] at H
                      have c14b0 : (((rdOf ByteArray.empty t224 x8_1).size : Int) == a1) = true := beq_iff_eq.mpr c14
                      have c14b1 : (((rdOf ByteArray.empty t224 x8_1).size : Int) != a1) = false := bne_eq_false_iff_eq.mpr c14
                      clear c14
                      by_cases c15 : x7_1.size + (rdOf ByteArray.empty t224 x8_1).size ≤ 9223372036854775807
                      · rw [if_pos c15] at H
                        have c15b0 := eq_true c15
                        have c15b1 : decide (x7_1.size + (rdOf ByteArray.empty t224 x8_1).size ≤ 9223372036854775807) = true := decide_eq_true c15
                        try have c15b2 : (9223372036854775807 < x7_1.size + (rdOf ByteArray.empty t224 x8_1).size) = False := eq_false (Nat.not_lt.2 c15)
                        have H' := Aside0.mk H
                        clear H
                        obtain ⟨Ao16, co16, eo16⟩ := Kd.R_slice HO_5.out
                        subst eo16
                        have p229 : 0 ≤ (x8_1 : Int) := of_decide_eq_true (by first | (with_reducible assumption) | assumption)
                        have q229 : x8_1 < (t224.length : Int) := of_decide_eq_true (by first | (with_reducible assumption) | assumption)
                        obtain ⟨ad229, e229, hx229_0⟩ := Kd.at_string (Kd.R_reads' HO_5.out).2.2 x8_1 p229 q229
                        cases e229
                        replace p229 := eq_true p229
                        replace q229 := eq_true q229
                        have p230 : 0 ≤ (x8_1 : Int) := of_decide_eq_true (by first | (with_reducible assumption) | assumption)
                        have q230 : x8_1 < (t224.length : Int) := of_decide_eq_true (by first | (with_reducible assumption) | assumption)
                        obtain ⟨ad230, e230, hx230_0⟩ := Kd.at_string (Kd.R_reads' HO_5.out).2.2 x8_1 p230 q230
                        obtain rfl : ad229 = ad230 := (by injection e230)
                        replace p230 := eq_true p230
                        replace q230 := eq_true q230
                        have p231 : 0 ≤ (x8_1 : Int) := of_decide_eq_true (by first | (with_reducible assumption) | assumption)
                        have q231 : x8_1 < (t224.length : Int) := of_decide_eq_true (by first | (with_reducible assumption) | assumption)
                        obtain ⟨ad231, e231, hx231_0⟩ := Kd.at_string (Kd.R_reads' HO_5.out).2.2 x8_1 p231 q231
                        obtain rfl : ad229 = ad231 := (by injection e231)
                        replace p231 := eq_true p231
                        replace q231 := eq_true q231
                        have p232 : 0 ≤ (x8_1 : Int) := of_decide_eq_true (by first | (with_reducible assumption) | assumption)
                        have q232 : x8_1 < (t224.length : Int) := of_decide_eq_true (by first | (with_reducible assumption) | assumption)
                        obtain ⟨ad232, e232, hx232_0⟩ := Kd.at_string (Kd.R_reads' HO_5.out).2.2 x8_1 p232 q232
                        obtain rfl : ad229 = ad232 := (by injection e232)
                        replace p232 := eq_true p232
                        replace q232 := eq_true q232
                        go_wp2
                        go_roundg k1
                        case measure => have := HK1.out; omega
                        case rel => exact ⟨(x7_1 ++ (rdOf ByteArray.empty t224 x8_1)), (wrap64 (x8_1 + 1)), (by first | rfl | (simp; done) | (simp [*]; done)), (by first | rfl | (simp; done) | (simp [*]; done)), H', ⟨by have := HK1.out; omega⟩, ⟨by (with_reducible repeat (first | apply Kd.R_alloc | apply Kd.R_drewN | apply Kd.R_drew)); exact HO_5.out⟩, ⟨by repeat (first | (with_reducible first | exact HB.out | apply below_alloc | apply pw_below_drewN | apply below_drew1) | exact HB.out)⟩⟩
                      · rw [if_neg c15] at H
                        exact absurd H (by simp)
                    · rw [if_neg c14] at H
                      have c14b0 : (((rdOf ByteArray.empty t224 x8_1).size : Int) == a1) = false := beq_eq_false_iff_ne.mpr c14
                      have c14b1 : (((rdOf ByteArray.empty t224 x8_1).size : Int) != a1) = true := bne_iff_ne.mpr c14
                      obtain rfl := Option.some.inj H
                      exact absurd hrt (by decide)
                  · rw [if_neg c13] at H
                    have c13b0 : decide (x8_1 < (wrap64 ((t224.length : Int) - 1))) = false := decide_eq_false c13
                    clear c13
                    by_cases c18 : x7_1.size + (rdOf ByteArray.empty t224 x8_1).size ≤ 9223372036854775807
                    · rw [if_pos c18] at H
                      have c18b0 := eq_true c18
                      have c18b1 : decide (x7_1.size + (rdOf ByteArray.empty t224 x8_1).size ≤ 9223372036854775807) = true := decide_eq_true c18
                      try have c18b2 : (9223372036854775807 < x7_1.size + (rdOf ByteArray.empty t224 x8_1).size) = False := eq_false (Nat.not_lt.2 c18)
                      have H' := Aside0.mk H
                      clear H
                      obtain ⟨Ao19, co19, eo19⟩ := Kd.R_slice HO_5.out
                      subst eo19
                      have p229 : 0 ≤ (x8_1 : Int) := of_decide_eq_true (by first | (with_reducible assumption) | assumption)
                      have q229 : x8_1 < (t224.length : Int) := of_decide_eq_true (by first | (with_reducible assumption) | assumption)
                      obtain ⟨ad229, e229, hx229_0⟩ := Kd.at_string (Kd.R_reads' HO_5.out).2.2 x8_1 p229 q229
                      cases e229
                      replace p229 := eq_true p229
                      replace q229 := eq_true q229
                      have p230 : 0 ≤ (x8_1 : Int) := of_decide_eq_true (by first | (with_reducible assumption) | assumption)
                      have q230 : x8_1 < (t224.length : Int) := of_decide_eq_true (by first | (with_reducible assumption) | assumption)
                      obtain ⟨ad230, e230, hx230_0⟩ := Kd.at_string (Kd.R_reads' HO_5.out).2.2 x8_1 p230 q230
                      obtain rfl : ad229 = ad230 := (by injection e230)
                      replace p230 := eq_true p230
                      replace q230 := eq_true q230
                      have p233 : 0 ≤ (x8_1 : Int) := of_decide_eq_true (by first | (with_reducible assumption) | assumption)
                      have q233 : x8_1 < (t224.length : Int) := of_decide_eq_true (by first | (with_reducible assumption) | assumption)
                      obtain ⟨ad233, e233, hx233_0⟩ := Kd.at_string (Kd.R_reads' HO_5.out).2.2 x8_1 p233 q233
                      obtain rfl : ad229 = ad233 := (by injection e233)
                      replace p233 := eq_true p233
                      replace q233 := eq_true q233
                      go_wp2
                      go_roundg k1
                      case measure => have := HK1.out; omega
                      case rel => exact ⟨(x7_1 ++ (rdOf ByteArray.empty t224 x8_1)), (wrap64 (x8_1 + 1)), (by first | rfl | (simp; done) | (simp [*]; done)), (by first | rfl | (simp; done) | (simp [*]; done)), H', ⟨by have := HK1.out; omega⟩, ⟨by (with_reducible repeat (first | apply Kd.R_alloc | apply Kd.R_drewN | apply Kd.R_drew)); exact HO_5.out⟩, ⟨by repeat (first | (with_reducible first | exact HB.out | apply below_alloc | apply pw_below_drewN | apply below_drew1) | exact HB.out)⟩⟩
                    · rw [if_neg c18] at H
                      exact absurd H (by simp)
            · rw [if_neg c8] at H
              exact absurd H (by simp)
          · rw [if_neg c7] at H
            have c7b0 : decide (x8_1 < (t224.length : Int)) = false := decide_eq_false c7
            clear c7
            replace H := Option.bind_eq_some_iff.mp H
            obtain ⟨t234, A200, H⟩ := H
            replace H : (if t234 = true then (if x7_1.toList = a0.toList then (some (decide ((t224.length : Int) ≤ 16))) else (some false)) else (some false)) = some r := H
            have A20 := Aside0.mk A200
            clear A200
            by_cases c21 : t234 = true
            · subst c21
              have H1 : (if x7_1.toList = a0.toList then (some (decide ((t224.length : Int) ≤ 16))) else (some false)) = some r := by rw [if_pos rfl] at H; exact H
              clear H
              have H := H1
              clear H1
              by_cases c22 : x7_1.toList = a0.toList
              · rw [if_pos c22] at H
                have c22b0 : (x7_1.toList == a0.toList) = true := beq_iff_eq.mpr c22
                have c22b1 : (x7_1.toList != a0.toList) = false := bne_eq_false_iff_eq.mpr c22
                clear c22
                obtain rfl := Option.some.inj H
                obtain ⟨Ao23, co23, eo23⟩ := Kd.R_slice HO_5.out
                subst eo23
                go_wp2_with (first | ((with_reducible refine gate_callee (f := 35) rfl ?_); refine goesL_ (some 84) rfl rfl Try.func35 (by kernel_rfl) rfl #[] rfl (by (try simp only [List.map_toArray, List.map_cons, List.map_nil]); first | done | rfl | (simp only [List.length_drop, List.length_take]; rfl)) ?_; (with_reducible refine (sextonlaw13_cut.calls  true _ A20.out).mono ?_); rintro e w24 ⟨rfl, hb⟩; refine ⟨_, rfl, ?_⟩; have n0_ := Aside0.mk (Kd.R_below (by (with_reducible repeat (first | apply Kd.R_alloc | apply Kd.R_drewN | apply Kd.R_drew)); exact HO_5.out) hb); have n1_ := Aside0.mk (below_step (by repeat (first | (with_reducible first | exact HB.out | apply below_alloc | apply pw_below_drewN | apply below_drew1) | exact HB.out)) hb); clear HO_5; clear HB; have HO_5 := n0_; have HB := n1_; clear n0_ n1_; (try clear hb); (try clear hb2); (try clear hk); (try clear hi)))
                go_ret
                exact ⟨by first | rfl | (simp [errW_none, errW_some] <;> rfl) | (simp [*, errW_none, errW_some] <;> rfl), by repeat (first | (with_reducible first | exact HB.out | apply below_alloc | apply pw_below_drewN | apply below_drew1) | exact HB.out)⟩
              · rw [if_neg c22] at H
                exact absurd (H.trans (congrArg some HRT.out)) (by decide)
            · replace c21 := Bool.eq_false_iff.mpr c21
              subst c21
              have H1 : (some false) = some r := by rw [if_neg (show ¬ (false = true) by decide)] at H; exact H
              exact absurd (H1.trans (congrArg some HRT.out)) (by decide)
    · rw [if_neg c5] at H
      have c5b0 : (t225 == 0) = false := beq_eq_false_iff_ne.mpr c5
      have c5b1 : (t225 != 0) = true := bne_iff_ne.mpr c5
      replace H := Option.bind_eq_some_iff.mp H
      obtain ⟨t228, A290, H⟩ := H
      replace H : (if t228 = true then (if (t224.length : Int) = 0 then (if a1 < 1 then (some true) else (if a1 > 4000 then (some true) else (some (decide ((a0.size : Int) > (wrap64 (16 * a1))))))) else (some false)) else (some false)) = some r := H
      have A29 := Aside0.mk A290
      clear A290
      by_cases c30 : t228 = true
      · subst c30
        have H1 : (if (t224.length : Int) = 0 then (if a1 < 1 then (some true) else (if a1 > 4000 then (some true) else (some (decide ((a0.size : Int) > (wrap64 (16 * a1))))))) else (some false)) = some r := by rw [if_pos rfl] at H; exact H
        clear H
        have H := H1
        clear H1
        by_cases c31 : (t224.length : Int) = 0
        · rw [if_pos c31] at H
          have c31b0 : ((t224.length : Int) == 0) = true := beq_iff_eq.mpr c31
          have c31b1 : ((t224.length : Int) != 0) = false := bne_eq_false_iff_eq.mpr c31
          clear c31
          by_cases c32 : a1 < 1
          · rw [if_pos c32] at H
            have c32b0 : decide (a1 < 1) = true := decide_eq_true c32
            clear c32
            obtain rfl := Option.some.inj H
            go_enter Try.func8, Try.ntmps8
            go_wp2_with (first | ((with_reducible refine gate_callee (f := 28) rfl ?_); refine goesL_ (some 15) rfl rfl Try.func28 (by kernel_rfl) rfl #[.string a0, .int .i64 a1] rfl (by (try simp only [List.map_toArray, List.map_cons, List.map_nil]); first | done | rfl | (simp only [List.length_drop, List.length_take]; rfl)) ?_; (with_reducible refine (chain_Cut.calls a0 a1 t224 t225 _ A4.out).mono ?_); rintro e w33 ⟨v226, rfl, ho0, hb⟩; refine ⟨_, rfl, ?_⟩; have n0_ := Aside0.mk (Kd.R_lower ho0 (below_size (by repeat (first | (with_reducible first | exact HB.out | apply below_alloc | apply pw_below_drewN | apply below_drew1) | exact HB.out)))); have n1_ := Aside0.mk (below_step (by repeat (first | (with_reducible first | exact HB.out | apply below_alloc | apply pw_below_drewN | apply below_drew1) | exact HB.out)) hb); clear HB; have HO227 := n0_; have HB := n1_; clear n0_ n1_; (try clear hb); (try clear hb2); (try clear hk); (try clear hi); (try clear ho0)) | ((with_reducible refine gate_callee (f := 35) rfl ?_); refine goesL_ (some 20) rfl rfl Try.func35 (by kernel_rfl) rfl #[] rfl (by (try simp only [List.map_toArray, List.map_cons, List.map_nil]); first | done | rfl | (simp only [List.length_drop, List.length_take]; rfl)) ?_; (with_reducible refine (sextonlaw13_cut.calls  true _ A29.out).mono ?_); rintro e w34 ⟨rfl, hb⟩; refine ⟨_, rfl, ?_⟩; have n0_ := Aside0.mk (Kd.R_below (by (with_reducible repeat (first | apply Kd.R_alloc | apply Kd.R_drewN | apply Kd.R_drew)); exact HO227.out) hb); have n1_ := Aside0.mk (below_step (by repeat (first | (with_reducible first | exact HB.out | apply below_alloc | apply pw_below_drewN | apply below_drew1) | exact HB.out)) hb); clear HO227; clear HB; have HO227 := n0_; have HB := n1_; clear n0_ n1_; (try clear hb); (try clear hb2); (try clear hk); (try clear hi); obtain ⟨Ao35, co35, eo35⟩ := Kd.R_slice HO227.out; subst eo35))
            go_ret
            exact ⟨by first | rfl | (simp [errW_none, errW_some] <;> rfl) | (simp [*, errW_none, errW_some] <;> rfl), by repeat (first | (with_reducible first | exact HB.out | apply below_alloc | apply pw_below_drewN | apply below_drew1) | exact HB.out)⟩
          · rw [if_neg c32] at H
            have c32b0 : decide (a1 < 1) = false := decide_eq_false c32
            clear c32
            by_cases c36 : a1 > 4000
            · rw [if_pos c36] at H
              have c36b0 : decide (4000 < a1) = true := decide_eq_true c36
              clear c36
              obtain rfl := Option.some.inj H
              go_enter Try.func8, Try.ntmps8
              go_wp2_with (first | ((with_reducible refine gate_callee (f := 28) rfl ?_); refine goesL_ (some 15) rfl rfl Try.func28 (by kernel_rfl) rfl #[.string a0, .int .i64 a1] rfl (by (try simp only [List.map_toArray, List.map_cons, List.map_nil]); first | done | rfl | (simp only [List.length_drop, List.length_take]; rfl)) ?_; (with_reducible refine (chain_Cut.calls a0 a1 t224 t225 _ A4.out).mono ?_); rintro e w37 ⟨v226, rfl, ho0, hb⟩; refine ⟨_, rfl, ?_⟩; have n0_ := Aside0.mk (Kd.R_lower ho0 (below_size (by repeat (first | (with_reducible first | exact HB.out | apply below_alloc | apply pw_below_drewN | apply below_drew1) | exact HB.out)))); have n1_ := Aside0.mk (below_step (by repeat (first | (with_reducible first | exact HB.out | apply below_alloc | apply pw_below_drewN | apply below_drew1) | exact HB.out)) hb); clear HB; have HO227 := n0_; have HB := n1_; clear n0_ n1_; (try clear hb); (try clear hb2); (try clear hk); (try clear hi); (try clear ho0)) | ((with_reducible refine gate_callee (f := 35) rfl ?_); refine goesL_ (some 20) rfl rfl Try.func35 (by kernel_rfl) rfl #[] rfl (by (try simp only [List.map_toArray, List.map_cons, List.map_nil]); first | done | rfl | (simp only [List.length_drop, List.length_take]; rfl)) ?_; (with_reducible refine (sextonlaw13_cut.calls  true _ A29.out).mono ?_); rintro e w38 ⟨rfl, hb⟩; refine ⟨_, rfl, ?_⟩; have n0_ := Aside0.mk (Kd.R_below (by (with_reducible repeat (first | apply Kd.R_alloc | apply Kd.R_drewN | apply Kd.R_drew)); exact HO227.out) hb); have n1_ := Aside0.mk (below_step (by repeat (first | (with_reducible first | exact HB.out | apply below_alloc | apply pw_below_drewN | apply below_drew1) | exact HB.out)) hb); clear HO227; clear HB; have HO227 := n0_; have HB := n1_; clear n0_ n1_; (try clear hb); (try clear hb2); (try clear hk); (try clear hi); obtain ⟨Ao39, co39, eo39⟩ := Kd.R_slice HO227.out; subst eo39))
              go_ret
              exact ⟨by first | rfl | (simp [errW_none, errW_some] <;> rfl) | (simp [*, errW_none, errW_some] <;> rfl), by repeat (first | (with_reducible first | exact HB.out | apply below_alloc | apply pw_below_drewN | apply below_drew1) | exact HB.out)⟩
            · rw [if_neg c36] at H
              have c36b0 : decide (4000 < a1) = false := decide_eq_false c36
              clear c36
              obtain rfl := Option.some.inj H
              go_enter Try.func8, Try.ntmps8
              go_wp2_with (first | ((with_reducible refine gate_callee (f := 28) rfl ?_); refine goesL_ (some 15) rfl rfl Try.func28 (by kernel_rfl) rfl #[.string a0, .int .i64 a1] rfl (by (try simp only [List.map_toArray, List.map_cons, List.map_nil]); first | done | rfl | (simp only [List.length_drop, List.length_take]; rfl)) ?_; (with_reducible refine (chain_Cut.calls a0 a1 t224 t225 _ A4.out).mono ?_); rintro e w40 ⟨v226, rfl, ho0, hb⟩; refine ⟨_, rfl, ?_⟩; have n0_ := Aside0.mk (Kd.R_lower ho0 (below_size (by repeat (first | (with_reducible first | exact HB.out | apply below_alloc | apply pw_below_drewN | apply below_drew1) | exact HB.out)))); have n1_ := Aside0.mk (below_step (by repeat (first | (with_reducible first | exact HB.out | apply below_alloc | apply pw_below_drewN | apply below_drew1) | exact HB.out)) hb); clear HB; have HO227 := n0_; have HB := n1_; clear n0_ n1_; (try clear hb); (try clear hb2); (try clear hk); (try clear hi); (try clear ho0)) | ((with_reducible refine gate_callee (f := 35) rfl ?_); refine goesL_ (some 20) rfl rfl Try.func35 (by kernel_rfl) rfl #[] rfl (by (try simp only [List.map_toArray, List.map_cons, List.map_nil]); first | done | rfl | (simp only [List.length_drop, List.length_take]; rfl)) ?_; (with_reducible refine (sextonlaw13_cut.calls  true _ A29.out).mono ?_); rintro e w41 ⟨rfl, hb⟩; refine ⟨_, rfl, ?_⟩; have n0_ := Aside0.mk (Kd.R_below (by (with_reducible repeat (first | apply Kd.R_alloc | apply Kd.R_drewN | apply Kd.R_drew)); exact HO227.out) hb); have n1_ := Aside0.mk (below_step (by repeat (first | (with_reducible first | exact HB.out | apply below_alloc | apply pw_below_drewN | apply below_drew1) | exact HB.out)) hb); clear HO227; clear HB; have HO227 := n0_; have HB := n1_; clear n0_ n1_; (try clear hb); (try clear hb2); (try clear hk); (try clear hi); obtain ⟨Ao42, co42, eo42⟩ := Kd.R_slice HO227.out; subst eo42))
              go_ret
              exact ⟨by first | rfl | (simp [errW_none, errW_some] <;> rfl) | (simp [*, errW_none, errW_some] <;> rfl), by repeat (first | (with_reducible first | exact HB.out | apply below_alloc | apply pw_below_drewN | apply below_drew1) | exact HB.out)⟩
        · rw [if_neg c31] at H
          exact absurd (H.trans (congrArg some HRT.out)) (by decide)
      · replace c30 := Bool.eq_false_iff.mpr c30
        subst c30
        have H1 : (some false) = some r := by rw [if_neg (show ¬ (false = true) by decide)] at H; exact H
        exact absurd (H1.trans (congrArg some HRT.out)) (by decide)

end Go.Proofs.Ytfdpebipnapelaa.P
/-
  The plain statement of ChainBack: what is cut is, put together, what it was.
-/
namespace Go.Proofs.Ytfdpebipnapelaa.Pure
open Go.RowKit Go.Proofs Go.Proofs.CodecPlain Go.Proofs.YtfdpebipnapelaaW.PrintWords Go.Proofs.YtfdpebipnapelaaW.PrintLast Go.Proofs.Ytfdpebipnapelaa.P Go.Proofs.Ytfdpebipnapelaa.Opens

theorem back_step (s : ByteArray) (n i m : Nat) (A B c : ByteArray) (l : List ByteArray) (h2 : n ≤ 4000) (hl : l.length = m) (hch : m ≤ 16) (hlt : i < m) (hA : A.size ≤ 5000) (hnx : A ++ c = B) (hrd : rdOf ByteArray.empty l (i : Int) = c)
    (hsz : 0 < c.size ∧ c.size ≤ n ∧ (i * n + n ≤ s.size → c.size = n)) (hlast : i + 1 < m → i * n + n ≤ s.size) (h : Ev (fun k => sextonlaw13_ChainBack.l0 k s (n : Int) l B ((i + 1 : Nat) : Int)) true) : Ev (fun k => sextonlaw13_ChainBack.l0 k s (n : Int) l A (i : Int)) true := by
  have hw : wrap64 ((i : Int) + 1) = ((i + 1 : Nat) : Int) := wrap_id (by omega) (by omega)
  have hw2 : wrap64 ((l.length : Int) - 1) = (m : Int) - 1 := by
    rw [hl]
    exact wrap_id (by omega) (by omega)
  refine Ev.step (f := fun r => sextonlaw13_ChainBack.l0 r s (n : Int) l B ((i + 1 : Nat) : Int)) (fun r => ?_) h
  simp only [sextonlaw13_ChainBack.l0]
  rw [if_pos (by omega), if_pos (by omega), hrd, if_neg (by omega), if_neg (by omega), hw2, hw, hnx]
  by_cases hc : (i : Int) < (m : Int) - 1
  · have := hsz.2.2 (hlast (by omega))
    rw [if_pos hc, if_pos (by omega), if_pos (by omega)]
  · rw [if_neg hc, if_pos (by omega)]
theorem back_l0 (s : ByteArray) (n : Nat) (h1 : 1 ≤ n) (h2 : n ≤ 4000) (h3 : s.size ≤ 16 * n) (hs : s.size ≤ 5000) (d : Nat) : ∀ i, i + d = chunks s.size n → Ev (fun k => sextonlaw13_ChainBack.l0 k s (n : Int) (cutV s n) (catStr ((cutV s n).take i)) (i : Int)) true := by
  have hl := cutV_length s n
  have hch := chunks_le h3
  induction d with
  | zero =>
    intro i hi
    refine Ev.step (f := fun _ => some true) (fun r => ?_) (Ev.now _)
    have ht : (cutV s n).take i = cutV s n := List.take_of_length_le (by omega)
    simp only [sextonlaw13_ChainBack.l0, sextonlaw13_cut.f, ht, cat_cut s n h1]
    rw [if_neg (by omega), Option.bind_some, if_pos rfl, decide_eq_true (by omega)]
    rfl
  | succ d ih =>
    intro i hi
    have hlt : i < chunks s.size n := by omega
    have hk := chunk_lt hlt
    have hsz := cutS_size s n i
    have hcat : (catStr ((cutV s n).take i)).size ≤ 5000 := by
      have h := cat_take s n i (by omega)
      have h' := congrArg List.length h
      rw [Array.length_toList, List.length_take, Array.length_toList] at h'
      have : s.data.size = s.size := rfl
      show (catStr ((cutV s n).take i)).data.size ≤ 5000
      omega
    have hnx : catStr ((cutV s n).take i) ++ cutS s n i = catStr ((cutV s n).take (i + 1)) := by
      rw [List.take_add_one, cutV_get s n i hlt, catStr_append]
      congr 1
      apply ByteArray.ext
      simp [catStr, ByteArray.data_append]
    have hrd := cutV_rd s n i hlt
    have hih := ih (i + 1) (by omega)
    have hlast := fun h => chunks_last (L := s.size) (k := i) h1 h
    have hsz2 : 0 < (cutS s n i).size ∧ (cutS s n i).size ≤ n ∧ (i * n + n ≤ s.size → (cutS s n i).size = n) := by omega
    clear ih hsz
    generalize catStr ((cutV s n).take i) = A at *
    generalize catStr ((cutV s n).take (i + 1)) = B at *
    generalize cutV s n = l at *
    generalize cutS s n i = c at *
    generalize chunks s.size n = m at *
    exact back_step s n i m A B c l h2 hl hch hlt hcat hnx hrd hsz2 hlast hih
theorem ChainBack (a0 : ByteArray) (a1 : Int) {okp : Prop} (h0 : okp) {okq : Prop} (h1 : okq) : ∃ k, sextonlaw13_ChainBack.f k a0 a1 = some true := by
  unfold sextonlaw13_ChainBack.f
  by_cases hs : (a0.size : Int) > 5000
  · refine ⟨0, ?_⟩
    rw [if_pos hs]
  rcases cut_cases a0 a1 with ⟨e, he, hc, hor⟩ | ⟨m, rfl, g1, g2, g3, hc⟩
  · refine ⟨0, ?_⟩
    rw [if_neg hs, hc, Option.bind_some, if_neg he]
    simp only [sextonlaw13_cut.f, Option.bind_some]
    rw [if_pos trivial, if_pos (by simp)]
    by_cases c1 : a1 < 1
    · rw [if_pos c1]
    · rw [if_neg c1]
      by_cases c2 : a1 > 4000
      · rw [if_pos c2]
      · rw [if_neg c2, decide_eq_true]
        have hw : wrap64 (16 * a1) = 16 * a1 := by unfold wrap64; omega
        rw [hw]
        omega
  · obtain ⟨K, hK⟩ := back_l0 a0 m g1 g2 g3 (by omega) (chunks a0.size m) 0 (by omega)
    refine ⟨K, ?_⟩
    rw [if_neg hs, hc, Option.bind_some, if_pos rfl]
    exact hK K (Nat.le_refl _)
end Go.Proofs.Ytfdpebipnapelaa.Pure
