/-
  A walk by the print, with some facts beside (sizefact.py).
-/
-- Written by a program of this session (xprint.py) over the kit's print.py.
import Derived.Test.YtnkakhcombmdoaaPx0
import Derived.Test.YtnkakhcombmdoaaFsextonref01Texts
import Derived.Test.YtnkakhcombmdoaaFcrcPut
import Derived.Test.YtnkakhcombmdoaaFsextonlaw03summed
import Derived.Test.YtnkakhcombmdoaaFcrcAll
namespace Go.Proofs.Ytnkakhcombmdoaa.P
open Go.RowKit Go.Proofs.YtnkakhcombmdoaaW.PrintWords Go.Proofs.YtnkakhcombmdoaaW.PrintLast Go.Proofs.YtnkakhcombmdoaaW.PrintMore
attribute [local go_sem] max2_int min2_int max_two min_two max_three min_three max_four min_four   -- for this text's walks alone
set_option linter.unusedVariables false
set_option linter.unusedSimpArgs false

/-! ### sextonlaw03_CrcCut: function 12 -/
mutual
def sextonlaw03_CrcCut.l0 : Nat → List ByteArray → Int → ByteArray → Int → Int → Int → Option (Bool)
  | 0, _, _, _, _, _, _ => none
  | k + 1, x0, x1, x5, x6, x7, x8 => if x8 < (x0.length : Int) then (if 0 ≤ x8 then (if ((rdOf ByteArray.empty x0 x8).size : Int) > 300 then (some true) else ((crc_Put.f (rdOf ByteArray.empty x0 x8)).bind fun bt352 => (if x5.size + bt352.1.size ≤ 9223372036854775807 then (if ((x5 ++ bt352.1).size : Int) ≤ x1 then (sextonlaw03_CrcCut.l0 k x0 x1 (x5 ++ bt352.1) (wrap64 (x6 + 1)) ((x5 ++ bt352.1).size : Int) (wrap64 (x8 + 1))) else (sextonlaw03_CrcCut.l0 k x0 x1 (x5 ++ bt352.1) x6 x7 (wrap64 (x8 + 1)))) else (none)))) else (none)) else (if x1 < 0 then (sextonlaw03_CrcCut.j1 k x0 x1 x5 x6 x7 true) else (sextonlaw03_CrcCut.j1 k x0 x1 x5 x6 x7 (decide (x1 > (x5.size : Int)))))
def sextonlaw03_CrcCut.j1 : Nat → List ByteArray → Int → ByteArray → Int → Int → Bool → Option (Bool)
  | 0, _, _, _, _, _, _ => none
  | k + 1, x0, x1, x5, x6, x7, x54 => if x54 = true then ((sextonlaw03_summed.f k).bind fun t354 => (some t354)) else (if 0 ≤ x1 then (if x1 ≤ (x5.size : Int) then ((crc_All.f k (x5.extract 0 (x1 : Int).toNat)).bind fun bt355 => ((sextonlaw03_summed.f k).bind fun t359 => (if t359 = true then (if bt355.2 = x7 then (if 0 ≤ x6 then (if x6 ≤ (x0.length : Int) then ((sextonref01_Texts.f k bt355.1 (x0.take (x6 : Int).toNat)).bind fun t361 => (some t361)) else (none)) else (none)) else (some false)) else (some false)))) else (none)) else (none))
end
def sextonlaw03_CrcCut.f (k : Nat) (l0 : List ByteArray) (a1 : Int) : Option (Bool) := if (l0.length : Int) > 12 then (some true) else (sextonlaw03_CrcCut.l0 k l0 a1 (⟨#[]⟩ : ByteArray) 0 0 0)
theorem sextonlaw03_CrcCut.mono_l : ∀ k, (∀ y0 y1 y2 y3 y4 y5, LeO (sextonlaw03_CrcCut.l0 k y0 y1 y2 y3 y4 y5) (sextonlaw03_CrcCut.l0 (k + 1) y0 y1 y2 y3 y4 y5)) ∧ (∀ y0 y1 y2 y3 y4 y5, LeO (sextonlaw03_CrcCut.j1 k y0 y1 y2 y3 y4 y5) (sextonlaw03_CrcCut.j1 (k + 1) y0 y1 y2 y3 y4 y5))
  | 0 => ⟨fun _ _ _ _ _ _ r h => by simp [sextonlaw03_CrcCut.l0] at h, fun _ _ _ _ _ _ r h => by simp [sextonlaw03_CrcCut.j1] at h⟩
  | k + 1 => by
    obtain ⟨ih0, ih1⟩ := sextonlaw03_CrcCut.mono_l k
    refine ⟨?_, ?_⟩
    · intro y0 y1 y2 y3 y4 y5
      unfold sextonlaw03_CrcCut.l0
      repeat' first
      | (with_reducible exact ih0 _ _ _ _ _ _)
      | (with_reducible exact ih1 _ _ _ _ _ _)
      | (with_reducible exact crc_All.mono _ _)
      | (with_reducible exact sextonlaw03_summed.mono _)
      | (with_reducible exact sextonref01_Texts.mono _ _ _)
      | (with_reducible exact LeO.refl _)
      | (with_reducible exact LeO.none _)
      | (with_reducible refine LeO.ite ?_ ?_)
      | (with_reducible refine LeO.bind ?_ (fun _ => ?_))
      | exact ih0 _ _ _ _ _ _
      | exact ih1 _ _ _ _ _ _
      | exact crc_All.mono _ _
      | exact sextonlaw03_summed.mono _
      | exact sextonref01_Texts.mono _ _ _
      | exact LeO.none _
      | refine LeO.ite ?_ ?_
      | refine LeO.bind ?_ (fun _ => ?_)
    · intro y0 y1 y2 y3 y4 y5
      unfold sextonlaw03_CrcCut.j1
      repeat' first
      | (with_reducible exact ih0 _ _ _ _ _ _)
      | (with_reducible exact ih1 _ _ _ _ _ _)
      | (with_reducible exact crc_All.mono _ _)
      | (with_reducible exact sextonlaw03_summed.mono _)
      | (with_reducible exact sextonref01_Texts.mono _ _ _)
      | (with_reducible exact LeO.refl _)
      | (with_reducible exact LeO.none _)
      | (with_reducible refine LeO.ite ?_ ?_)
      | (with_reducible refine LeO.bind ?_ (fun _ => ?_))
      | exact ih0 _ _ _ _ _ _
      | exact ih1 _ _ _ _ _ _
      | exact crc_All.mono _ _
      | exact sextonlaw03_summed.mono _
      | exact sextonref01_Texts.mono _ _ _
      | exact LeO.none _
      | refine LeO.ite ?_ ?_
      | refine LeO.bind ?_ (fun _ => ?_)
theorem sextonlaw03_CrcCut.mono : ∀ a0 a1 k, LeO (sextonlaw03_CrcCut.f k a0 a1) (sextonlaw03_CrcCut.f (k + 1) a0 a1) := by
  intro a0 a1 k
  obtain ⟨ih0, ih1⟩ := sextonlaw03_CrcCut.mono_l k
  unfold sextonlaw03_CrcCut.f
  repeat' first
      | (with_reducible exact ih0 _ _ _ _ _ _)
      | (with_reducible exact ih1 _ _ _ _ _ _)
      | (with_reducible exact crc_All.mono _ _)
      | (with_reducible exact sextonlaw03_summed.mono _)
      | (with_reducible exact sextonref01_Texts.mono _ _ _)
      | (with_reducible exact LeO.refl _)
      | (with_reducible exact LeO.none _)
      | (with_reducible refine LeO.ite ?_ ?_)
      | (with_reducible refine LeO.bind ?_ (fun _ => ?_))
      | exact ih0 _ _ _ _ _ _
      | exact ih1 _ _ _ _ _ _
      | exact crc_All.mono _ _
      | exact sextonlaw03_summed.mono _
      | exact sextonref01_Texts.mono _ _ _
      | exact LeO.none _
      | refine LeO.ite ?_ ?_
      | refine LeO.bind ?_ (fun _ => ?_)
set_option maxHeartbeats 8000000 in
set_option maxRecDepth 100000 in
theorem sextonlaw03_CrcCut.calls (k : Nat) (A0 : Option Addr) (c0 : Nat) (l0 : List ByteArray) (a1 : Int) (r : Bool) (w : World) (hr0 : Kd.C Kd.string w A0 l0.length l0) (hc0 : l0.length ≤ c0) (h : sextonlaw03_CrcCut.f k l0 a1 = some r) :
    Calls Try.prog 12 #[.slice A0 l0.length c0, .int .i64 a1] w fun e w' => e = .returned (.bool r) ∧ Below w.heap.size w w' := by
  have HR0 := Aside0.mk hr0
  have HC0 := Aside0.mk hc0
  clear hr0 hc0
  have HB := Aside0.mk (Below.refl w.heap.size w)
  have H : (if (l0.length : Int) > 12 then (some true) else (sextonlaw03_CrcCut.l0 k l0 a1 (⟨#[]⟩ : ByteArray) 0 0 0)) = some r := h
  clear h
  by_cases c3 : (l0.length : Int) > 12
  · rw [if_pos c3] at H
    have c3b0 : decide (12 < (l0.length : Int)) = true := decide_eq_true c3
    have c3b1 : decide (12 < l0.length) = true := decide_eq_true (by omega)
    clear c3
    obtain rfl := Option.some.inj H
    go_enter Try.func12, Try.ntmps12
    go_wp2
    go_ret
    exact ⟨by first | rfl | (simp [errW_none, errW_some] <;> rfl) | (simp [*, errW_none, errW_some] <;> rfl), by repeat (first | (with_reducible first | exact HB.out | apply below_alloc | apply pw_below_drewN | apply below_drew1) | exact HB.out)⟩
  · rw [if_neg c3] at H
    have c3b0 : decide (12 < (l0.length : Int)) = false := decide_eq_false c3
    have c3b1 : decide (12 < l0.length) = false := decide_eq_false (by omega)
    clear c3
    have H' := Aside0.mk H
    clear H
    go_enter Try.func12, Try.ntmps12
    go_wp2
    go_loopg [5, 6, 7, 8] k (fun kq v5 v6 v7 v8 w' => ∃ (x5_1 : ByteArray) (x6_1 : Int) (x7_1 : Int) (x8_1 : Int), v5 = .string x5_1 ∧ v6 = .int .i64 x6_1 ∧ v7 = .int .i64 x7_1 ∧ v8 = .int .i64 x8_1 ∧ Aside0 (sextonlaw03_CrcCut.l0 kq l0 a1 x5_1 x6_1 x7_1 x8_1 = some r) ∧ Aside0 (kq ≤ k) ∧ Aside0 (Below w.heap.size w w'))
    case atStart => exact ⟨((⟨#[]⟩ : ByteArray)), (0), (0), (0), (by first | rfl | (simp; done) | (simp [*]; done)), (by first | rfl | (simp; done) | (simp [*]; done)), (by first | rfl | (simp; done) | (simp [*]; done)), (by first | rfl | (simp; done) | (simp [*]; done)), H', ⟨Nat.le_refl _⟩, ⟨by repeat (first | (with_reducible first | exact HB.out | apply below_alloc | apply pw_below_drewN | apply below_drew1) | exact HB.out)⟩⟩
    case round =>
      clear H'
      try clear c1
      try clear p2
      try clear c3
      try clear c3b0
      try clear c3b1
      obtain ⟨x5_1, x6_1, x7_1, x8_1, rfl, rfl, rfl, rfl, HA, HK1, HB⟩ := hrel
      cases gk with
      | zero => exact absurd HA.out (by simp [sextonlaw03_CrcCut.l0])
      | succ k1 =>
        have H := HA.out
        clear HA
        simp only [sextonlaw03_CrcCut.l0] at H
        by_cases c4 : x8_1 < (l0.length : Int)
        · rw [if_pos c4] at H
          have c4b0 : decide (x8_1 < (l0.length : Int)) = true := decide_eq_true c4
          clear c4
          by_cases c5 : 0 ≤ x8_1
          · rw [if_pos c5] at H
            have c5b0 : decide (0 ≤ x8_1) = true := decide_eq_true c5
            clear c5
            by_cases c6 : ((rdOf ByteArray.empty l0 x8_1).size : Int) > 300
            · rw [if_pos c6] at H
              have c6b0 : decide (300 < ((rdOf ByteArray.empty l0 x8_1).size : Int)) = true := decide_eq_true c6
              have c6b1 : decide (300 < (rdOf ByteArray.empty l0 x8_1).size) = true := decide_eq_true (by omega)
              clear c6
              obtain rfl := Option.some.inj H
              have p350 : 0 ≤ (x8_1 : Int) := of_decide_eq_true (by first | (with_reducible assumption) | assumption)
              have q350 : x8_1 < (l0.length : Int) := of_decide_eq_true (by first | (with_reducible assumption) | assumption)
              obtain ⟨ad350, e350, hx350_0⟩ := Kd.at_string HR0.out x8_1 p350 q350
              cases e350
              replace hx350_0 := (HB.out.cell (World.block_lt_of_cell? w _ hx350_0)).trans hx350_0
              replace p350 := eq_true p350
              replace q350 := eq_true q350
              go_wp2
              go_ret
              exact ⟨by first | rfl | (simp [errW_none, errW_some] <;> rfl) | (simp [*, errW_none, errW_some] <;> rfl), by repeat (first | (with_reducible first | exact HB.out | apply below_alloc | apply pw_below_drewN | apply below_drew1) | exact HB.out)⟩
            · rw [if_neg c6] at H
              have c6b0 : decide (300 < ((rdOf ByteArray.empty l0 x8_1).size : Int)) = false := decide_eq_false c6
              have c6b1 : decide (300 < (rdOf ByteArray.empty l0 x8_1).size) = false := decide_eq_false (by omega)
              clear c6
              replace H := Option.bind_eq_some_iff.mp H
              obtain ⟨⟨t352, t353⟩, A70, H⟩ := H
              replace H : (if x5_1.size + t352.size ≤ 9223372036854775807 then (if ((x5_1 ++ t352).size : Int) ≤ a1 then (sextonlaw03_CrcCut.l0 k1 l0 a1 (x5_1 ++ t352) (wrap64 (x6_1 + 1)) ((x5_1 ++ t352).size : Int) (wrap64 (x8_1 + 1))) else (sextonlaw03_CrcCut.l0 k1 l0 a1 (x5_1 ++ t352) x6_1 x7_1 (wrap64 (x8_1 + 1)))) else (none)) = some r := H
              have A7 := Aside0.mk A70
              clear A70
              by_cases c8 : x5_1.size + t352.size ≤ 9223372036854775807
              · rw [if_pos c8] at H
                have c8b0 := eq_true c8
                have c8b1 : decide (x5_1.size + t352.size ≤ 9223372036854775807) = true := decide_eq_true c8
                try have c8b2 : (9223372036854775807 < x5_1.size + t352.size) = False := eq_false (Nat.not_lt.2 c8)
                by_cases c9 : ((x5_1 ++ t352).size : Int) ≤ a1
                · rw [if_pos c9] at H
                  have c9b0 : decide (((x5_1 ++ t352).size : Int) ≤ a1) = true := decide_eq_true c9
                  have c9bz := c9b0
                  simp only [ByteArray.size_append, Int.natCast_add] at c9bz
                  clear c9
                  have H' := Aside0.mk H
                  clear H
                  have p350 : 0 ≤ (x8_1 : Int) := of_decide_eq_true (by first | (with_reducible assumption) | assumption)
                  have q350 : x8_1 < (l0.length : Int) := of_decide_eq_true (by first | (with_reducible assumption) | assumption)
                  obtain ⟨ad350, e350, hx350_0⟩ := Kd.at_string HR0.out x8_1 p350 q350
                  cases e350
                  replace hx350_0 := (HB.out.cell (World.block_lt_of_cell? w _ hx350_0)).trans hx350_0
                  replace p350 := eq_true p350
                  replace q350 := eq_true q350
                  have p351 : 0 ≤ (x8_1 : Int) := of_decide_eq_true (by first | (with_reducible assumption) | assumption)
                  have q351 : x8_1 < (l0.length : Int) := of_decide_eq_true (by first | (with_reducible assumption) | assumption)
                  obtain ⟨ad351, e351, hx351_0⟩ := Kd.at_string HR0.out x8_1 p351 q351
                  obtain rfl : ad350 = ad351 := (by injection e351)
                  replace hx351_0 := (HB.out.cell (World.block_lt_of_cell? w _ hx351_0)).trans hx351_0
                  replace p351 := eq_true p351
                  replace q351 := eq_true q351
                  go_wp2_with (first | ((with_reducible refine gate_callee (f := 27) rfl ?_); refine goesL_ (some 33) rfl rfl Try.func27 (by kernel_rfl) rfl #[.string (rdOf ByteArray.empty l0 x8_1)] rfl (by (try simp only [List.map_toArray, List.map_cons, List.map_nil]); first | done | rfl | (simp only [List.length_drop, List.length_take]; rfl)) ?_; (with_reducible refine (crc_Put.calls (rdOf ByteArray.empty l0 x8_1) t352 t353 _ A7.out).mono ?_); rintro e w10 ⟨rfl, hb⟩; refine ⟨_, rfl, ?_⟩; have n0_ := Aside0.mk (below_step (by repeat (first | (with_reducible first | exact HB.out | apply below_alloc | apply pw_below_drewN | apply below_drew1) | exact HB.out)) hb); clear HB; have HB := n0_; clear n0_; (try clear hb); (try clear hb2); (try clear hk); (try clear hi)))
                  go_roundg k1
                  case measure => have := HK1.out; omega
                  case rel => exact ⟨(x5_1 ++ t352), (wrap64 (x6_1 + 1)), (((x5_1 ++ t352).size : Int)), (wrap64 (x8_1 + 1)), (by first | rfl | (simp; done) | (simp [*]; done)), (by first | rfl | (simp; done) | (simp [*]; done)), (by first | rfl | (simp; done) | (simp [*]; done)), (by first | rfl | (simp; done) | (simp [*]; done)), H', ⟨by have := HK1.out; omega⟩, ⟨by repeat (first | (with_reducible first | exact HB.out | apply below_alloc | apply pw_below_drewN | apply below_drew1) | exact HB.out)⟩⟩
                · rw [if_neg c9] at H
                  have c9b0 : decide (((x5_1 ++ t352).size : Int) ≤ a1) = false := decide_eq_false c9
                  have c9bz := c9b0
                  simp only [ByteArray.size_append, Int.natCast_add] at c9bz
                  clear c9
                  have H' := Aside0.mk H
                  clear H
                  have p350 : 0 ≤ (x8_1 : Int) := of_decide_eq_true (by first | (with_reducible assumption) | assumption)
                  have q350 : x8_1 < (l0.length : Int) := of_decide_eq_true (by first | (with_reducible assumption) | assumption)
                  obtain ⟨ad350, e350, hx350_0⟩ := Kd.at_string HR0.out x8_1 p350 q350
                  cases e350
                  replace hx350_0 := (HB.out.cell (World.block_lt_of_cell? w _ hx350_0)).trans hx350_0
                  replace p350 := eq_true p350
                  replace q350 := eq_true q350
                  have p351 : 0 ≤ (x8_1 : Int) := of_decide_eq_true (by first | (with_reducible assumption) | assumption)
                  have q351 : x8_1 < (l0.length : Int) := of_decide_eq_true (by first | (with_reducible assumption) | assumption)
                  obtain ⟨ad351, e351, hx351_0⟩ := Kd.at_string HR0.out x8_1 p351 q351
                  obtain rfl : ad350 = ad351 := (by injection e351)
                  replace hx351_0 := (HB.out.cell (World.block_lt_of_cell? w _ hx351_0)).trans hx351_0
                  replace p351 := eq_true p351
                  replace q351 := eq_true q351
                  go_wp2_with (first | ((with_reducible refine gate_callee (f := 27) rfl ?_); refine goesL_ (some 33) rfl rfl Try.func27 (by kernel_rfl) rfl #[.string (rdOf ByteArray.empty l0 x8_1)] rfl (by (try simp only [List.map_toArray, List.map_cons, List.map_nil]); first | done | rfl | (simp only [List.length_drop, List.length_take]; rfl)) ?_; (with_reducible refine (crc_Put.calls (rdOf ByteArray.empty l0 x8_1) t352 t353 _ A7.out).mono ?_); rintro e w11 ⟨rfl, hb⟩; refine ⟨_, rfl, ?_⟩; have n0_ := Aside0.mk (below_step (by repeat (first | (with_reducible first | exact HB.out | apply below_alloc | apply pw_below_drewN | apply below_drew1) | exact HB.out)) hb); clear HB; have HB := n0_; clear n0_; (try clear hb); (try clear hb2); (try clear hk); (try clear hi)))
                  go_roundg k1
                  case measure => have := HK1.out; omega
                  case rel => exact ⟨(x5_1 ++ t352), (x6_1), (x7_1), (wrap64 (x8_1 + 1)), (by first | rfl | (simp; done) | (simp [*]; done)), (by first | rfl | (simp; done) | (simp [*]; done)), (by first | rfl | (simp; done) | (simp [*]; done)), (by first | rfl | (simp; done) | (simp [*]; done)), H', ⟨by have := HK1.out; omega⟩, ⟨by repeat (first | (with_reducible first | exact HB.out | apply below_alloc | apply pw_below_drewN | apply below_drew1) | exact HB.out)⟩⟩
              · rw [if_neg c8] at H
                exact absurd H (by simp)
          · rw [if_neg c5] at H
            exact absurd H (by simp)
        · rw [if_neg c4] at H
          have c4b0 : decide (x8_1 < (l0.length : Int)) = false := decide_eq_false c4
          clear c4
          have HC12 := Aside0.mk H
          clear H
          go_upto_region 16 with (fail)
          go_cut [54] (fun v54 wc => ∃ (kq : Nat) (x54_11 : Bool), v54 = .bool x54_11 ∧ Aside0 (sextonlaw03_CrcCut.j1 kq l0 a1 x5_1 x6_1 x7_1 x54_11 = some r) ∧ Aside0 (kq ≤ k1) ∧ Aside0 (Below w.heap.size w wc))
          case first =>
            have H := HC12.out
            clear HC12
            by_cases c13 : a1 < 0
            · rw [if_pos c13] at H
              have c13b0 : decide (a1 < 0) = true := decide_eq_true c13
              clear c13
              (first | rw [c13b0] | (simp only [i64_w, i32_w]; rw [c13b0]) | skip)
              have H' := Aside0.mk H
              clear H
              go_wp2
              go_meet
              case rel => exact ⟨_, (true), (by first | rfl | (simp; done) | (simp [*]; done)), H', ⟨by have := HK1.out; first | omega | exact Nat.le_refl _⟩, ⟨by repeat (first | (with_reducible first | exact HB.out | apply below_alloc | apply pw_below_drewN | apply below_drew1) | exact HB.out)⟩⟩
            · rw [if_neg c13] at H
              have c13b0 : decide (a1 < 0) = false := decide_eq_false c13
              clear c13
              (first | rw [c13b0] | (simp only [i64_w, i32_w]; rw [c13b0]) | skip)
              have H' := Aside0.mk H
              clear H
              go_wp2
              go_meet
              case rel => exact ⟨_, (decide (a1 > (x5_1.size : Int))), (by first | rfl | (simp; done) | (simp [*]; done)), H', ⟨by have := HK1.out; first | omega | exact Nat.le_refl _⟩, ⟨by repeat (first | (with_reducible first | exact HB.out | apply below_alloc | apply pw_below_drewN | apply below_drew1) | exact HB.out)⟩⟩
          case rest =>
            clear HC12
            try clear c1
            try clear c2
            try clear p2
            try clear c3
            try clear c3b0
            try clear c3b1
            try clear p3
            try clear q3
            try clear hx3
            try clear c4
            try clear c4b0
            try clear c5
            try clear c5b0
            try clear c6
            try clear c6b0
            try clear c6b1
            try clear p6
            try clear c8
            try clear c8b0
            try clear c8b1
            try clear c8b2
            try clear c9
            try clear c9b0
            try clear c12
            try clear c13
            try clear c13b0
            try clear hx350_0
            try clear hx351_0
            try clear p2
            try clear p350
            try clear p351
            try clear q350
            try clear q351
            obtain ⟨kq, x54_11, rfl, HA, HJ11, HB⟩ := hcut
            cases kq with
            | zero => exact absurd HA.out (by simp [sextonlaw03_CrcCut.j1])
            | succ kj11 =>
              have H := HA.out
              clear HA
              simp only [sextonlaw03_CrcCut.j1] at H
              by_cases c14 : x54_11 = true
              · subst c14
                have H1 : ((sextonlaw03_summed.f kj11).bind fun t354 => (some t354)) = some r := by rw [if_pos rfl] at H; exact H
                clear H
                have H := H1
                clear H1
                replace H := Option.bind_eq_some_iff.mp H
                obtain ⟨t354, A150, H⟩ := H
                replace H : (some t354) = some r := H
                have A15 := Aside0.mk A150
                clear A150
                obtain rfl := Option.some.inj H
                go_wp2_with (first | ((with_reducible refine gate_callee (f := 23) rfl ?_); refine goesL_ (some 55) rfl rfl Try.func23 (by kernel_rfl) rfl #[] rfl (by (try simp only [List.map_toArray, List.map_cons, List.map_nil]); first | done | rfl | (simp only [List.length_drop, List.length_take]; rfl)) ?_; (with_reducible refine (sextonlaw03_summed.calls kj11  t354 _ A15.out).mono ?_); rintro e w16 ⟨rfl, hb⟩; refine ⟨_, rfl, ?_⟩; have n0_ := Aside0.mk (below_step (by repeat (first | (with_reducible first | exact HB.out | apply below_alloc | apply pw_below_drewN | apply below_drew1) | exact HB.out)) hb); clear HB; have HB := n0_; clear n0_; (try clear hb); (try clear hb2); (try clear hk); (try clear hi)))
                go_ret
                exact ⟨by first | rfl | (simp [errW_none, errW_some] <;> rfl) | (simp [*, errW_none, errW_some] <;> rfl), by repeat (first | (with_reducible first | exact HB.out | apply below_alloc | apply pw_below_drewN | apply below_drew1) | exact HB.out)⟩
              · replace c14 := Bool.eq_false_iff.mpr c14
                subst c14
                have H1 : (if 0 ≤ a1 then (if a1 ≤ (x5_1.size : Int) then ((crc_All.f kj11 (x5_1.extract 0 (a1 : Int).toNat)).bind fun bt355 => ((sextonlaw03_summed.f kj11).bind fun t359 => (if t359 = true then (if bt355.2 = x7_1 then (if 0 ≤ x6_1 then (if x6_1 ≤ (l0.length : Int) then ((sextonref01_Texts.f kj11 bt355.1 (l0.take (x6_1 : Int).toNat)).bind fun t361 => (some t361)) else (none)) else (none)) else (some false)) else (some false)))) else (none)) else (none)) = some r := by rw [if_neg (show ¬ (false = true) by decide)] at H; exact H
                clear H
                have H := H1
                clear H1
                by_cases c17 : 0 ≤ a1
                · rw [if_pos c17] at H
                  have c17b0 := eq_true c17
                  have c17b1 : decide (0 ≤ a1) = true := decide_eq_true c17
                  clear c17
                  by_cases c18 : a1 ≤ (x5_1.size : Int)
                  · rw [if_pos c18] at H
                    have c18b0 := eq_true c18
                    have c18b1 : decide (a1 ≤ (x5_1.size : Int)) = true := decide_eq_true c18
                    clear c18
                    replace H := Option.bind_eq_some_iff.mp H
                    obtain ⟨⟨t355, t356⟩, A190, H⟩ := H
                    replace H : ((sextonlaw03_summed.f kj11).bind fun t359 => (if t359 = true then (if t356 = x7_1 then (if 0 ≤ x6_1 then (if x6_1 ≤ (l0.length : Int) then ((sextonref01_Texts.f kj11 t355 (l0.take (x6_1 : Int).toNat)).bind fun t361 => (some t361)) else (none)) else (none)) else (some false)) else (some false))) = some r := H
                    have A19 := Aside0.mk A190
                    clear A190
                    replace H := Option.bind_eq_some_iff.mp H
                    obtain ⟨t359, A200, H⟩ := H
                    replace H : (if t359 = true then (if t356 = x7_1 then (if 0 ≤ x6_1 then (if x6_1 ≤ (l0.length : Int) then ((sextonref01_Texts.f kj11 t355 (l0.take (x6_1 : Int).toNat)).bind fun t361 => (some t361)) else (none)) else (none)) else (some false)) else (some false)) = some r := H
                    have A20 := Aside0.mk A200
                    clear A200
                    by_cases c21 : t359 = true
                    · subst c21
                      have H1 : (if t356 = x7_1 then (if 0 ≤ x6_1 then (if x6_1 ≤ (l0.length : Int) then ((sextonref01_Texts.f kj11 t355 (l0.take (x6_1 : Int).toNat)).bind fun t361 => (some t361)) else (none)) else (none)) else (some false)) = some r := by rw [if_pos rfl] at H; exact H
                      clear H
                      have H := H1
                      clear H1
                      by_cases c22 : t356 = x7_1
                      · rw [if_pos c22] at H
                        have c22b0 : (t356 == x7_1) = true := beq_iff_eq.mpr c22
                        have c22b1 : (t356 != x7_1) = false := bne_eq_false_iff_eq.mpr c22
                        clear c22
                        by_cases c23 : 0 ≤ x6_1
                        · rw [if_pos c23] at H
                          have c23b0 := eq_true c23
                          have c23b1 : decide (0 ≤ x6_1) = true := decide_eq_true c23
                          clear c23
                          by_cases c24 : x6_1 ≤ (l0.length : Int)
                          · rw [if_pos c24] at H
                            have c24b0 := eq_true c24
                            have c24b1 : decide (x6_1 ≤ (l0.length : Int)) = true := decide_eq_true c24
                            clear c24
                            replace H := Option.bind_eq_some_iff.mp H
                            obtain ⟨t361, A250, H⟩ := H
                            replace H : (some t361) = some r := H
                            have A25 := Aside0.mk A250
                            clear A250
                            obtain rfl := Option.some.inj H
                            go_wp2_with (first | ((with_reducible refine gate_callee (f := 39) rfl ?_); refine goesL_ (some 60) rfl rfl Try.func39 (by kernel_rfl) rfl #[.string (x5_1.extract 0 (a1 : Int).toNat)] rfl (by (try simp only [List.map_toArray, List.map_cons, List.map_nil]); first | done | rfl | (simp only [List.length_drop, List.length_take]; rfl)) ?_; (with_reducible refine (crc_All.calls kj11 (x5_1.extract 0 (a1 : Int).toNat) t355 t356 _ A19.out).mono ?_); rintro e w26 ⟨v357, rfl, ho0, hb⟩; refine ⟨_, rfl, ?_⟩; have n0_ := Aside0.mk (Kd.R_lower ho0 (below_size (by repeat (first | (with_reducible first | exact HB.out | apply below_alloc | apply pw_below_drewN | apply below_drew1) | exact HB.out)))); have n1_ := Aside0.mk (below_step (by repeat (first | (with_reducible first | exact HB.out | apply below_alloc | apply pw_below_drewN | apply below_drew1) | exact HB.out)) hb); clear HB; have HO358 := n0_; have HB := n1_; clear n0_ n1_; (try clear hb); (try clear hb2); (try clear hk); (try clear hi); (try clear ho0)) | ((with_reducible refine gate_callee (f := 23) rfl ?_); refine goesL_ (some 63) rfl rfl Try.func23 (by kernel_rfl) rfl #[] rfl (by (try simp only [List.map_toArray, List.map_cons, List.map_nil]); first | done | rfl | (simp only [List.length_drop, List.length_take]; rfl)) ?_; (with_reducible refine (sextonlaw03_summed.calls kj11  true _ A20.out).mono ?_); rintro e w27 ⟨rfl, hb⟩; refine ⟨_, rfl, ?_⟩; have n0_ := Aside0.mk (Kd.R_below (by (with_reducible repeat (first | apply Kd.R_alloc | apply Kd.R_drewN | apply Kd.R_drew)); exact HO358.out) hb); have n1_ := Aside0.mk (below_step (by repeat (first | (with_reducible first | exact HB.out | apply below_alloc | apply pw_below_drewN | apply below_drew1) | exact HB.out)) hb); clear HO358; clear HB; have HO358 := n0_; have HB := n1_; clear n0_ n1_; (try clear hb); (try clear hb2); (try clear hk); (try clear hi); obtain ⟨i028, hi028, _, hsz28, _⟩ := info_parts info9; obtain ⟨hcut28, hA28, hC28⟩ := print_take_of (P := Try.prog) Value.string (⟨#[]⟩ : ByteArray) 22 9 .i64 Try.underlying22 hi028 hsz28 A0 c0 l0 x6_1 (of_decide_eq_true (by first | (with_reducible assumption) | assumption)) (of_decide_eq_true (by first | (with_reducible assumption) | assumption)) HC0.out; have HR360 := Aside0.mk (Kd.C_of_reads (h1 := fun _ => rfl) (hA28 _ (Kd.reads_of_C HR0.out))); have HC360 := Aside0.mk hC28; clear hA28 hC28 hi028 hsz28; obtain ⟨Ao29, co29, eo29⟩ := Kd.R_slice HO358.out; subst eo29) | (go_at_call 22; (rw [show (x6_1 : Int).toNat = (l0.take (x6_1 : Int).toNat).length from by rw [List.length_take]; have := of_decide_eq_true c24b1; omega]); (with_reducible refine (sextonref01_Texts.calls kj11 _ _ t355 _ _ (l0.take (x6_1 : Int).toNat) t361 _ ?side1 ?side2 ?side3 ?side4 A25.out).mono ?_); (case side1 => repeat (first | exact (Kd.R_reads' HO358.out).2.2 | (with_reducible refine Kd.C_alloc ?_ _) | (with_reducible refine Kd.C_drewN ?_ _) | (with_reducible refine Kd.C_drew ?_))); (case side2 => exact (Kd.R_reads' HO358.out).2.1); (case side3 => repeat (first | exact (Kd.C_below HR360.out HB.out) | (with_reducible refine Kd.C_alloc ?_ _) | (with_reducible refine Kd.C_drewN ?_ _) | (with_reducible refine Kd.C_drew ?_))); (case side4 => exact HC360.out); rintro e w' ⟨rfl, ⟨nd, rfl⟩⟩))
                            go_ret
                            exact ⟨by first | rfl | (simp [errW_none, errW_some] <;> rfl) | (simp [*, errW_none, errW_some] <;> rfl), by repeat (first | (with_reducible first | exact HB.out | apply below_alloc | apply pw_below_drewN | apply below_drew1) | exact HB.out)⟩
                          · rw [if_neg c24] at H
                            exact absurd H (by simp)
                        · rw [if_neg c23] at H
                          exact absurd H (by simp)
                      · rw [if_neg c22] at H
                        have c22b0 : (t356 == x7_1) = false := beq_eq_false_iff_ne.mpr c22
                        have c22b1 : (t356 != x7_1) = true := bne_iff_ne.mpr c22
                        obtain rfl := Option.some.inj H
                        go_wp2_with (first | ((with_reducible refine gate_callee (f := 39) rfl ?_); refine goesL_ (some 60) rfl rfl Try.func39 (by kernel_rfl) rfl #[.string (x5_1.extract 0 (a1 : Int).toNat)] rfl (by (try simp only [List.map_toArray, List.map_cons, List.map_nil]); first | done | rfl | (simp only [List.length_drop, List.length_take]; rfl)) ?_; (with_reducible refine (crc_All.calls kj11 (x5_1.extract 0 (a1 : Int).toNat) t355 t356 _ A19.out).mono ?_); rintro e w30 ⟨v357, rfl, ho0, hb⟩; refine ⟨_, rfl, ?_⟩; have n0_ := Aside0.mk (Kd.R_lower ho0 (below_size (by repeat (first | (with_reducible first | exact HB.out | apply below_alloc | apply pw_below_drewN | apply below_drew1) | exact HB.out)))); have n1_ := Aside0.mk (below_step (by repeat (first | (with_reducible first | exact HB.out | apply below_alloc | apply pw_below_drewN | apply below_drew1) | exact HB.out)) hb); clear HB; have HO358 := n0_; have HB := n1_; clear n0_ n1_; (try clear hb); (try clear hb2); (try clear hk); (try clear hi); (try clear ho0)) | ((with_reducible refine gate_callee (f := 23) rfl ?_); refine goesL_ (some 63) rfl rfl Try.func23 (by kernel_rfl) rfl #[] rfl (by (try simp only [List.map_toArray, List.map_cons, List.map_nil]); first | done | rfl | (simp only [List.length_drop, List.length_take]; rfl)) ?_; (with_reducible refine (sextonlaw03_summed.calls kj11  true _ A20.out).mono ?_); rintro e w31 ⟨rfl, hb⟩; refine ⟨_, rfl, ?_⟩; have n0_ := Aside0.mk (Kd.R_below (by (with_reducible repeat (first | apply Kd.R_alloc | apply Kd.R_drewN | apply Kd.R_drew)); exact HO358.out) hb); have n1_ := Aside0.mk (below_step (by repeat (first | (with_reducible first | exact HB.out | apply below_alloc | apply pw_below_drewN | apply below_drew1) | exact HB.out)) hb); clear HO358; clear HB; have HO358 := n0_; have HB := n1_; clear n0_ n1_; (try clear hb); (try clear hb2); (try clear hk); (try clear hi)))
                        go_ret
                        exact ⟨by first | rfl | (simp [errW_none, errW_some] <;> rfl) | (simp [*, errW_none, errW_some] <;> rfl), by repeat (first | (with_reducible first | exact HB.out | apply below_alloc | apply pw_below_drewN | apply below_drew1) | exact HB.out)⟩
                    · replace c21 := Bool.eq_false_iff.mpr c21
                      subst c21
                      have H1 : (some false) = some r := by rw [if_neg (show ¬ (false = true) by decide)] at H; exact H
                      clear H
                      have H := H1
                      clear H1
                      obtain rfl := Option.some.inj H
                      go_wp2_with (first | ((with_reducible refine gate_callee (f := 39) rfl ?_); refine goesL_ (some 60) rfl rfl Try.func39 (by kernel_rfl) rfl #[.string (x5_1.extract 0 (a1 : Int).toNat)] rfl (by (try simp only [List.map_toArray, List.map_cons, List.map_nil]); first | done | rfl | (simp only [List.length_drop, List.length_take]; rfl)) ?_; (with_reducible refine (crc_All.calls kj11 (x5_1.extract 0 (a1 : Int).toNat) t355 t356 _ A19.out).mono ?_); rintro e w32 ⟨v357, rfl, ho0, hb⟩; refine ⟨_, rfl, ?_⟩; have n0_ := Aside0.mk (Kd.R_lower ho0 (below_size (by repeat (first | (with_reducible first | exact HB.out | apply below_alloc | apply pw_below_drewN | apply below_drew1) | exact HB.out)))); have n1_ := Aside0.mk (below_step (by repeat (first | (with_reducible first | exact HB.out | apply below_alloc | apply pw_below_drewN | apply below_drew1) | exact HB.out)) hb); clear HB; have HO358 := n0_; have HB := n1_; clear n0_ n1_; (try clear hb); (try clear hb2); (try clear hk); (try clear hi); (try clear ho0)) | ((with_reducible refine gate_callee (f := 23) rfl ?_); refine goesL_ (some 63) rfl rfl Try.func23 (by kernel_rfl) rfl #[] rfl (by (try simp only [List.map_toArray, List.map_cons, List.map_nil]); first | done | rfl | (simp only [List.length_drop, List.length_take]; rfl)) ?_; (with_reducible refine (sextonlaw03_summed.calls kj11  false _ A20.out).mono ?_); rintro e w33 ⟨rfl, hb⟩; refine ⟨_, rfl, ?_⟩; have n0_ := Aside0.mk (Kd.R_below (by (with_reducible repeat (first | apply Kd.R_alloc | apply Kd.R_drewN | apply Kd.R_drew)); exact HO358.out) hb); have n1_ := Aside0.mk (below_step (by repeat (first | (with_reducible first | exact HB.out | apply below_alloc | apply pw_below_drewN | apply below_drew1) | exact HB.out)) hb); clear HO358; clear HB; have HO358 := n0_; have HB := n1_; clear n0_ n1_; (try clear hb); (try clear hb2); (try clear hk); (try clear hi)))
                      go_ret
                      exact ⟨by first | rfl | (simp [errW_none, errW_some] <;> rfl) | (simp [*, errW_none, errW_some] <;> rfl), by repeat (first | (with_reducible first | exact HB.out | apply below_alloc | apply pw_below_drewN | apply below_drew1) | exact HB.out)⟩
                  · rw [if_neg c18] at H
                    exact absurd H (by simp)
                · rw [if_neg c17] at H
                  exact absurd H (by simp)

end Go.Proofs.Ytnkakhcombmdoaa.P
