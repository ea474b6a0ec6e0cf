/-
  Texts of the claim MsgBytes, joined.
-/
import Derived.Test.YtfejidinfcmfjaaPx0
import Derived.Test.YtfejidinfcmfjaaCMsgBytesa
import Derived.OwnWalk
import Derived.StillTailTactics
import Derived.Test.YtfejidinfcmfjaaWMore
import Derived.Lib.Strings
import Derived.Lib.Slices
import Derived.Lib.Walk
import Derived.Lib.Builder
import Derived.Lib.AppendStr
import Derived.Lib.UnsafeStr
import Derived.WalkKit
import Derived.Laws.Externs
import Derived.Laws.IdiomCopy
import Derived.Shelf.Strings.BuilderX
import Derived.Test.YtfejidinfcmfjaaShelf
import Derived.Test.YtfejidinfcmfjaaProg
import Derived.Laws.BytesArg
import Derived.RangeFuncNested
import Derived.RangeFuncBound
import Derived.RangeFuncCalls
import Derived.RangeFuncLeaves
import Derived.RangeFuncBox
import Derived.Shelf.Abstract
import Derived.Shelf.RegionOpen
import Derived.OwnWalkIn
import Derived.TacticsInMore
import Derived.LoopNIn
import Derived.LoopIn
import Derived.Maps.AppendAt
import Derived.Outline
import Derived.Laws.OwnMore
import Derived.LoopTactic
import Derived.IntWalk
import Derived.Deep.QuietTactic
import Derived.BigQuiet
import Derived.Laws.BitsLemmas
import Derived.Laws.Slices
import Derived.WalkSpells
-- Written by a program of this session (xprint.py) over the kit's print.py.
namespace Go.Proofs.Ytfejidinfcmfjaa.P
open Go.RowKit Go.Proofs.YtfejidinfcmfjaaW.PrintWords Go.Proofs.YtfejidinfcmfjaaW.PrintLast Go.Proofs.YtfejidinfcmfjaaW.PrintMore
attribute [local go_sem] max2_int min2_int max_two min_two max_three min_three max_four min_four   -- for this text's walks alone
set_option linter.unusedVariables false
set_option linter.unusedSimpArgs false

/-! ### sextonref01_Row: function 63 -/
def sextonref01_Row.l0 : Nat → List ByteArray → ByteArray → Int → Option (ByteArray × Int)
  | 0, _, _, _ => none
  | k + 1, x0, x4, x6 => if x6 < (x0.length : Int) then (if 0 ≤ x6 then ((sextonref01_Text.f k (rdOf ByteArray.empty x0 x6)).bind fun bt344 => (if bt344.2 = 0 then (if x4.size + bt344.1.size ≤ 9223372036854775807 then (sextonref01_Row.l0 k x0 (x4 ++ bt344.1) (wrap64 (x6 + 1))) else (none)) else (some ((⟨#[]⟩ : ByteArray), bt344.2)))) else (none)) else (some (x4, 0))
def sextonref01_Row.f (k : Nat) (l0 : List ByteArray) : Option (ByteArray × Int) := if (l0.length : Int) > 1000 then (some ((⟨#[]⟩ : ByteArray), 2)) else ((sextonref01_Number.f k (l0.length : Int)).bind fun bt341 => (sextonref01_Row.l0 k l0 bt341.1 0))
theorem sextonref01_Row.mono_l : ∀ k, (∀ y0 y1 y2, LeO (sextonref01_Row.l0 k y0 y1 y2) (sextonref01_Row.l0 (k + 1) y0 y1 y2))
  | 0 => fun _ _ _ r h => by simp [sextonref01_Row.l0] at h
  | k + 1 => by
    have ih0 := sextonref01_Row.mono_l k
    · intro y0 y1 y2
      unfold sextonref01_Row.l0
      repeat' first
      | (with_reducible exact ih0 _ _ _)
      | (with_reducible exact sextonref01_Number.mono _ _)
      | (with_reducible exact sextonref01_Text.mono _ _)
      | (with_reducible exact LeO.refl _)
      | (with_reducible exact LeO.none _)
      | (with_reducible refine LeO.ite ?_ ?_)
      | (with_reducible refine LeO.bind ?_ (fun _ => ?_))
      | exact ih0 _ _ _
      | exact sextonref01_Number.mono _ _
      | exact sextonref01_Text.mono _ _
      | exact LeO.none _
      | refine LeO.ite ?_ ?_
      | refine LeO.bind ?_ (fun _ => ?_)
theorem sextonref01_Row.mono : ∀ a0 k, LeO (sextonref01_Row.f k a0) (sextonref01_Row.f (k + 1) a0) := by
  intro a0 k
  have ih0 := sextonref01_Row.mono_l k
  unfold sextonref01_Row.f
  repeat' first
      | (with_reducible exact ih0 _ _ _)
      | (with_reducible exact sextonref01_Number.mono _ _)
      | (with_reducible exact sextonref01_Text.mono _ _)
      | (with_reducible exact LeO.refl _)
      | (with_reducible exact LeO.none _)
      | (with_reducible refine LeO.ite ?_ ?_)
      | (with_reducible refine LeO.bind ?_ (fun _ => ?_))
      | exact ih0 _ _ _
      | exact sextonref01_Number.mono _ _
      | exact sextonref01_Text.mono _ _
      | exact LeO.none _
      | refine LeO.ite ?_ ?_
      | refine LeO.bind ?_ (fun _ => ?_)
set_option maxHeartbeats 8000000 in
set_option maxRecDepth 100000 in
theorem sextonref01_Row.calls (k : Nat) (A0 : Option Addr) (c0 : Nat) (l0 : List ByteArray) (r1 : ByteArray) (r2 : Int) (w : World) (hr0 : Kd.C Kd.string w A0 l0.length l0) (hc0 : l0.length ≤ c0) (h : sextonref01_Row.f k l0 = some (r1, r2)) :
    Calls Try.prog 63 #[.slice A0 l0.length c0] w fun e w' => e = .returned (.tuple #[.string r1, .int .i64 r2]) ∧ Below w.heap.size w w' := by
  have HR0 := Aside0.mk hr0
  have HC0 := Aside0.mk hc0
  clear hr0 hc0
  have HB := Aside0.mk (Below.refl w.heap.size w)
  have H : (if (l0.length : Int) > 1000 then (some ((⟨#[]⟩ : ByteArray), 2)) else ((sextonref01_Number.f k (l0.length : Int)).bind fun bt341 => (sextonref01_Row.l0 k l0 bt341.1 0))) = some (r1, r2) := h
  clear h
  by_cases c2 : (l0.length : Int) > 1000
  · rw [if_pos c2] at H
    have c2b0 : decide (1000 < (l0.length : Int)) = true := decide_eq_true c2
    have c2b1 : decide (1000 < l0.length) = true := decide_eq_true (by omega)
    clear c2
    simp only [Option.some.injEq, Prod.mk.injEq] at H
    obtain ⟨rfl, rfl⟩ := H
    go_enter Try.func63, Try.ntmps63
    go_wp2
    go_ret2
    exact ⟨by first | rfl | (simp [errW_none, errW_some] <;> rfl) | (simp [*, errW_none, errW_some] <;> rfl), by repeat (first | (with_reducible first | exact HB.out | apply below_alloc | apply pw_below_drewN | apply below_drew1) | exact HB.out)⟩
  · rw [if_neg c2] at H
    have c2b0 : decide (1000 < (l0.length : Int)) = false := decide_eq_false c2
    have c2b1 : decide (1000 < l0.length) = false := decide_eq_false (by omega)
    clear c2
    replace H := Option.bind_eq_some_iff.mp H
    obtain ⟨⟨t341, t342⟩, A30, H⟩ := H
    replace H : (sextonref01_Row.l0 k l0 t341 0) = some (r1, r2) := H
    have A3 := Aside0.mk A30
    clear A30
    have H' := Aside0.mk H
    clear H
    go_enter Try.func63, Try.ntmps63
    go_wp2_with (first | ((with_reducible refine gate_callee (f := 62) rfl ?_); refine goesL_ (some 15) rfl rfl Try.func62 (by kernel_rfl) rfl #[.int .i64 (l0.length : Int)] rfl (by (try simp only [List.map_toArray, List.map_cons, List.map_nil]); first | done | rfl | (simp only [List.length_drop, List.length_take]; rfl)) ?_; (with_reducible refine (sextonref01_Number.calls k (l0.length : Int) t341 t342 _ A3.out).mono ?_); rintro e w4 ⟨rfl, hb⟩; refine ⟨_, rfl, ?_⟩; have n0_ := Aside0.mk (below_step (by repeat (first | (with_reducible first | exact HB.out | apply below_alloc | apply pw_below_drewN | apply below_drew1) | exact HB.out)) hb); clear HB; have HB := n0_; clear n0_; (try clear hb); (try clear hb2); (try clear hk); (try clear hi)))
    go_loopg [4, 6] k (fun kq v4 v6 w' => ∃ (x4_1 : ByteArray) (x6_1 : Int), v4 = .string x4_1 ∧ v6 = .int .i64 x6_1 ∧ Aside0 (sextonref01_Row.l0 kq l0 x4_1 x6_1 = some (r1, r2)) ∧ Aside0 (kq ≤ k) ∧ Aside0 (Below w.heap.size w w'))
    case atStart => exact ⟨(t341), (0), (by first | rfl | (simp; done) | (simp [*]; done)), (by first | rfl | (simp; done) | (simp [*]; done)), H', ⟨Nat.le_refl _⟩, ⟨by repeat (first | (with_reducible first | exact HB.out | apply below_alloc | apply pw_below_drewN | apply below_drew1) | exact HB.out)⟩⟩
    case round =>
      clear H'
      try clear c2
      try clear c2b0
      try clear c2b1
      try clear p2
      obtain ⟨x4_1, x6_1, rfl, rfl, HA, HK1, HB⟩ := hrel
      cases gk with
      | zero => exact absurd HA.out (by simp [sextonref01_Row.l0])
      | succ k1 =>
        have H := HA.out
        clear HA
        simp only [sextonref01_Row.l0] at H
        by_cases c5 : x6_1 < (l0.length : Int)
        · rw [if_pos c5] at H
          have c5b0 : decide (x6_1 < (l0.length : Int)) = true := decide_eq_true c5
          clear c5
          by_cases c6 : 0 ≤ x6_1
          · rw [if_pos c6] at H
            have c6b0 : decide (0 ≤ x6_1) = true := decide_eq_true c6
            clear c6
            replace H := Option.bind_eq_some_iff.mp H
            obtain ⟨⟨t344, t345⟩, A70, H⟩ := H
            replace H : (if t345 = 0 then (if x4_1.size + t344.size ≤ 9223372036854775807 then (sextonref01_Row.l0 k1 l0 (x4_1 ++ t344) (wrap64 (x6_1 + 1))) else (none)) else (some ((⟨#[]⟩ : ByteArray), t345))) = some (r1, r2) := H
            have A7 := Aside0.mk A70
            clear A70
            by_cases c8 : t345 = 0
            · rw [if_pos c8] at H
              have c8b0 : (t345 == 0) = true := beq_iff_eq.mpr c8
              have c8b1 : (t345 != 0) = false := bne_eq_false_iff_eq.mpr c8
              clear c8
              by_cases c9 : x4_1.size + t344.size ≤ 9223372036854775807
              · rw [if_pos c9] at H
                have c9b0 := eq_true c9
                have c9b1 : decide (x4_1.size + t344.size ≤ 9223372036854775807) = true := decide_eq_true c9
                try have c9b2 : (9223372036854775807 < x4_1.size + t344.size) = False := eq_false (Nat.not_lt.2 c9)
                have H' := Aside0.mk H
                clear H
                have p343 : 0 ≤ (x6_1 : Int) := of_decide_eq_true (by first | (with_reducible assumption) | assumption)
                have q343 : x6_1 < (l0.length : Int) := of_decide_eq_true (by first | (with_reducible assumption) | assumption)
                obtain ⟨ad343, e343, hx343_0⟩ := Kd.at_string HR0.out x6_1 p343 q343
                cases e343
                replace hx343_0 := (HB.out.cell (World.block_lt_of_cell? w _ hx343_0)).trans hx343_0
                replace p343 := eq_true p343
                replace q343 := eq_true q343
                go_wp2_with (first | ((with_reducible refine gate_callee (f := 80) rfl ?_); refine goesL_ (some 29) rfl rfl Try.func80 (by kernel_rfl) rfl #[.string (rdOf ByteArray.empty l0 x6_1)] rfl (by (try simp only [List.map_toArray, List.map_cons, List.map_nil]); first | done | rfl | (simp only [List.length_drop, List.length_take]; rfl)) ?_; (with_reducible refine (sextonref01_Text.calls k1 (rdOf ByteArray.empty l0 x6_1) t344 t345 _ A7.out).mono ?_); rintro e w10 ⟨rfl, hb⟩; refine ⟨_, rfl, ?_⟩; have n0_ := Aside0.mk (below_step (by repeat (first | (with_reducible first | exact HB.out | apply below_alloc | apply pw_below_drewN | apply below_drew1) | exact HB.out)) hb); clear HB; have HB := n0_; clear n0_; (try clear hb); (try clear hb2); (try clear hk); (try clear hi)))
                go_roundg k1
                case measure => have := HK1.out; omega
                case rel => exact ⟨(x4_1 ++ t344), (wrap64 (x6_1 + 1)), (by first | rfl | (simp; done) | (simp [*]; done)), (by first | rfl | (simp; done) | (simp [*]; done)), H', ⟨by have := HK1.out; omega⟩, ⟨by repeat (first | (with_reducible first | exact HB.out | apply below_alloc | apply pw_below_drewN | apply below_drew1) | exact HB.out)⟩⟩
              · rw [if_neg c9] at H
                exact absurd H (by simp)
            · rw [if_neg c8] at H
              have c8b0 : (t345 == 0) = false := beq_eq_false_iff_ne.mpr c8
              have c8b1 : (t345 != 0) = true := bne_iff_ne.mpr c8
              simp only [Option.some.injEq, Prod.mk.injEq] at H
              obtain ⟨rfl, rfl⟩ := H
              have p343 : 0 ≤ (x6_1 : Int) := of_decide_eq_true (by first | (with_reducible assumption) | assumption)
              have q343 : x6_1 < (l0.length : Int) := of_decide_eq_true (by first | (with_reducible assumption) | assumption)
              obtain ⟨ad343, e343, hx343_0⟩ := Kd.at_string HR0.out x6_1 p343 q343
              cases e343
              replace hx343_0 := (HB.out.cell (World.block_lt_of_cell? w _ hx343_0)).trans hx343_0
              replace p343 := eq_true p343
              replace q343 := eq_true q343
              go_wp2_with (first | ((with_reducible refine gate_callee (f := 80) rfl ?_); refine goesL_ (some 29) rfl rfl Try.func80 (by kernel_rfl) rfl #[.string (rdOf ByteArray.empty l0 x6_1)] rfl (by (try simp only [List.map_toArray, List.map_cons, List.map_nil]); first | done | rfl | (simp only [List.length_drop, List.length_take]; rfl)) ?_; (with_reducible refine (sextonref01_Text.calls k1 (rdOf ByteArray.empty l0 x6_1) t344 t345 _ A7.out).mono ?_); rintro e w11 ⟨rfl, hb⟩; refine ⟨_, rfl, ?_⟩; have n0_ := Aside0.mk (below_step (by repeat (first | (with_reducible first | exact HB.out | apply below_alloc | apply pw_below_drewN | apply below_drew1) | exact HB.out)) hb); clear HB; have HB := n0_; clear n0_; (try clear hb); (try clear hb2); (try clear hk); (try clear hi)))
              go_ret2
              exact ⟨by first | rfl | (simp [errW_none, errW_some] <;> rfl) | (simp [*, errW_none, errW_some] <;> rfl), by repeat (first | (with_reducible first | exact HB.out | apply below_alloc | apply pw_below_drewN | apply below_drew1) | exact HB.out)⟩
          · rw [if_neg c6] at H
            exact absurd H (by simp)
        · rw [if_neg c5] at H
          have c5b0 : decide (x6_1 < (l0.length : Int)) = false := decide_eq_false c5
          clear c5
          simp only [Option.some.injEq, Prod.mk.injEq] at H
          obtain ⟨rfl, rfl⟩ := H
          go_wp2
          go_ret2
          exact ⟨by first | rfl | (simp [errW_none, errW_some] <;> rfl) | (simp [*, errW_none, errW_some] <;> rfl), by repeat (first | (with_reducible first | exact HB.out | apply below_alloc | apply pw_below_drewN | apply below_drew1) | exact HB.out)⟩

end Go.Proofs.Ytfejidinfcmfjaa.P
-- Written by a program of this session (xprint.py) over the kit's print.py.
namespace Go.Proofs.Ytfejidinfcmfjaa.P
open Go.RowKit Go.Proofs.YtfejidinfcmfjaaW.PrintWords Go.Proofs.YtfejidinfcmfjaaW.PrintLast Go.Proofs.YtfejidinfcmfjaaW.PrintMore
attribute [local go_sem] max2_int min2_int max_two min_two max_three min_three max_four min_four   -- for this text's walks alone
set_option linter.unusedVariables false
set_option linter.unusedSimpArgs false

/-! ### sextonref23_Put: function 32 -/
def sextonref23_Put.l0 : Nat → List Int → ByteArray → Int → Int → Int → Int → Int → Int → Int → Int → List ByteArray → Option (ByteArray × Int)
  | 0, _, _, _, _, _, _, _, _, _, _, _ => none
  | k + 1, x4, x5, x6, x347000, x347001, x347002, x347003, x347004, x347005, x347006, x347007 => if x6 < (x4.length : Int) then (if 0 ≤ x6 then ((sextonref01_Number.f k (rd x4 x6)).bind fun bt352 => (if x5.size + bt352.1.size ≤ 9223372036854775807 then (sextonref23_Put.l0 k x4 (x5 ++ bt352.1) (wrap64 (x6 + 1)) x347000 x347001 x347002 x347003 x347004 x347005 x347006 x347007) else (none))) else (none)) else ((sextonref01_Row.f k x347007).bind fun bt354 => (if x5.size + bt354.1.size ≤ 9223372036854775807 then (some (x5 ++ bt354.1, 0)) else (none)))
def sextonref23_Put.f (k : Nat) (a0_0 : Int) (a0_1 : Int) (a0_2 : Int) (a0_3 : Int) (a0_4 : Int) (a0_5 : Int) (a0_6 : Int) (l0_7 : List ByteArray) : Option (ByteArray × Int) := (sextonref23_Is.f k a0_0 a0_1 a0_2 a0_3 a0_4 a0_5 a0_6 l0_7).bind fun t347 => (if t347 = true then (sextonref23_Put.l0 k (([a0_0, a0_1, a0_2, a0_3, a0_4, a0_5, a0_6] : List Int)) (⟨#[]⟩ : ByteArray) 0 a0_0 a0_1 a0_2 a0_3 a0_4 a0_5 a0_6 l0_7) else (some ((⟨#[]⟩ : ByteArray), 1)))
theorem sextonref23_Put.mono_l : ∀ k, (∀ y0 y1 y2 y3 y4 y5 y6 y7 y8 y9 y10, LeO (sextonref23_Put.l0 k y0 y1 y2 y3 y4 y5 y6 y7 y8 y9 y10) (sextonref23_Put.l0 (k + 1) y0 y1 y2 y3 y4 y5 y6 y7 y8 y9 y10))
  | 0 => fun _ _ _ _ _ _ _ _ _ _ _ r h => by simp [sextonref23_Put.l0] at h
  | k + 1 => by
    have ih0 := sextonref23_Put.mono_l k
    · intro y0 y1 y2 y3 y4 y5 y6 y7 y8 y9 y10
      unfold sextonref23_Put.l0
      repeat' first
      | (with_reducible exact ih0 _ _ _ _ _ _ _ _ _ _ _)
      | (with_reducible exact sextonref01_Number.mono _ _)
      | (with_reducible exact sextonref01_Row.mono _ _)
      | (with_reducible exact sextonref23_Is.mono _ _ _ _ _ _ _ _ _)
      | (with_reducible exact LeO.refl _)
      | (with_reducible exact LeO.none _)
      | (with_reducible refine LeO.ite ?_ ?_)
      | (with_reducible refine LeO.bind ?_ (fun _ => ?_))
      | exact ih0 _ _ _ _ _ _ _ _ _ _ _
      | exact sextonref01_Number.mono _ _
      | exact sextonref01_Row.mono _ _
      | exact sextonref23_Is.mono _ _ _ _ _ _ _ _ _
      | exact LeO.none _
      | refine LeO.ite ?_ ?_
      | refine LeO.bind ?_ (fun _ => ?_)
theorem sextonref23_Put.mono : ∀ a0 a1 a2 a3 a4 a5 a6 a7 k, LeO (sextonref23_Put.f k a0 a1 a2 a3 a4 a5 a6 a7) (sextonref23_Put.f (k + 1) a0 a1 a2 a3 a4 a5 a6 a7) := by
  intro a0 a1 a2 a3 a4 a5 a6 a7 k
  have ih0 := sextonref23_Put.mono_l k
  unfold sextonref23_Put.f
  repeat' first
      | (with_reducible exact ih0 _ _ _ _ _ _ _ _ _ _ _)
      | (with_reducible exact sextonref01_Number.mono _ _)
      | (with_reducible exact sextonref01_Row.mono _ _)
      | (with_reducible exact sextonref23_Is.mono _ _ _ _ _ _ _ _ _)
      | (with_reducible exact LeO.refl _)
      | (with_reducible exact LeO.none _)
      | (with_reducible refine LeO.ite ?_ ?_)
      | (with_reducible refine LeO.bind ?_ (fun _ => ?_))
      | exact ih0 _ _ _ _ _ _ _ _ _ _ _
      | exact sextonref01_Number.mono _ _
      | exact sextonref01_Row.mono _ _
      | exact sextonref23_Is.mono _ _ _ _ _ _ _ _ _
      | exact LeO.none _
      | refine LeO.ite ?_ ?_
      | refine LeO.bind ?_ (fun _ => ?_)
set_option maxHeartbeats 8000000 in
set_option maxRecDepth 100000 in
theorem sextonref23_Put.calls (k : Nat) (a0_0 : Int) (a0_1 : Int) (a0_2 : Int) (a0_3 : Int) (a0_4 : Int) (a0_5 : Int) (a0_6 : Int) (A0_7 : Option Addr) (c0_7 : Nat) (l0_7 : List ByteArray) (r1 : ByteArray) (r2 : Int) (w : World) (hr0_7 : Kd.C Kd.string w A0_7 l0_7.length l0_7) (hc0_7 : l0_7.length ≤ c0_7) (h : sextonref23_Put.f k a0_0 a0_1 a0_2 a0_3 a0_4 a0_5 a0_6 l0_7 = some (r1, r2)) :
    Calls Try.prog 32 #[.agg #[.int .i64 a0_0, .int .i64 a0_1, .int .i64 a0_2, .int .i64 a0_3, .int .i64 a0_4, .int .i64 a0_5, .int .i64 a0_6, .slice A0_7 l0_7.length c0_7]] w fun e w' => e = .returned (.tuple #[.string r1, .int .i64 r2]) ∧ Below w.heap.size w w' := by
  have hu29 := Try.underlying29
  have HR0_7 := Aside0.mk hr0_7
  have HC0_7 := Aside0.mk hc0_7
  clear hr0_7 hc0_7
  have HB := Aside0.mk (Below.refl w.heap.size w)
  have H : ((sextonref23_Is.f k a0_0 a0_1 a0_2 a0_3 a0_4 a0_5 a0_6 l0_7).bind fun t347 => (if t347 = true then (sextonref23_Put.l0 k (([a0_0, a0_1, a0_2, a0_3, a0_4, a0_5, a0_6] : List Int)) (⟨#[]⟩ : ByteArray) 0 a0_0 a0_1 a0_2 a0_3 a0_4 a0_5 a0_6 l0_7) else (some ((⟨#[]⟩ : ByteArray), 1)))) = some (r1, r2) := h
  clear h
  replace H := Option.bind_eq_some_iff.mp H
  obtain ⟨t347, A20, H⟩ := H
  replace H : (if t347 = true then (sextonref23_Put.l0 k (([a0_0, a0_1, a0_2, a0_3, a0_4, a0_5, a0_6] : List Int)) (⟨#[]⟩ : ByteArray) 0 a0_0 a0_1 a0_2 a0_3 a0_4 a0_5 a0_6 l0_7) else (some ((⟨#[]⟩ : ByteArray), 1))) = some (r1, r2) := H
  have A2 := Aside0.mk A20
  clear A20
  by_cases c3 : t347 = true
  · subst c3
    have H1 : (sextonref23_Put.l0 k (([a0_0, a0_1, a0_2, a0_3, a0_4, a0_5, a0_6] : List Int)) (⟨#[]⟩ : ByteArray) 0 a0_0 a0_1 a0_2 a0_3 a0_4 a0_5 a0_6 l0_7) = some (r1, r2) := by rw [if_pos rfl] at H; exact H
    clear H
    have H := H1
    clear H1
    obtain ⟨y348, hy348⟩ : ∃ y_ : List Int, y_ = (([a0_0, a0_1, a0_2, a0_3, a0_4, a0_5, a0_6] : List Int)) := ⟨_, rfl⟩
    replace H : (sextonref23_Put.l0 k y348 (⟨#[]⟩ : ByteArray) 0 a0_0 a0_1 a0_2 a0_3 a0_4 a0_5 a0_6 l0_7) = some (r1, r2) := by first | (rw [hy348]; with_reducible exact H) | (have H2_ := (Option.bind_some _ _).symm.trans H; rw [hy348]; with_reducible exact H2_) | (have H2_ := (Option.bind_some _ _).symm.trans H; with_reducible exact H2_) | with_reducible exact H | (rw [hy348]; exact H) | exact H
    have Ny348 := Aside0.mk hy348
    clear hy348
    have H' := Aside0.mk H
    clear H
    go_enter Try.func32, Try.ntmps32
    go_wp2_with (first | ((with_reducible refine gate_dst (N := 1) rfl ?_); refine box_event ?hg (N := 1) ?hd (cs := #[.int .i64 a0_0, .int .i64 a0_1, .int .i64 a0_2, .int .i64 a0_3, .int .i64 a0_4, .int .i64 a0_5, .int .i64 a0_6, .slice A0_7 l0_7.length c0_7]) (t := 29) ?hr ?_; (case hd => rfl); (case hg => rfl); (case hr => first | (go_simp; done) | (go_simp; rfl)); intro gb346 hg w4 hbox hb; have n0_ := Aside0.mk (below_step (by repeat (first | (with_reducible first | exact HB.out | apply below_alloc | apply pw_below_drewN | apply below_drew1) | exact HB.out)) hb); have n1_ := Aside0.mk (hbox); have n2_ := Aside0.mk ((by rw [hg]; exact (below_size (by repeat (first | (with_reducible first | exact HB.out | apply below_alloc | apply pw_below_drewN | apply below_drew1) | exact HB.out))) : w.heap.size ≤ gb346)); have n3_ := Aside0.mk ((by rw [hg]; exact (below_size (by repeat (first | (with_reducible first | exact HB.out | apply below_alloc | apply pw_below_drewN | apply below_drew1) | exact HB.out))) : w.heap.size ≤ gb346)); clear HB; have HB := n0_; have BK346 := n1_; have GW346 := n2_; have GE346 := n3_; clear n0_ n1_ n2_ n3_; clear hb hbox hg; have hcz5_0 : w4.cell? ⟨gb346, 0, none⟩ = some (.int .i64 a0_0) := (blk_cell BK346.out 0).trans rfl; have hcz5_1 : w4.cell? ⟨gb346, 1, none⟩ = some (.int .i64 a0_1) := (blk_cell BK346.out 1).trans rfl; have hcz5_2 : w4.cell? ⟨gb346, 2, none⟩ = some (.int .i64 a0_2) := (blk_cell BK346.out 2).trans rfl; have hcz5_3 : w4.cell? ⟨gb346, 3, none⟩ = some (.int .i64 a0_3) := (blk_cell BK346.out 3).trans rfl; have hcz5_4 : w4.cell? ⟨gb346, 4, none⟩ = some (.int .i64 a0_4) := (blk_cell BK346.out 4).trans rfl; have hcz5_5 : w4.cell? ⟨gb346, 5, none⟩ = some (.int .i64 a0_5) := (blk_cell BK346.out 5).trans rfl; have hcz5_6 : w4.cell? ⟨gb346, 6, none⟩ = some (.int .i64 a0_6) := (blk_cell BK346.out 6).trans rfl; have hcz5_7 : w4.cell? ⟨gb346, 7, none⟩ = some (.slice A0_7 l0_7.length c0_7) := (blk_cell BK346.out 7).trans rfl; have hfz5_0 := blk_frozen BK346.out 0; have hfz5_1 := blk_frozen BK346.out 1; have hfz5_2 := blk_frozen BK346.out 2; have hfz5_3 := blk_frozen BK346.out 3; have hfz5_4 := blk_frozen BK346.out 4; have hfz5_5 := blk_frozen BK346.out 5; have hfz5_6 := blk_frozen BK346.out 6; have hfz5_7 := blk_frozen BK346.out 7) | ((with_reducible refine gate_callee (f := 37) rfl ?_); refine goesL_ (some 12) rfl rfl Try.func37 (by kernel_rfl) rfl #[.agg #[.int .i64 a0_0, .int .i64 a0_1, .int .i64 a0_2, .int .i64 a0_3, .int .i64 a0_4, .int .i64 a0_5, .int .i64 a0_6, .slice A0_7 l0_7.length c0_7]] rfl (by (try simp only [List.map_toArray, List.map_cons, List.map_nil]); first | done | rfl | (simp only [List.length_drop, List.length_take]; rfl)) ?_; (with_reducible refine (sextonref23_Is.calls k a0_0 a0_1 a0_2 a0_3 a0_4 a0_5 a0_6 _ _ l0_7 true _ ?side1 ?side2 A2.out).mono ?_); (case side1 => repeat (first | exact (Kd.C_below HR0_7.out HB.out) | (with_reducible refine Kd.C_alloc ?_ _) | (with_reducible refine Kd.C_drewN ?_ _) | (with_reducible refine Kd.C_drew ?_))); (case side2 => exact HC0_7.out); rintro e w6 ⟨rfl, hb⟩; refine ⟨_, rfl, ?_⟩; have n0_ := Aside0.mk (blk_below (g := gb346) (o := .cells #[.int .i64 a0_0, .int .i64 a0_1, .int .i64 a0_2, .int .i64 a0_3, .int .i64 a0_4, .int .i64 a0_5, .int .i64 a0_6, .slice A0_7 l0_7.length c0_7] 29 (0, 0)) (by (with_reducible repeat (first | refine blk_drewN ?_ _ | refine blk_drew ?_ | refine blk_alloc ?_ _)); exact BK346.out) hb); have n1_ := Aside0.mk (below_step (by repeat (first | (with_reducible first | exact HB.out | apply below_alloc | apply pw_below_drewN | apply below_drew1 | refine below_set ?_ GE346.out) | exact HB.out)) hb); clear BK346; clear HB; have BK346 := n0_; have HB := n1_; clear n0_ n1_; (try clear hb); (try clear hb2); (try clear hk); (try clear hi); have hcz7_0 : w6.cell? ⟨gb346, 0, none⟩ = some (.int .i64 a0_0) := (blk_cell BK346.out 0).trans rfl; have hcz7_1 : w6.cell? ⟨gb346, 1, none⟩ = some (.int .i64 a0_1) := (blk_cell BK346.out 1).trans rfl; have hcz7_2 : w6.cell? ⟨gb346, 2, none⟩ = some (.int .i64 a0_2) := (blk_cell BK346.out 2).trans rfl; have hcz7_3 : w6.cell? ⟨gb346, 3, none⟩ = some (.int .i64 a0_3) := (blk_cell BK346.out 3).trans rfl; have hcz7_4 : w6.cell? ⟨gb346, 4, none⟩ = some (.int .i64 a0_4) := (blk_cell BK346.out 4).trans rfl; have hcz7_5 : w6.cell? ⟨gb346, 5, none⟩ = some (.int .i64 a0_5) := (blk_cell BK346.out 5).trans rfl; have hcz7_6 : w6.cell? ⟨gb346, 6, none⟩ = some (.int .i64 a0_6) := (blk_cell BK346.out 6).trans rfl; have hcz7_7 : w6.cell? ⟨gb346, 7, none⟩ = some (.slice A0_7 l0_7.length c0_7) := (blk_cell BK346.out 7).trans rfl; have hfz7_0 := blk_frozen BK346.out 0; have hfz7_1 := blk_frozen BK346.out 1; have hfz7_2 := blk_frozen BK346.out 2; have hfz7_3 := blk_frozen BK346.out 3; have hfz7_4 := blk_frozen BK346.out 4; have hfz7_5 := blk_frozen BK346.out 5; have hfz7_6 := blk_frozen BK346.out 6; have hfz7_7 := blk_frozen BK346.out 7) | ((with_reducible refine gate_dst (N := 28) rfl ?_); refine Kd.R_lit (Kd.int .i64) _ 3 ?hg (N := 28) ?hd (xs := ([a0_0, a0_1, a0_2, a0_3, a0_4, a0_5, a0_6] : List Int)) (inner := [.int .i64 a0_0, .int .i64 a0_1, .int .i64 a0_2, .int .i64 a0_3, .int .i64 a0_4, .int .i64 a0_5, .int .i64 a0_6]) (ok := fun _ => True) (okp := fun _ => True) ?hr ?hp (fun _ hk => hk) trivial (Below.refl _ _) (Nat.le_refl _) (by simp) ?_; (case hd => rfl); (case hg => rfl); (case hr => first | (go_simp; done) | (go_simp; rfl)); (case hp => exact (Reps.one (show Kd.M (Kd.int .i64) _ _ _ a0_0 [.int .i64 a0_0] from rfl) (Reps.one (show Kd.M (Kd.int .i64) _ _ _ a0_1 [.int .i64 a0_1] from rfl) (Reps.one (show Kd.M (Kd.int .i64) _ _ _ a0_2 [.int .i64 a0_2] from rfl) (Reps.one (show Kd.M (Kd.int .i64) _ _ _ a0_3 [.int .i64 a0_3] from rfl) (Reps.one (show Kd.M (Kd.int .i64) _ _ _ a0_4 [.int .i64 a0_4] from rfl) (Reps.one (show Kd.M (Kd.int .i64) _ _ _ a0_5 [.int .i64 a0_5] from rfl) (Reps.one (show Kd.M (Kd.int .i64) _ _ _ a0_6 [.int .i64 a0_6] from rfl) (Reps.none _ _))))))))); intro v349 w8 ho9 hb hg_ hnew_; clear hg_ hnew_; (first | rw [← Ny348.out] at ho9 | (simp only [Int.reduceToNat] at ho9; rw [← Ny348.out] at ho9)); have n0_ := Aside0.mk (Kd.R_lower ho9 (below_size (by repeat (first | (with_reducible first | exact HB.out | apply below_alloc | apply pw_below_drewN | apply below_drew1 | refine below_set ?_ GE346.out) | exact HB.out)))); have n1_ := Aside0.mk (blk_below (g := gb346) (o := .cells #[.int .i64 a0_0, .int .i64 a0_1, .int .i64 a0_2, .int .i64 a0_3, .int .i64 a0_4, .int .i64 a0_5, .int .i64 a0_6, .slice A0_7 l0_7.length c0_7] 29 (0, 0)) (by (with_reducible repeat (first | refine blk_drewN ?_ _ | refine blk_drew ?_ | refine blk_alloc ?_ _)); exact BK346.out) hb); have n2_ := Aside0.mk (below_step (by repeat (first | (with_reducible first | exact HB.out | apply below_alloc | apply pw_below_drewN | apply below_drew1 | refine below_set ?_ GE346.out) | exact HB.out)) hb); clear BK346; clear HB; have HO350 := n0_; have BK346 := n1_; have HB := n2_; clear n0_ n1_ n2_; clear hb ho9))
    go_loopg [5, 6] k (fun kq v5 v6 w' => ∃ (x5_1 : ByteArray) (x6_1 : Int), v5 = .string x5_1 ∧ v6 = .int .i64 x6_1 ∧ Aside0 (sextonref23_Put.l0 kq y348 x5_1 x6_1 a0_0 a0_1 a0_2 a0_3 a0_4 a0_5 a0_6 l0_7 = some (r1, r2)) ∧ Aside0 (kq ≤ k) ∧ Aside0 (Kd.R (Kd.int .i64) 3 w' w.heap.size (fun _ => True) v349 y348) ∧ Aside0 (w'.heap[gb346]? = some (.cells #[.int .i64 a0_0, .int .i64 a0_1, .int .i64 a0_2, .int .i64 a0_3, .int .i64 a0_4, .int .i64 a0_5, .int .i64 a0_6, (.slice A0_7 l0_7.length c0_7)] 29 (0, 0))) ∧ Aside0 (Below w.heap.size w w'))
    case atStart => exact ⟨((⟨#[]⟩ : ByteArray)), (0), (by first | rfl | (simp; done) | (simp [*]; done)), (by first | rfl | (simp; done) | (simp [*]; done)), H', ⟨Nat.le_refl _⟩, ⟨by (with_reducible repeat (first | apply Kd.R_alloc | apply Kd.R_drewN | apply Kd.R_drew)); exact HO350.out⟩, ⟨by (with_reducible repeat (first | refine blk_drewN ?_ _ | refine blk_drew ?_ | refine blk_alloc ?_ _)); exact BK346.out⟩, ⟨by repeat (first | (with_reducible first | exact HB.out | apply below_alloc | apply pw_below_drewN | apply below_drew1 | refine below_set ?_ GE346.out) | exact HB.out)⟩⟩
    case round =>
      clear H'
      try clear p2
      try clear c3
      try clear hcz5_0
      try clear hcz5_1
      try clear hcz5_2
      try clear hcz5_3
      try clear hcz5_4
      try clear hcz5_5
      try clear hcz5_6
      try clear hcz5_7
      try clear hcz7_0
      try clear hcz7_1
      try clear hcz7_2
      try clear hcz7_3
      try clear hcz7_4
      try clear hcz7_5
      try clear hcz7_6
      try clear hcz7_7
      try clear hfz5_0
      try clear hfz5_1
      try clear hfz5_2
      try clear hfz5_3
      try clear hfz5_4
      try clear hfz5_5
      try clear hfz5_6
      try clear hfz5_7
      try clear hfz7_0
      try clear hfz7_1
      try clear hfz7_2
      try clear hfz7_3
      try clear hfz7_4
      try clear hfz7_5
      try clear hfz7_6
      try clear hfz7_7
      obtain ⟨x5_1, x6_1, rfl, rfl, HA, HK1, HO_4, BK346, HB⟩ := hrel
      cases gk with
      | zero => exact absurd HA.out (by simp [sextonref23_Put.l0])
      | succ k1 =>
        have H := HA.out
        clear HA
        simp only [sextonref23_Put.l0] at H
        by_cases c10 : x6_1 < (y348.length : Int)
        · rw [if_pos c10] at H
          have c10b0 : decide (x6_1 < (y348.length : Int)) = true := decide_eq_true c10
          clear c10
          by_cases c11 : 0 ≤ x6_1
          · rw [if_pos c11] at H
            have c11b0 : decide (0 ≤ x6_1) = true := decide_eq_true c11
            clear c11
            replace H := Option.bind_eq_some_iff.mp H
            obtain ⟨⟨t352, t353⟩, A120, H⟩ := H
            replace H : (if x5_1.size + t352.size ≤ 9223372036854775807 then (sextonref23_Put.l0 k1 y348 (x5_1 ++ t352) (wrap64 (x6_1 + 1)) a0_0 a0_1 a0_2 a0_3 a0_4 a0_5 a0_6 l0_7) else (none)) = some (r1, r2) := H
            have A12 := Aside0.mk A120
            clear A120
            by_cases c13 : x5_1.size + t352.size ≤ 9223372036854775807
            · rw [if_pos c13] at H
              have c13b0 := eq_true c13
              have c13b1 : decide (x5_1.size + t352.size ≤ 9223372036854775807) = true := decide_eq_true c13
              try have c13b2 : (9223372036854775807 < x5_1.size + t352.size) = False := eq_false (Nat.not_lt.2 c13)
              have H' := Aside0.mk H
              clear H
              obtain ⟨Ao14, co14, eo14⟩ := Kd.R_slice HO_4.out
              subst eo14
              have p351 : 0 ≤ (x6_1 : Int) := of_decide_eq_true (by first | (with_reducible assumption) | assumption)
              have q351 : x6_1 < (y348.length : Int) := of_decide_eq_true (by first | (with_reducible assumption) | assumption)
              obtain ⟨ad351, e351, hx351_0⟩ := Kd.at_int (Kd.R_reads' HO_4.out).2.2 x6_1 p351 q351
              cases e351
              replace p351 := eq_true p351
              replace q351 := eq_true q351
              go_wp2_with (first | ((with_reducible refine gate_callee (f := 62) rfl ?_); refine goesL_ (some 40) rfl rfl Try.func62 (by kernel_rfl) rfl #[.int .i64 (rd y348 x6_1)] rfl (by (try simp only [List.map_toArray, List.map_cons, List.map_nil]); first | done | rfl | (simp only [List.length_drop, List.length_take]; rfl)) ?_; (with_reducible refine (sextonref01_Number.calls k1 (rd y348 x6_1) t352 t353 _ A12.out).mono ?_); rintro e w15 ⟨rfl, hb⟩; refine ⟨_, rfl, ?_⟩; have n0_ := Aside0.mk (Kd.R_below (by (with_reducible repeat (first | apply Kd.R_alloc | apply Kd.R_drewN | apply Kd.R_drew)); exact HO_4.out) hb); have n1_ := Aside0.mk (blk_below (g := gb346) (o := .cells #[.int .i64 a0_0, .int .i64 a0_1, .int .i64 a0_2, .int .i64 a0_3, .int .i64 a0_4, .int .i64 a0_5, .int .i64 a0_6, .slice A0_7 l0_7.length c0_7] 29 (0, 0)) (by (with_reducible repeat (first | refine blk_drewN ?_ _ | refine blk_drew ?_ | refine blk_alloc ?_ _)); exact BK346.out) hb); have n2_ := Aside0.mk (below_step (by repeat (first | (with_reducible first | exact HB.out | apply below_alloc | apply pw_below_drewN | apply below_drew1 | refine below_set ?_ GE346.out) | exact HB.out)) hb); clear HO_4; clear BK346; clear HB; have HO_4 := n0_; have BK346 := n1_; have HB := n2_; clear n0_ n1_ n2_; (try clear hb); (try clear hb2); (try clear hk); (try clear hi)))
              go_roundg k1
              case measure => have := HK1.out; omega
              case rel => exact ⟨(x5_1 ++ t352), (wrap64 (x6_1 + 1)), (by first | rfl | (simp; done) | (simp [*]; done)), (by first | rfl | (simp; done) | (simp [*]; done)), H', ⟨by have := HK1.out; omega⟩, ⟨by (with_reducible repeat (first | apply Kd.R_alloc | apply Kd.R_drewN | apply Kd.R_drew)); exact HO_4.out⟩, ⟨by (with_reducible repeat (first | refine blk_drewN ?_ _ | refine blk_drew ?_ | refine blk_alloc ?_ _)); exact BK346.out⟩, ⟨by repeat (first | (with_reducible first | exact HB.out | apply below_alloc | apply pw_below_drewN | apply below_drew1 | refine below_set ?_ GE346.out) | exact HB.out)⟩⟩
            · rw [if_neg c13] at H
              exact absurd H (by simp)
          · rw [if_neg c11] at H
            exact absurd H (by simp)
        · rw [if_neg c10] at H
          have c10b0 : decide (x6_1 < (y348.length : Int)) = false := decide_eq_false c10
          clear c10
          replace H := Option.bind_eq_some_iff.mp H
          obtain ⟨⟨t354, t355⟩, A160, H⟩ := H
          replace H : (if x5_1.size + t354.size ≤ 9223372036854775807 then (some (x5_1 ++ t354, 0)) else (none)) = some (r1, r2) := H
          have A16 := Aside0.mk A160
          clear A160
          by_cases c17 : x5_1.size + t354.size ≤ 9223372036854775807
          · rw [if_pos c17] at H
            have c17b0 := eq_true c17
            have c17b1 : decide (x5_1.size + t354.size ≤ 9223372036854775807) = true := decide_eq_true c17
            try have c17b2 : (9223372036854775807 < x5_1.size + t354.size) = False := eq_false (Nat.not_lt.2 c17)
            simp only [Option.some.injEq, Prod.mk.injEq] at H
            obtain ⟨rfl, rfl⟩ := H
            obtain ⟨Ao18, co18, eo18⟩ := Kd.R_slice HO_4.out
            subst eo18
            have hcz19_0 : wr.cell? ⟨gb346, 0, none⟩ = some (.int .i64 a0_0) := (blk_cell BK346.out 0).trans rfl
            have hcz19_1 : wr.cell? ⟨gb346, 1, none⟩ = some (.int .i64 a0_1) := (blk_cell BK346.out 1).trans rfl
            have hcz19_2 : wr.cell? ⟨gb346, 2, none⟩ = some (.int .i64 a0_2) := (blk_cell BK346.out 2).trans rfl
            have hcz19_3 : wr.cell? ⟨gb346, 3, none⟩ = some (.int .i64 a0_3) := (blk_cell BK346.out 3).trans rfl
            have hcz19_4 : wr.cell? ⟨gb346, 4, none⟩ = some (.int .i64 a0_4) := (blk_cell BK346.out 4).trans rfl
            have hcz19_5 : wr.cell? ⟨gb346, 5, none⟩ = some (.int .i64 a0_5) := (blk_cell BK346.out 5).trans rfl
            have hcz19_6 : wr.cell? ⟨gb346, 6, none⟩ = some (.int .i64 a0_6) := (blk_cell BK346.out 6).trans rfl
            have hcz19_7 : wr.cell? ⟨gb346, 7, none⟩ = some (.slice A0_7 l0_7.length c0_7) := (blk_cell BK346.out 7).trans rfl
            have hfz19_0 := blk_frozen BK346.out 0
            have hfz19_1 := blk_frozen BK346.out 1
            have hfz19_2 := blk_frozen BK346.out 2
            have hfz19_3 := blk_frozen BK346.out 3
            have hfz19_4 := blk_frozen BK346.out 4
            have hfz19_5 := blk_frozen BK346.out 5
            have hfz19_6 := blk_frozen BK346.out 6
            have hfz19_7 := blk_frozen BK346.out 7
            go_wp2_with (first | ((with_reducible refine gate_callee (f := 63) rfl ?_); refine goesL_ (some 49) rfl rfl Try.func63 (by kernel_rfl) rfl #[.slice A0_7 l0_7.length c0_7] rfl (by (try simp only [List.map_toArray, List.map_cons, List.map_nil]); first | done | rfl | (simp only [List.length_drop, List.length_take]; rfl)) ?_; (with_reducible refine (sextonref01_Row.calls k1 _ _ l0_7 t354 t355 _ ?side1 ?side2 A16.out).mono ?_); (case side1 => repeat (first | exact (Kd.C_below HR0_7.out HB.out) | (with_reducible refine Kd.C_alloc ?_ _) | (with_reducible refine Kd.C_drewN ?_ _) | (with_reducible refine Kd.C_drew ?_))); (case side2 => exact HC0_7.out); rintro e w20 ⟨rfl, hb⟩; refine ⟨_, rfl, ?_⟩; have n0_ := Aside0.mk (Kd.R_below (by (with_reducible repeat (first | apply Kd.R_alloc | apply Kd.R_drewN | apply Kd.R_drew)); exact HO_4.out) hb); have n1_ := Aside0.mk (blk_below (g := gb346) (o := .cells #[.int .i64 a0_0, .int .i64 a0_1, .int .i64 a0_2, .int .i64 a0_3, .int .i64 a0_4, .int .i64 a0_5, .int .i64 a0_6, .slice A0_7 l0_7.length c0_7] 29 (0, 0)) (by (with_reducible repeat (first | refine blk_drewN ?_ _ | refine blk_drew ?_ | refine blk_alloc ?_ _)); exact BK346.out) hb); have n2_ := Aside0.mk (below_step (by repeat (first | (with_reducible first | exact HB.out | apply below_alloc | apply pw_below_drewN | apply below_drew1 | refine below_set ?_ GE346.out) | exact HB.out)) hb); clear HO_4; clear BK346; clear HB; have HO_4 := n0_; have BK346 := n1_; have HB := n2_; clear n0_ n1_ n2_; (try clear hb); (try clear hb2); (try clear hk); (try clear hi)))
            go_ret2
            exact ⟨by first | rfl | (simp [errW_none, errW_some] <;> rfl) | (simp [*, errW_none, errW_some] <;> rfl), by repeat (first | (with_reducible first | exact HB.out | apply below_alloc | apply pw_below_drewN | apply below_drew1 | refine below_set ?_ GE346.out) | exact HB.out)⟩
          · rw [if_neg c17] at H
            exact absurd H (by simp)
  · replace c3 := Bool.eq_false_iff.mpr c3
    subst c3
    have H1 : (some ((⟨#[]⟩ : ByteArray), 1)) = some (r1, r2) := by rw [if_neg (show ¬ (false = true) by decide)] at H; exact H
    clear H
    have H := H1
    clear H1
    simp only [Option.some.injEq, Prod.mk.injEq] at H
    obtain ⟨rfl, rfl⟩ := H
    go_enter Try.func32, Try.ntmps32
    go_wp2_with (first | ((with_reducible refine gate_dst (N := 1) rfl ?_); refine box_event ?hg (N := 1) ?hd (cs := #[.int .i64 a0_0, .int .i64 a0_1, .int .i64 a0_2, .int .i64 a0_3, .int .i64 a0_4, .int .i64 a0_5, .int .i64 a0_6, .slice A0_7 l0_7.length c0_7]) (t := 29) ?hr ?_; (case hd => rfl); (case hg => rfl); (case hr => first | (go_simp; done) | (go_simp; rfl)); intro gb346 hg w21 hbox hb; have n0_ := Aside0.mk (below_step (by repeat (first | (with_reducible first | exact HB.out | apply below_alloc | apply pw_below_drewN | apply below_drew1) | exact HB.out)) hb); have n1_ := Aside0.mk (hbox); have n2_ := Aside0.mk ((by rw [hg]; exact (below_size (by repeat (first | (with_reducible first | exact HB.out | apply below_alloc | apply pw_below_drewN | apply below_drew1) | exact HB.out))) : w.heap.size ≤ gb346)); have n3_ := Aside0.mk ((by rw [hg]; exact (below_size (by repeat (first | (with_reducible first | exact HB.out | apply below_alloc | apply pw_below_drewN | apply below_drew1) | exact HB.out))) : w.heap.size ≤ gb346)); clear HB; have HB := n0_; have BK346 := n1_; have GW346 := n2_; have GE346 := n3_; clear n0_ n1_ n2_ n3_; clear hb hbox hg; have hcz22_0 : w21.cell? ⟨gb346, 0, none⟩ = some (.int .i64 a0_0) := (blk_cell BK346.out 0).trans rfl; have hcz22_1 : w21.cell? ⟨gb346, 1, none⟩ = some (.int .i64 a0_1) := (blk_cell BK346.out 1).trans rfl; have hcz22_2 : w21.cell? ⟨gb346, 2, none⟩ = some (.int .i64 a0_2) := (blk_cell BK346.out 2).trans rfl; have hcz22_3 : w21.cell? ⟨gb346, 3, none⟩ = some (.int .i64 a0_3) := (blk_cell BK346.out 3).trans rfl; have hcz22_4 : w21.cell? ⟨gb346, 4, none⟩ = some (.int .i64 a0_4) := (blk_cell BK346.out 4).trans rfl; have hcz22_5 : w21.cell? ⟨gb346, 5, none⟩ = some (.int .i64 a0_5) := (blk_cell BK346.out 5).trans rfl; have hcz22_6 : w21.cell? ⟨gb346, 6, none⟩ = some (.int .i64 a0_6) := (blk_cell BK346.out 6).trans rfl; have hcz22_7 : w21.cell? ⟨gb346, 7, none⟩ = some (.slice A0_7 l0_7.length c0_7) := (blk_cell BK346.out 7).trans rfl; have hfz22_0 := blk_frozen BK346.out 0; have hfz22_1 := blk_frozen BK346.out 1; have hfz22_2 := blk_frozen BK346.out 2; have hfz22_3 := blk_frozen BK346.out 3; have hfz22_4 := blk_frozen BK346.out 4; have hfz22_5 := blk_frozen BK346.out 5; have hfz22_6 := blk_frozen BK346.out 6; have hfz22_7 := blk_frozen BK346.out 7) | ((with_reducible refine gate_callee (f := 37) rfl ?_); refine goesL_ (some 12) rfl rfl Try.func37 (by kernel_rfl) rfl #[.agg #[.int .i64 a0_0, .int .i64 a0_1, .int .i64 a0_2, .int .i64 a0_3, .int .i64 a0_4, .int .i64 a0_5, .int .i64 a0_6, .slice A0_7 l0_7.length c0_7]] rfl (by (try simp only [List.map_toArray, List.map_cons, List.map_nil]); first | done | rfl | (simp only [List.length_drop, List.length_take]; rfl)) ?_; (with_reducible refine (sextonref23_Is.calls k a0_0 a0_1 a0_2 a0_3 a0_4 a0_5 a0_6 _ _ l0_7 false _ ?side1 ?side2 A2.out).mono ?_); (case side1 => repeat (first | exact (Kd.C_below HR0_7.out HB.out) | (with_reducible refine Kd.C_alloc ?_ _) | (with_reducible refine Kd.C_drewN ?_ _) | (with_reducible refine Kd.C_drew ?_))); (case side2 => exact HC0_7.out); rintro e w23 ⟨rfl, hb⟩; refine ⟨_, rfl, ?_⟩; have n0_ := Aside0.mk (blk_below (g := gb346) (o := .cells #[.int .i64 a0_0, .int .i64 a0_1, .int .i64 a0_2, .int .i64 a0_3, .int .i64 a0_4, .int .i64 a0_5, .int .i64 a0_6, .slice A0_7 l0_7.length c0_7] 29 (0, 0)) (by (with_reducible repeat (first | refine blk_drewN ?_ _ | refine blk_drew ?_ | refine blk_alloc ?_ _)); exact BK346.out) hb); have n1_ := Aside0.mk (below_step (by repeat (first | (with_reducible first | exact HB.out | apply below_alloc | apply pw_below_drewN | apply below_drew1 | refine below_set ?_ GE346.out) | exact HB.out)) hb); clear BK346; clear HB; have BK346 := n0_; have HB := n1_; clear n0_ n1_; (try clear hb); (try clear hb2); (try clear hk); (try clear hi)))
    go_ret2
    exact ⟨by first | rfl | (simp [errW_none, errW_some] <;> rfl) | (simp [*, errW_none, errW_some] <;> rfl), by repeat (first | (with_reducible first | exact HB.out | apply below_alloc | apply pw_below_drewN | apply below_drew1 | refine below_set ?_ GE346.out) | exact HB.out)⟩

end Go.Proofs.Ytfejidinfcmfjaa.P
/-
  msg.fields, by hand: the addresses of a message's numbers.
-/
namespace Go.Proofs.Ytfejidinfcmfjaa.P
open Go.RowKit Go.Proofs.YtfejidinfcmfjaaW.PrintWords Go.Proofs.YtfejidinfcmfjaaW.PrintLast

/-- The addresses of a message's numbers. -/
def ptrs (B : Nat) : Array Value := #[.pointer (some ⟨B, 0, none⟩), .pointer (some ⟨B, 1, none⟩), .pointer (some ⟨B, 2, none⟩), .pointer (some ⟨B, 3, none⟩), .pointer (some ⟨B, 4, none⟩), .pointer (some ⟨B, 5, none⟩), .pointer (some ⟨B, 6, none⟩)]
theorem zero_ptrs (w : World) : Sem.run Try.prog (zeroValue 78) w = .ok (.agg #[.pointer none, .pointer none, .pointer none, .pointer none, .pointer none, .pointer none, .pointer none]) w := by kernel_rfl
attribute [local go_sem] zero_ptrs
set_option maxHeartbeats 4000000 in
set_option maxRecDepth 100000 in
theorem msg_fields_calls (B : Nat) (w : World) : Calls Try.prog 57 #[.pointer (some ⟨B, 0, none⟩)] w fun e w' => e = .returned (.agg (ptrs B)) ∧ Below w.heap.size w w' := by
  have HB := Aside0.mk (Below.refl w.heap.size w)
  go_enter Try.func57, Try.ntmps57
  go_wp2
  go_still_tail 22, (by kernel_rfl)
  change wpList _ _ _ _ _ (World.drew _)
  have hblk := blk_drew (blk_new w (.cells #[.pointer none, .pointer none, .pointer none, .pointer none, .pointer none, .pointer none, .pointer none] 78))
  have HB2 := Aside0.mk (below_drew1 (below_alloc (Below.refl w.heap.size w) (.cells #[.pointer none, .pointer none, .pointer none, .pointer none, .pointer none, .pointer none, .pointer none] 78)))
  have HE := Aside0.mk hblk
  have hrun := run_store_run (P := Try.prog) (o := 0) 78 (.agg (ptrs B)) (ptrs B).toList hblk rfl (by kernel_rfl) (by simp [ptrs]) (by simp [ptrs, Value.oneCell'])
  clear hblk
  generalize (w.alloc (.cells #[.pointer none, .pointer none, .pointer none, .pointer none, .pointer none, .pointer none, .pointer none] 78)).drew = w2 at *
  refine store_event (t := 78) (p := 2) (v := .tmp 24) (w1 := w2.setCells w.heap.size 0 (ptrs B).toList) rfl rfl rfl ?_ ?_
  · unfold execOp
    simp only [Act.eval, Sem.run_bind, Sem.run_pure, Result.andThen_ok]
    show ((Sem.run Try.prog (Instr.storeAt 78 (.pointer (some ⟨w.heap.size, 0, none⟩)) (.agg (ptrs B))) w2).andThen _) = _
    rw [hrun]
    rfl
  · intro w3 hw3
    have hrow := setCells_row (ptrs B).toList 0 w2 _ HE.out (by simp [ptrs])
    rw [← hw3] at hrow
    have HB3 := Aside0.mk (show Below w.heap.size w w3 from by
      have hs := setCells_same w.heap.size (ptrs B).toList 0 w2
      rw [hw3]
      exact HB2.out.trans ⟨hs.1, hs.2.1, hs.2.2.1, Nat.le_of_eq hs.2.2.2.symm, fun k hk => setCells_far _ _ k (by omega)⟩)
    obtain ⟨cur, hcur, _, hl⟩ := hrow
    have hl2 : cur = ptrs B := by
      apply Array.toList_inj.1
      rw [hl]
      simp [ptrs]
    subst hl2
    have c0 := blk_cell hcur 0
    have c1 := blk_cell hcur 1
    have c2 := blk_cell hcur 2
    have c3 := blk_cell hcur 3
    have c4 := blk_cell hcur 4
    have c5 := blk_cell hcur 5
    have c6 := blk_cell hcur 6
    clear hw3 hcur hl hrun HE HB2
    simp only [ptrs, List.getElem?_toArray, List.getElem?_cons_zero, List.getElem?_cons_succ] at c0 c1 c2 c3 c4 c5 c6
    go_wp2
    refine bodyPost_ret (v := .agg (ptrs B)) ?_ rfl ⟨rfl, HB3.out⟩
    simp [results, Try.results57, go_sem, c0, c1, c2, c3, c4, c5, c6, ptrs]
end Go.Proofs.Ytfejidinfcmfjaa.P
/-
  strings.Builder's copyCheck and WriteString, by hand, at a builder that the call has made itself.
-/
namespace Go.Proofs.Ytfejidinfcmfjaa.P
open Go.RowKit Go.Shelf Go.Proofs

theorem bld_size : (Try.prog.info? 76).map (fun i => i.size) = some 2 := by kernel_rfl
theorem bld_lies : liesAt Try.prog Try.prog.depth 76 (2 / Try.prog.cellsOf 76) 0 76 1 = true := by kernel_rfl
theorem bld_byte : (Try.prog.info? 5).map (fun i => (i.zero, i.size, i.bytes)) = some (some (.int .u8 0), 1, 1) := by kernel_rfl

set_option maxHeartbeats 1000000 in
set_option maxRecDepth 100000 in
theorem Builder_copyCheck_used (b : Nat) (w : World) (h0 : w.cell? ⟨b, 0, none⟩ = some (.pointer (some ⟨b, 0, none⟩))) :
    Calls Try.prog 78 #[.pointer (some ⟨b, 0, none⟩)] w fun e w' => e = .returned (.tuple #[]) ∧ w' = w := by
  obtain ⟨j, hj, _⟩ := Option.map_eq_some_iff.1 bld_size
  go_enter Try.func78, Try.ntmps78
  go_wp2
  rw [Lib.run_neq_ptr_same w _ Try.underlying73 hj]
  go_wp2
  go_end0
  exact ⟨rfl, rfl⟩

set_option maxHeartbeats 1000000 in
set_option maxRecDepth 100000 in
theorem Builder_copyCheck_fresh (b : Nat) (w : World) (h0 : w.cell? ⟨b, 0, none⟩ = some (.pointer none)) (hsh : w.shape? b = some (76, 2)) (hfz : w.frozen? ⟨b, 0, none⟩ = false) :
    Calls Try.prog 78 #[.pointer (some ⟨b, 0, none⟩)] w fun e w' => e = .returned (.tuple #[]) ∧ w' = w.setCell ⟨b, 0, none⟩ (.pointer (some ⟨b, 0, none⟩)) := by
  obtain ⟨j, hj, hjs⟩ := Option.map_eq_some_iff.1 bld_size
  go_enter Try.func78, Try.ntmps78
  go_wp2
  rw [Lib.run_to_unsafe w ⟨b, 0, none⟩ Try.underlying73 Try.underlying113 hj (by rw [hjs]; decide) hsh (Nat.zero_lt_succ 1)]
  simp only [Result.andThen]
  rw [Oper.upon_value]
  go_wp2
  rw [run_callFunc_extern Try.func86 (by kernel_rfl) (by kernel_rfl) (by kernel_rfl) (e := Extern.AbiNoEscape.same) (by kernel_rfl)]
  rw [Lib.run_noEscape]
  simp only [Result.andThen]
  rw [Oper.upon_value]
  go_wp2
  rw [Lib.run_from_unsafe w ⟨b, 0, none⟩ Try.underlying113 Try.underlying73 hj hsh bld_lies]
  simp only [Result.andThen]
  rw [Oper.upon_value]
  go_wp2
  go_end0
  exact ⟨rfl, rfl⟩

theorem Builder_copyCheck (B b : Nat) (bs : List Value) (w : World) (h : Lib.IsBuilder 76 5 B b bs w) :
    Calls Try.prog 78 #[.pointer (some ⟨b, 0, none⟩)] w fun e w' => e = .returned (.tuple #[]) ∧ (Lib.BuilderAt 76 5 B b (.pointer (some ⟨b, 0, none⟩)) bs w' ∧ Below B w w') := by
  rcases h with h | h
  · refine (Builder_copyCheck_fresh b w h.cell0 h.shape h.frozen0).mono ?_
    rintro e w' ⟨rfl, rfl⟩
    exact ⟨rfl, h.used _, (Below.refl B w).setCell (p := ⟨b, 0, none⟩) h.1 _⟩
  · refine (Builder_copyCheck_used b w h.cell0).mono ?_
    rintro e w' ⟨rfl, rfl⟩
    exact ⟨rfl, h, Below.refl B _⟩

set_option maxHeartbeats 2000000 in
set_option maxRecDepth 100000 in
theorem Builder_WriteString (B b : Nat) (bs : List Value) (s : ByteArray) (w : World) (h : Lib.IsBuilder 76 5 B b bs w) (hlen : bs.length + s.size ≤ 140737488355328) (hBw : B ≤ w.heap.size) :
    Calls Try.prog 59 #[.pointer (some ⟨b, 0, none⟩), .string s] w fun e w' => e = .returned (.tuple #[.int .i64 s.size, .nilIface]) ∧ (Lib.BuilderAt 76 5 B b (.pointer (some ⟨b, 0, none⟩)) (bs ++ Lib.strCells s) w' ∧ Below B w w') := by
  obtain ⟨i0, hi, hz0, hz1, hz2⟩ := info_parts bld_byte
  go_enter Try.func59, Try.ntmps59
  go_wp2_with (go_at_call 78; refine (Builder_copyCheck B b bs _ h).mono ?_)
  rintro e w1 ⟨rfl, h1, hb1⟩
  obtain ⟨hB, v, hbk, hown, hne⟩ := h1
  have c0 : w1.cell? ⟨b, 0, none⟩ = some (.pointer (some ⟨b, 0, none⟩)) := by rw [Lib.cell_of_heap hbk]; rfl
  have c1 : w1.cell? ⟨b, 1, none⟩ = some v := by rw [Lib.cell_of_heap hbk]; rfl
  go_wp2_with (at_builtin; refine Lib.wpList_append_own_string _ rfl _ _ 74 9 rfl B 5 i0 Try.underlying74 Try.underlying9 hi hz0 hz1 hz2 _ _ _ rfl hown s rfl ?c3 ?c4 ?c5 ?_)
  case c3 => unfold maxLen; omega
  case c4 => omega
  case c5 => have := hb1.size; omega
  intro v' w2 hown' hgrow _
  have hlt : b < w1.heap.size := by
    rcases Nat.lt_or_ge b w1.heap.size with h' | h'
    · exact h'
    · simp [Array.getElem?_eq_none h'] at hbk
  have hb2 : w2.heap[b]? = some (.cells #[.pointer (some ⟨b, 0, none⟩), v] 76 (0, 0)) := by
    rw [hgrow.block b hlt (fun e => hne e.symm)]
    exact hbk
  have d0 : w2.cell? ⟨b, 0, none⟩ = some (.pointer (some ⟨b, 0, none⟩)) := by rw [Lib.cell_of_heap hb2]; rfl
  have d1 : w2.cell? ⟨b, 1, none⟩ = some v := by rw [Lib.cell_of_heap hb2]; rfl
  have f1 : w2.frozen? ⟨b, 1, none⟩ = false := Lib.frozen_of_heap hb2 1
  obtain ⟨ao, n', cap, rfl⟩ : ∃ ao n' cap, v' = .slice ao n' cap := by
    rcases hown'.2 with ⟨hv, _⟩ | ⟨g, cap, cur, hv, _⟩
    · exact ⟨_, _, _, hv⟩
    · exact ⟨_, _, _, hv⟩
  go_wp2
  go_ret2
  refine ⟨rfl, ?_, ?_⟩
  · exact Lib.BuilderAt.put (T := 76) (e := 5) hB hb2 (bs' := bs ++ Lib.strCells s) (by simpa [Lib.strCells_length] using hown') (by decide)
  · exact (hb1.grown hgrow (by have := hb1.size; omega) (fun k hk => (hown.lt k hk).1)).setCell (p := ⟨b, 1, none⟩) hB _
end Go.Proofs.Ytfejidinfcmfjaa.P
/-
  Plain laws on a number's bytes, highest first, without the leading zeros: no program in sight.
-/
namespace Go.Proofs.CodecPlain

/-- A fact that the walk is not to see. -/
structure As (p : Prop) : Prop where mk :: (out : p)

/-- The byte of n at place k. -/
def nbyte (n : Int) (k : Nat) : Int := n / 256 ^ k % 256
/-- Without the zeros at its head. -/
def lead : List Int → List Int
  | [] => []
  | b :: l => if b = 0 then lead l else b :: l
/-- The first j of the four bytes, the highest first. -/
def tops (n : Int) : Nat → List Int
  | 0 => []
  | j + 1 => tops n j ++ [nbyte n (3 - j)]
/-- A number's bytes. -/
def nbytes (n : Int) : List Int := lead (tops n 4)

/-- A number's text: how many bytes, and the bytes. -/
def numStr (n : Int) : ByteArray := Go.strOfNums (((nbytes n).length : Int) :: nbytes n)

theorem lead_snoc_nil {l : List Int} (h : lead l = []) (b : Int) : lead (l ++ [b]) = if b = 0 then [] else [b] := by
  induction l with
  | nil => by_cases e : b = 0 <;> simp [lead, e]
  | cons c l ih =>
    unfold lead at h
    split at h
    · rename_i e; subst e; simp [lead, ih h]
    · cases h
theorem lead_snoc {l : List Int} (h : lead l ≠ []) (b : Int) : lead (l ++ [b]) = lead l ++ [b] := by
  induction l with
  | nil => exact absurd rfl h
  | cons c l ih =>
    by_cases e : c = 0
    · subst e
      have : lead l ≠ [] := by intro e'; exact h (by simp [lead, e'])
      simp [lead, ih this]
    · simp [lead, e]
theorem tops_length (n : Int) (j : Nat) : (tops n j).length = j := by
  induction j with
  | zero => rfl
  | succ j ih => simp [tops, ih]
theorem lead_length (l : List Int) : (lead l).length ≤ l.length := by
  induction l with
  | nil => simp [lead]
  | cons c l ih => unfold lead; split <;> simp <;> omega
theorem nbytes_length (n : Int) : (nbytes n).length ≤ 4 := by
  have := lead_length (tops n 4); rw [tops_length] at this; exact this
theorem nbyte_lt (n : Int) (k : Nat) : 0 ≤ nbyte n k ∧ nbyte n k < 256 := by unfold nbyte; omega
theorem numStr_size (n : Int) : 1 ≤ (numStr n).size ∧ (numStr n).size ≤ 5 := by
  have := nbytes_length n
  have h : (numStr n).size = (nbytes n).length + 1 := by simp [numStr, Go.strOfNums, ByteArray.size]
  omega
/-- A text's text. -/
def textStr (s : ByteArray) : ByteArray := numStr (s.size : Int) ++ s
/-- Texts one behind the other. -/
def catStr : List ByteArray → ByteArray
  | [] => ⟨#[]⟩
  | s :: l => s ++ catStr l
/-- A row's text. -/
def rowStr (l : List ByteArray) : ByteArray := numStr (l.length : Int) ++ catStr (l.map textStr)
theorem size_append (a b : ByteArray) : (a ++ b).size = a.size + b.size := ByteArray.size_append
theorem textStr_size (s : ByteArray) : (textStr s).size ≤ s.size + 5 := by
  have := numStr_size (s.size : Int); unfold textStr; rw [size_append]; omega
theorem catStr_append (a b : List ByteArray) : catStr (a ++ b) = catStr a ++ catStr b := by
  induction a with
  | nil => simp [catStr]; rfl
  | cons x a ih => simp [catStr, ih, ByteArray.append_assoc]
theorem catStr_size (l : List ByteArray) (h : ∀ s ∈ l, s.size ≤ 4000) : (catStr (l.map textStr)).size ≤ l.length * 4005 := by
  induction l with
  | nil => simp [catStr, ByteArray.size]
  | cons x l ih =>
    have h1 := ih (fun s hs => h s (List.mem_cons_of_mem _ hs))
    have h2 := textStr_size x
    have h3 := h x List.mem_cons_self
    simp only [List.map_cons, catStr, size_append, List.length_cons]
    omega
theorem row_next (l : List ByteArray) (k : Nat) (h : k < l.length) :
    (numStr l.length ++ catStr ((l.take k).map textStr)).data.toList ++ (textStr l[k]).data.toList = (numStr l.length ++ catStr ((l.take (k + 1)).map textStr)).data.toList := by
  rw [List.take_succ_eq_append_getElem h, List.map_append, catStr_append]
  simp [catStr]

end Go.Proofs.CodecPlain
/-
  codec.bytes, by hand: what the iterator gives to whatever loop. For every number that has bytes.
-/
namespace Go.Proofs.Ytfejidinfcmfjaa.P
open Go.RowKit Go.Shelf Go.Proofs.CodecPlain

attribute [local go_sem] Oper.semAt_some

set_option maxHeartbeats 1000000 in
/-- 'bytes(n)': n lies in a block of its own; the function value captures it. -/
theorem codec_bytes_in (F : Fence) (m : Nat) (h : F.fn 77) (hro : F.round = none) (n : Int) (w : World) :
    CallsIn F m Try.prog 77 #[.int .i64 n] w fun e w' => e = .returned (.func (.func 85) #[] #[.pointer (some ⟨w.heap.size, 0, none⟩)]) ∧ w' = w.alloc (.cells #[.int .i64 n] 3) := by
  refine callsIn_of_wp Try.func77 rfl h ?_ hro
  simp only [Try.ntmps77, List.size_toArray, List.length_cons, List.length_nil, Nat.reduceAdd, Nat.reduceSub, Array.replicate_succ, Array.replicate_zero, List.push_toArray, List.append_toArray, List.nil_append, List.cons_append]
  gi_wp2
  go_ret
  exact ⟨rfl, rfl⟩

theorem step_zero (n : Int) (j : Nat) (e : Int) (h : As (nbyte n (3 - j) = e)) (hb : As (false = !(lead (tops n j)).isEmpty)) (hz : e = 0) :
    As (false = !(lead (tops n (j + 1))).isEmpty ∧ lead (tops n j) = lead (tops n (j + 1))) := by
  have h0 : lead (tops n j) = [] := by have := hb.out; simpa using this.symm
  have := lead_snoc_nil h0 (nbyte n (3 - j))
  rw [h.out, if_pos hz] at this
  constructor
  simp [tops, h.out, this, h0]
theorem step_on (n : Int) (j : Nat) (e : Int) (h : As (nbyte n (3 - j) = e)) (hb : As (true = !(lead (tops n j)).isEmpty) ∨ ¬ e = 0) :
    As (true = !(lead (tops n (j + 1))).isEmpty ∧ lead (tops n j) ++ [e] = lead (tops n (j + 1))) := by
  have hk : lead (tops n (j + 1)) = lead (tops n j) ++ [e] := by
    by_cases h0 : lead (tops n j) = []
    · have := lead_snoc_nil h0 (nbyte n (3 - j))
      rw [h.out, if_neg (hb.elim (fun z => by have := z.out; simp [h0] at this) id)] at this
      simp [tops, h.out, this, h0]
    · have := lead_snoc h0 (nbyte n (3 - j))
      rw [h.out] at this
      simp [tops, h.out, this]
  exact ⟨by simp [hk], hk.symm⟩

set_option maxRecDepth 100000 in
set_option maxHeartbeats 4000000 in
theorem codec_bytes1_in (F : Fence) (m : Nat) (h : F.fn 85) (hro : F.round = none) (hm : 1 ≤ m) (l Bn : Nat) (n : Int) (h0n : 0 ≤ n) (h1n : n ≤ 4294967295) (J Jx : List Int → World → Prop)
    (hY : ∀ pre x W, J pre W → pre.length < 4 → YieldAt F (m - 1) Try.prog l #[.int .u8 x] W fun e W' =>
      (e = .returned (.bool true) ∧ J (pre ++ [x]) W' ∧ (∀ v, Boxed W Bn 3 v → Boxed W' Bn 3 v)) ∨ (e = .returned (.bool false) ∧ Jx (pre ++ [x]) W'))
    (W : World) (hBn : Boxed W Bn 3 (.int .i64 n)) (h0 : J [] W) :
    CallsIn F m Try.prog 85 #[.func (.yield l) #[] #[], .pointer (some ⟨Bn, 0, none⟩)] W fun e W' => (∃ v, e = .returned v) ∧
      ((∃ ys, ys = nbytes n ∧ J ys W') ∨ (∃ pre, True ∧ Jx pre W')) := by
  refine callsIn_of_wp Try.func85 rfl h ?_ hro
  simp only [Try.ntmps85, List.size_toArray, List.length_cons, List.length_nil, Nat.reduceAdd, Nat.reduceSub, Array.replicate_succ, Array.replicate_zero, List.push_toArray, List.append_toArray, List.nil_append, List.cons_append]
  gi_wp2
  gi_loopw [3, 4] (fun s k wr => ∃ (j : Nat) (z : Int) (b : Bool), As ((j = 0 ∧ z = 3) ∨ (j = 1 ∧ z = 2) ∨ (j = 2 ∧ z = 1) ∨ (j = 3 ∧ z = 0) ∨ (j = 4 ∧ z = -1)) ∧ s = .bool b ∧ k = .int .i64 z ∧ As (b = !(lead (tops n j)).isEmpty) ∧ As (Boxed wr Bn 3 (.int .i64 n)) ∧ J (lead (tops n j)) wr)
    (fun _ k _ => (intOf k + 1).toNat)
  case atStart => exact ⟨0, 3, false, ⟨.inl ⟨rfl, rfl⟩⟩, rfl, rfl, ⟨rfl⟩, ⟨hBn⟩, h0⟩
  case round =>
    obtain ⟨j, z, b, hjz, rfl, rfl, hb, hbx, hJ⟩ := hrel
    have hc := hbx.out.cell
    rcases hjz.out with ⟨rfl, rfl⟩ | ⟨rfl, rfl⟩ | ⟨rfl, rfl⟩ | ⟨rfl, rfl⟩ | ⟨rfl, rfl⟩
    · clear hjz
      have hbyte : As (nbyte n 3 = n / 16777216) := ⟨by unfold nbyte; omega⟩
      by_cases hz : n / 16777216 = 0
      · cases b
        · have hnew := step_zero n 0 (n / 16777216) hbyte hb hz
          have e1 : (n / 16777216 == 0) = true := by simpa using hz
          have e2 : (n / 16777216 != 0) = false := by simpa using hz
          clear hz
          gi_wp2
          refine ⟨fun _ h => (by cases h), ?_⟩
          gi_wp2
          go_roundw
          case rel => exact ⟨1, (2), false, ⟨(.inr (.inl ⟨rfl, rfl⟩))⟩, rfl, rfl, ⟨hnew.out.1⟩, hbx, hnew.out.2 ▸ hJ⟩
          case measure => simp [intOf]
        · have hnew := step_on n 0 (n / 16777216) hbyte (.inl hb)
          have e1 : (n / 16777216 == 0) = true := by simpa using hz
          have e2 : (n / 16777216 != 0) = false := by simpa using hz
          clear hz
          obtain ⟨fn, tmps, assign, body, hy, hR⟩ := hY (lead (tops n 0)) (n / 16777216) wr hJ (by have := lead_length (tops n 0); rw [tops_length] at this; omega)
          gi_wp2
          refine hR.mono ?_
          rintro e W3 (⟨rfl, hJ3, hk3⟩ | ⟨rfl, hJx3⟩)
          · have hb3 := (hk3 _ hbx.out); clear hk3
            gi_wp2
            go_roundw
            case rel => exact ⟨1, (2), true, ⟨(.inr (.inl ⟨rfl, rfl⟩))⟩, rfl, rfl, ⟨hnew.out.1⟩, ⟨hb3⟩, hnew.out.2 ▸ hJ3⟩
            case measure => simp [intOf]
          · gi_wp2
            refine bodyPost_ret (results_none rfl _ _ _) rfl ?_
            exact ⟨⟨_, rfl⟩, .inr ⟨_, trivial, hJx3⟩⟩
      · have hnew := step_on n 0 (n / 16777216) hbyte (.inr hz)
        have e1 : (n / 16777216 == 0) = false := by simpa using hz
        have e2 : (n / 16777216 != 0) = true := by simpa using hz
        clear hz
        cases b
        · clear hb
          obtain ⟨fn, tmps, assign, body, hy, hR⟩ := hY (lead (tops n 0)) (n / 16777216) wr hJ (by have := lead_length (tops n 0); rw [tops_length] at this; omega)
          gi_wp2
          refine hR.mono ?_
          rintro e W3 (⟨rfl, hJ3, hk3⟩ | ⟨rfl, hJx3⟩)
          · have hb3 := (hk3 _ hbx.out); clear hk3
            gi_wp2
            go_roundw
            case rel => exact ⟨1, (2), true, ⟨(.inr (.inl ⟨rfl, rfl⟩))⟩, rfl, rfl, ⟨hnew.out.1⟩, ⟨hb3⟩, hnew.out.2 ▸ hJ3⟩
            case measure => simp [intOf]
          · gi_wp2
            refine bodyPost_ret (results_none rfl _ _ _) rfl ?_
            exact ⟨⟨_, rfl⟩, .inr ⟨_, trivial, hJx3⟩⟩
        · clear hb
          obtain ⟨fn, tmps, assign, body, hy, hR⟩ := hY (lead (tops n 0)) (n / 16777216) wr hJ (by have := lead_length (tops n 0); rw [tops_length] at this; omega)
          gi_wp2
          refine hR.mono ?_
          rintro e W3 (⟨rfl, hJ3, hk3⟩ | ⟨rfl, hJx3⟩)
          · have hb3 := (hk3 _ hbx.out); clear hk3
            gi_wp2
            go_roundw
            case rel => exact ⟨1, (2), true, ⟨(.inr (.inl ⟨rfl, rfl⟩))⟩, rfl, rfl, ⟨hnew.out.1⟩, ⟨hb3⟩, hnew.out.2 ▸ hJ3⟩
            case measure => simp [intOf]
          · gi_wp2
            refine bodyPost_ret (results_none rfl _ _ _) rfl ?_
            exact ⟨⟨_, rfl⟩, .inr ⟨_, trivial, hJx3⟩⟩
    · clear hjz
      have hbyte : As (nbyte n 2 = n / 65536 % 256) := ⟨by unfold nbyte; omega⟩
      by_cases hz : n / 65536 % 256 = 0
      · cases b
        · have hnew := step_zero n 1 (n / 65536 % 256) hbyte hb hz
          have e1 : (n / 65536 % 256 == 0) = true := by simpa using hz
          have e2 : (n / 65536 % 256 != 0) = false := by simpa using hz
          clear hz
          gi_wp2
          refine ⟨fun _ h => (by cases h), ?_⟩
          gi_wp2
          go_roundw
          case rel => exact ⟨2, (1), false, ⟨(.inr (.inr (.inl ⟨rfl, rfl⟩)))⟩, rfl, rfl, ⟨hnew.out.1⟩, hbx, hnew.out.2 ▸ hJ⟩
          case measure => simp [intOf]
        · have hnew := step_on n 1 (n / 65536 % 256) hbyte (.inl hb)
          have e1 : (n / 65536 % 256 == 0) = true := by simpa using hz
          have e2 : (n / 65536 % 256 != 0) = false := by simpa using hz
          clear hz
          obtain ⟨fn, tmps, assign, body, hy, hR⟩ := hY (lead (tops n 1)) (n / 65536 % 256) wr hJ (by have := lead_length (tops n 1); rw [tops_length] at this; omega)
          gi_wp2
          refine hR.mono ?_
          rintro e W3 (⟨rfl, hJ3, hk3⟩ | ⟨rfl, hJx3⟩)
          · have hb3 := (hk3 _ hbx.out); clear hk3
            gi_wp2
            go_roundw
            case rel => exact ⟨2, (1), true, ⟨(.inr (.inr (.inl ⟨rfl, rfl⟩)))⟩, rfl, rfl, ⟨hnew.out.1⟩, ⟨hb3⟩, hnew.out.2 ▸ hJ3⟩
            case measure => simp [intOf]
          · gi_wp2
            refine bodyPost_ret (results_none rfl _ _ _) rfl ?_
            exact ⟨⟨_, rfl⟩, .inr ⟨_, trivial, hJx3⟩⟩
      · have hnew := step_on n 1 (n / 65536 % 256) hbyte (.inr hz)
        have e1 : (n / 65536 % 256 == 0) = false := by simpa using hz
        have e2 : (n / 65536 % 256 != 0) = true := by simpa using hz
        clear hz
        cases b
        · clear hb
          obtain ⟨fn, tmps, assign, body, hy, hR⟩ := hY (lead (tops n 1)) (n / 65536 % 256) wr hJ (by have := lead_length (tops n 1); rw [tops_length] at this; omega)
          gi_wp2
          refine hR.mono ?_
          rintro e W3 (⟨rfl, hJ3, hk3⟩ | ⟨rfl, hJx3⟩)
          · have hb3 := (hk3 _ hbx.out); clear hk3
            gi_wp2
            go_roundw
            case rel => exact ⟨2, (1), true, ⟨(.inr (.inr (.inl ⟨rfl, rfl⟩)))⟩, rfl, rfl, ⟨hnew.out.1⟩, ⟨hb3⟩, hnew.out.2 ▸ hJ3⟩
            case measure => simp [intOf]
          · gi_wp2
            refine bodyPost_ret (results_none rfl _ _ _) rfl ?_
            exact ⟨⟨_, rfl⟩, .inr ⟨_, trivial, hJx3⟩⟩
        · clear hb
          obtain ⟨fn, tmps, assign, body, hy, hR⟩ := hY (lead (tops n 1)) (n / 65536 % 256) wr hJ (by have := lead_length (tops n 1); rw [tops_length] at this; omega)
          gi_wp2
          refine hR.mono ?_
          rintro e W3 (⟨rfl, hJ3, hk3⟩ | ⟨rfl, hJx3⟩)
          · have hb3 := (hk3 _ hbx.out); clear hk3
            gi_wp2
            go_roundw
            case rel => exact ⟨2, (1), true, ⟨(.inr (.inr (.inl ⟨rfl, rfl⟩)))⟩, rfl, rfl, ⟨hnew.out.1⟩, ⟨hb3⟩, hnew.out.2 ▸ hJ3⟩
            case measure => simp [intOf]
          · gi_wp2
            refine bodyPost_ret (results_none rfl _ _ _) rfl ?_
            exact ⟨⟨_, rfl⟩, .inr ⟨_, trivial, hJx3⟩⟩
    · clear hjz
      have hbyte : As (nbyte n 1 = n / 256 % 256) := ⟨by unfold nbyte; omega⟩
      by_cases hz : n / 256 % 256 = 0
      · cases b
        · have hnew := step_zero n 2 (n / 256 % 256) hbyte hb hz
          have e1 : (n / 256 % 256 == 0) = true := by simpa using hz
          have e2 : (n / 256 % 256 != 0) = false := by simpa using hz
          clear hz
          gi_wp2
          refine ⟨fun _ h => (by cases h), ?_⟩
          gi_wp2
          go_roundw
          case rel => exact ⟨3, (0), false, ⟨(.inr (.inr (.inr (.inl ⟨rfl, rfl⟩))))⟩, rfl, rfl, ⟨hnew.out.1⟩, hbx, hnew.out.2 ▸ hJ⟩
          case measure => simp [intOf]
        · have hnew := step_on n 2 (n / 256 % 256) hbyte (.inl hb)
          have e1 : (n / 256 % 256 == 0) = true := by simpa using hz
          have e2 : (n / 256 % 256 != 0) = false := by simpa using hz
          clear hz
          obtain ⟨fn, tmps, assign, body, hy, hR⟩ := hY (lead (tops n 2)) (n / 256 % 256) wr hJ (by have := lead_length (tops n 2); rw [tops_length] at this; omega)
          gi_wp2
          refine hR.mono ?_
          rintro e W3 (⟨rfl, hJ3, hk3⟩ | ⟨rfl, hJx3⟩)
          · have hb3 := (hk3 _ hbx.out); clear hk3
            gi_wp2
            go_roundw
            case rel => exact ⟨3, (0), true, ⟨(.inr (.inr (.inr (.inl ⟨rfl, rfl⟩))))⟩, rfl, rfl, ⟨hnew.out.1⟩, ⟨hb3⟩, hnew.out.2 ▸ hJ3⟩
            case measure => simp [intOf]
          · gi_wp2
            refine bodyPost_ret (results_none rfl _ _ _) rfl ?_
            exact ⟨⟨_, rfl⟩, .inr ⟨_, trivial, hJx3⟩⟩
      · have hnew := step_on n 2 (n / 256 % 256) hbyte (.inr hz)
        have e1 : (n / 256 % 256 == 0) = false := by simpa using hz
        have e2 : (n / 256 % 256 != 0) = true := by simpa using hz
        clear hz
        cases b
        · clear hb
          obtain ⟨fn, tmps, assign, body, hy, hR⟩ := hY (lead (tops n 2)) (n / 256 % 256) wr hJ (by have := lead_length (tops n 2); rw [tops_length] at this; omega)
          gi_wp2
          refine hR.mono ?_
          rintro e W3 (⟨rfl, hJ3, hk3⟩ | ⟨rfl, hJx3⟩)
          · have hb3 := (hk3 _ hbx.out); clear hk3
            gi_wp2
            go_roundw
            case rel => exact ⟨3, (0), true, ⟨(.inr (.inr (.inr (.inl ⟨rfl, rfl⟩))))⟩, rfl, rfl, ⟨hnew.out.1⟩, ⟨hb3⟩, hnew.out.2 ▸ hJ3⟩
            case measure => simp [intOf]
          · gi_wp2
            refine bodyPost_ret (results_none rfl _ _ _) rfl ?_
            exact ⟨⟨_, rfl⟩, .inr ⟨_, trivial, hJx3⟩⟩
        · clear hb
          obtain ⟨fn, tmps, assign, body, hy, hR⟩ := hY (lead (tops n 2)) (n / 256 % 256) wr hJ (by have := lead_length (tops n 2); rw [tops_length] at this; omega)
          gi_wp2
          refine hR.mono ?_
          rintro e W3 (⟨rfl, hJ3, hk3⟩ | ⟨rfl, hJx3⟩)
          · have hb3 := (hk3 _ hbx.out); clear hk3
            gi_wp2
            go_roundw
            case rel => exact ⟨3, (0), true, ⟨(.inr (.inr (.inr (.inl ⟨rfl, rfl⟩))))⟩, rfl, rfl, ⟨hnew.out.1⟩, ⟨hb3⟩, hnew.out.2 ▸ hJ3⟩
            case measure => simp [intOf]
          · gi_wp2
            refine bodyPost_ret (results_none rfl _ _ _) rfl ?_
            exact ⟨⟨_, rfl⟩, .inr ⟨_, trivial, hJx3⟩⟩
    · clear hjz
      have hbyte : As (nbyte n 0 = n % 256) := ⟨by unfold nbyte; omega⟩
      by_cases hz : n % 256 = 0
      · cases b
        · have hnew := step_zero n 3 (n % 256) hbyte hb hz
          have e1 : (n % 256 == 0) = true := by simpa using hz
          have e2 : (n % 256 != 0) = false := by simpa using hz
          clear hz
          gi_wp2
          refine ⟨fun _ h => (by cases h), ?_⟩
          gi_wp2
          go_roundw
          case rel => exact ⟨4, (-1), false, ⟨(.inr (.inr (.inr (.inr ⟨rfl, rfl⟩))))⟩, rfl, rfl, ⟨hnew.out.1⟩, hbx, hnew.out.2 ▸ hJ⟩
          case measure => simp [intOf]
        · have hnew := step_on n 3 (n % 256) hbyte (.inl hb)
          have e1 : (n % 256 == 0) = true := by simpa using hz
          have e2 : (n % 256 != 0) = false := by simpa using hz
          clear hz
          obtain ⟨fn, tmps, assign, body, hy, hR⟩ := hY (lead (tops n 3)) (n % 256) wr hJ (by have := lead_length (tops n 3); rw [tops_length] at this; omega)
          gi_wp2
          refine hR.mono ?_
          rintro e W3 (⟨rfl, hJ3, hk3⟩ | ⟨rfl, hJx3⟩)
          · have hb3 := (hk3 _ hbx.out); clear hk3
            gi_wp2
            go_roundw
            case rel => exact ⟨4, (-1), true, ⟨(.inr (.inr (.inr (.inr ⟨rfl, rfl⟩))))⟩, rfl, rfl, ⟨hnew.out.1⟩, ⟨hb3⟩, hnew.out.2 ▸ hJ3⟩
            case measure => simp [intOf]
          · gi_wp2
            refine bodyPost_ret (results_none rfl _ _ _) rfl ?_
            exact ⟨⟨_, rfl⟩, .inr ⟨_, trivial, hJx3⟩⟩
      · have hnew := step_on n 3 (n % 256) hbyte (.inr hz)
        have e1 : (n % 256 == 0) = false := by simpa using hz
        have e2 : (n % 256 != 0) = true := by simpa using hz
        clear hz
        cases b
        · clear hb
          obtain ⟨fn, tmps, assign, body, hy, hR⟩ := hY (lead (tops n 3)) (n % 256) wr hJ (by have := lead_length (tops n 3); rw [tops_length] at this; omega)
          gi_wp2
          refine hR.mono ?_
          rintro e W3 (⟨rfl, hJ3, hk3⟩ | ⟨rfl, hJx3⟩)
          · have hb3 := (hk3 _ hbx.out); clear hk3
            gi_wp2
            go_roundw
            case rel => exact ⟨4, (-1), true, ⟨(.inr (.inr (.inr (.inr ⟨rfl, rfl⟩))))⟩, rfl, rfl, ⟨hnew.out.1⟩, ⟨hb3⟩, hnew.out.2 ▸ hJ3⟩
            case measure => simp [intOf]
          · gi_wp2
            refine bodyPost_ret (results_none rfl _ _ _) rfl ?_
            exact ⟨⟨_, rfl⟩, .inr ⟨_, trivial, hJx3⟩⟩
        · clear hb
          obtain ⟨fn, tmps, assign, body, hy, hR⟩ := hY (lead (tops n 3)) (n % 256) wr hJ (by have := lead_length (tops n 3); rw [tops_length] at this; omega)
          gi_wp2
          refine hR.mono ?_
          rintro e W3 (⟨rfl, hJ3, hk3⟩ | ⟨rfl, hJx3⟩)
          · have hb3 := (hk3 _ hbx.out); clear hk3
            gi_wp2
            go_roundw
            case rel => exact ⟨4, (-1), true, ⟨(.inr (.inr (.inr (.inr ⟨rfl, rfl⟩))))⟩, rfl, rfl, ⟨hnew.out.1⟩, ⟨hb3⟩, hnew.out.2 ▸ hJ3⟩
            case measure => simp [intOf]
          · gi_wp2
            refine bodyPost_ret (results_none rfl _ _ _) rfl ?_
            exact ⟨⟨_, rfl⟩, .inr ⟨_, trivial, hJx3⟩⟩
    · clear hjz
      gi_wp2
      go_end0
      exact ⟨⟨_, rfl⟩, .inl ⟨_, rfl, hJ⟩⟩
end Go.Proofs.Ytfejidinfcmfjaa.P
/-
  codec.Number, by hand: its text for numbers 0 to 4294967295, an error for others. For every int.
-/
namespace Go.Proofs.Ytfejidinfcmfjaa.P
open Go.RowKit Go.Shelf Go.Proofs.CodecPlain Go.Proofs.YtfejidinfcmfjaaW.PrintWords

attribute [local go_sem] Oper.semAt_some

/-! NUMBER -/
theorem codec_bytes_stops (F : Fence) (m : Nat) (h : F.fn 85) (hro : F.round = none) (hm : 1 ≤ m) (Bn : Nat) (n : Int) (h0n : 0 ≤ n) (h1n : n ≤ 4294967295) (w : World)
    (hc : Boxed w Bn 3 (.int .i64 n)) :
    SeqStopsK F m Try.prog 85 #[.pointer (some ⟨Bn, 0, none⟩)] (fun x : Int => #[Value.int .u8 x]) (fun W W' => ∀ v, Boxed W Bn 3 v → Boxed W' Bn 3 v) (fun ys => ys = nbytes n) (fun _ => True) 4 w := fun l J Jx W hW _ _ hY h0 =>
  codec_bytes1_in F m h hro hm l Bn n h0n h1n J Jx hY W ((hW.block Bn hc.lt).trans hc) h0

theorem boxK_b {w : World} (Bn : Nat) (T : TypeId) (W : World) (l : Nat) (o o' : Obj) (_ : w.heap.size ≤ l) (h : W.heap[l]? = some o) (hn : o.isCells = false) (_ : o.isWalk = false) : ∀ v, Boxed W Bn T v → Boxed (W.putObj l o') Bn T v := fun v hv =>
  hv.kept (grownBy_putObj' W l o') (fun e => by cases e; rw [show W.heap[Bn]? = _ from hv] at h; cases h; cases hn)

theorem infoU8 : (Try.prog.info? 5).map (fun i => (i.zero, i.size, i.bytes)) = some (some (.int .u8 0), 1, 1) := by kernel_rfl

set_option maxRecDepth 100000 in
set_option maxHeartbeats 4000000 in
theorem codec_Number_in (F : Fence) (m : Nat) (h10 : F.fn 58) (h25 : F.fn 77) (h29 : F.fn 85) (hro : F.round = none) (hm : 3 ≤ m) (n : Int) (h0n : 0 ≤ n) (h1n : n ≤ 4294967295) (w : World) :
    CallsIn F m Try.prog 58 #[.int .i64 n] w fun e W' => e = .returned (.tuple #[.string (numStr n), .int .i64 0]) ∧ Below w.heap.size w W' := by
  have h1 : 1 ≤ m := by omega
  obtain ⟨i0, hi, hz0, hz1, hz2⟩ := info_parts infoU8
  refine callsIn_of_wp_marks Try.func58 rfl h10 ?_ hro
  simp only [Try.ntmps58, List.size_toArray, List.length_cons, List.length_nil, Nat.reduceAdd, Nat.reduceSub, Array.replicate_succ, Array.replicate_zero, List.push_toArray, List.append_toArray, List.nil_append, List.cons_append]
  gi_wp2_with (gi_at_call 77; refine (codec_bytes_in F (m - 1) h25 hro _ _).mono ?_; rintro e w' ⟨rfl, rfl⟩)
  have bL := Boxed.new (w.alloc (Obj.cells #[Value.int IntKind.u8 0] 5)) 74 (.slice (some ⟨w.heap.size, 0, none⟩) 1 1)
  have bN := Boxed.new ((w.alloc (Obj.cells #[Value.int IntKind.u8 0] 5)).alloc (Obj.cells #[Value.slice (some ⟨w.heap.size, 0, none⟩) 1 1] 74)) 3 (.int .i64 n)
  simp only [World.size_alloc] at bL bN
  have hB0 : Below w.heap.size w (((w.alloc (Obj.cells #[Value.int IntKind.u8 0] 5)).alloc (Obj.cells #[Value.slice (some ⟨w.heap.size, 0, none⟩) 1 1] 74)).alloc (Obj.cells #[Value.int IntKind.i64 n] 3)) := (((Below.refl _ w).alloc (Nat.le_refl _) _).alloc (by simp) _).alloc (by simp; omega) _
  have hown0 : (w.alloc (Obj.cells #[Value.int IntKind.u8 0] 5)).ownsRow w.heap.size 5 1 (.slice (some ⟨w.heap.size, 0, none⟩) 1 1) (([] : List Int).length + 1) (nums .u8 (0 :: [])) :=
    World.ownsRow_lit w #[.int .u8 0] 1 (Nat.le_refl _) (by simp [maxLen]) rfl
  refine wpIn_rangeFunc_ownG hro h1 (gf := 85) (lb := #[.pointer (some ⟨w.heap.size + 1 + 1, 0, none⟩)]) rfl h29 (enters_of Try.func85 (by kernel_rfl) rfl)
    (codec_bytes_stops F (m - 1) h29 hro (by omega) (w.heap.size + 1 + 1) n h0n h1n _ bN) (fun h k v hv => k v (h v hv)) (boxK_b _ _) (Below.refl _ _) (fun _ => rfl)
    (fun pre W => ((∃ v, Boxed W (w.heap.size + 1) 74 v ∧ W.ownsRow w.heap.size 5 1 v (pre.length + 1) (nums .u8 (0 :: pre)) ∧ True)) ∧ Below w.heap.size w W)
    (fun _ _ _ => False)
    (OwnFrom.and (Own.from (holdsRow_own w.heap.size (w.heap.size + 1) 74 5 1 (fun pre => pre.length + 1) (fun pre => nums .u8 (0 :: pre)) (fun _ _ => True)) _) (ownFrom_below (Nat.le_refl _) (by simp; omega)))
    (fun _ _ _ _ _ hs _ _ => hs)
    ⟨⟨_, bL.alloc _, (hown0.alloc _).alloc _, trivial⟩, hB0⟩
    (fun x => {
      tmps :=
        #[Value.int IntKind.i64 n, undef, Value.string { data := #[] }, Value.int IntKind.i64 0,
          Value.pointer (some { block := w.heap.size + 1, off := 0 }), Value.int IntKind.u8 x, Value.int IntKind.i64 n,
          Value.bool (decide (n < 0)), Value.bool (decide (n < 0)), Value.int IntKind.i64 n,
          Value.bool (decide (4294967295 < n)), Value.bool (decide (n < 0) || decide (4294967295 < n)),
          Value.slice (some { block := w.heap.size, off := 0 }) 1 1, Value.int IntKind.i64 n,
          Value.func (Fn.func 85) #[] #[Value.pointer (some { block := w.heap.size + 1 + 1, off := 0 })], Value.int IntKind.u8 x, undef,
          undef, undef, undef, undef, undef, undef, undef, undef, undef, undef, undef],
      defers := [] }) ?assign ?body ?done ?stop
  case assign =>
    intro l x W K hK
    gi_wp2
    exact hK
  case body =>
    rintro l pre x W ⟨⟨v, hv, hrow, _⟩, hB⟩ hlt
    have hc := hv.cell
    gi_wp2_with (gi_at_builtin; refine wpListIn_append_own _ rfl _ _ 74 rfl w.heap.size 5 i0 (.int .u8 0) 1 1 Try.underlying74 hi hz0 hz1 hz2 rfl (by decide) _ _ _ rfl (hrow.alloc _) ⟨W.heap.size, 0, none⟩ 1 1 [.int .u8 x] rfl rfl (cell_one_new _ _ _) (by simp [Value.oneCell']) (by simp [maxLen]; omega) (by omega) (by have := hB.size; simp; omega) ?_; intro v' w1 hown' hgrow _; obtain ⟨g', cap', rfl⟩ := ownsRow_succ hown'; obtain ⟨hv1, hv2, hr2, hk2, hb2⟩ := hv.appended (by decide) hrow hB.size (by omega) hown' hgrow; have hc1 := hv1.cell; have hf1 := hv1.frozen)
    refine ⟨hk2.from _, fun u hu => ?_, ⟨⟨_, hv2, ?_, trivial⟩, hB.trans hb2⟩⟩
    · have hu1 := (hu.alloc (.cells #[.int .u8 x] 5)).kept hgrow (hu.not_row (by decide) hrow)
      exact hu1.other (by omega) _
    · simpa [nums] using hr2
  case done =>
    rintro D ys W hD rfl ⟨⟨v, hv, hrow, _⟩, hB⟩ hK
    obtain ⟨g, cap, rfl⟩ := ownsRow_succ hrow
    have hc := hv.cell
    have hl4 := nbytes_length n
    have hne := (hv.not_row (by decide) hrow)
    have hgne : w.heap.size + 1 ≠ g := fun e => hne (by rw [e]; rfl)
    have hcg : W.cell? ⟨g, 0, none⟩ = some (.int .u8 0) := by rw [hrow.cellAt 0 (by omega)]; rfl
    have hfg : W.frozen? ⟨g, 0, none⟩ = false := hrow.frozenAt 0
    obtain ⟨hrow1, hgr1⟩ := hrow.stored 0 (.int .u8 ((nbytes n).length : Int))
    have hrow2 : (W.setCell ⟨g, 0, none⟩ (.int .u8 ((nbytes n).length : Int))).ownsRow w.heap.size 5 1 (.slice (some ⟨g, 0, none⟩) ((nbytes n).length + 1) cap) ((nbytes n).length + 1) (nums .u8 (((nbytes n).length : Int) :: nbytes n)) := by simpa [nums] using hrow1
    have hv1 := hv.other hgne (.int .u8 ((nbytes n).length : Int))
    have hc1 := hv1.cell
    have hcv := own_string (P := Try.prog) Try.underlying74 Try.underlying5 Try.underlying9 hrow2
    have hB2 : Below w.heap.size w (W.setCell ⟨g, 0, none⟩ (.int .u8 ((nbytes n).length : Int))) := hB.grown hgr1 hB.size (fun k e => by cases e; exact own_base hrow g rfl)
    have hK2 := (KeepsOthers.setCell W ⟨g, 0, none⟩ (.int .u8 ((nbytes n).length : Int))).same D _ hK rfl
    clear hrow1 hrow2 hgr1 hv1 hrow hv hne hK
    gi_wp2
    refine ⟨by simp, .inl ⟨_, _, rfl, run_takeDeferred hK2, ?_⟩⟩
    exact ⟨_, results_tmp2 rfl _ _ _, rfl, hB2.trans (belowK_b (w := w) (Nat.le_refl _) _ D _ _ (by simp at hD; omega) hK2 rfl rfl)⟩
  case stop =>
    rintro D c pre W _ _ h _
    exact h.elim

/-- What codec.Number answers. -/
def codec_Number.f (a0 : Int) : Option (ByteArray × Int) := if 0 ≤ a0 ∧ a0 ≤ 4294967295 then some (numStr a0, 0) else some (⟨#[]⟩, 1)

set_option maxHeartbeats 1000000 in
theorem codec_Number.bad (n : Int) (h : n < 0 ∨ 4294967295 < n) (w : World) :
    Calls Try.prog 58 #[.int .i64 n] w fun e w' => e = .returned (.tuple #[.string ⟨#[]⟩, .int .i64 1]) ∧ w' = w := by
  rcases h with h | h
  · have e1 : decide (n < 0) = true := decide_eq_true h
    clear h
    go_enter Try.func58, Try.ntmps58
    go_wp2
    go_ret2
    exact ⟨rfl, rfl⟩
  · have e1 : decide (n < 0) = false := decide_eq_false (by omega)
    have e2 : decide (4294967295 < n) = true := decide_eq_true h
    clear h
    go_enter Try.func58, Try.ntmps58
    go_wp2
    go_ret2
    exact ⟨rfl, rfl⟩

theorem codec_Number.calls (a0 : Int) (r1 : ByteArray) (r2 : Int) (w : World) (h : codec_Number.f a0 = some (r1, r2)) :
    Calls Try.prog 58 #[.int .i64 a0] w fun e w' => e = .returned (.tuple #[.string r1, .int .i64 r2]) ∧ Below w.heap.size w w' := by
  unfold codec_Number.f at h
  split at h
  · rename_i hn
    simp only [Option.some.injEq, Prod.mk.injEq] at h
    obtain ⟨rfl, rfl⟩ := h
    exact (callsIn_wide (n := 3)).1 (codec_Number_in Fence.wide 3 trivial trivial trivial rfl (by omega) a0 hn.1 hn.2 w)
  · rename_i hn
    simp only [Option.some.injEq, Prod.mk.injEq] at h
    obtain ⟨rfl, rfl⟩ := h
    exact (codec_Number.bad a0 (by omega) w).mono (by rintro e w' ⟨rfl, rfl⟩; exact ⟨rfl, Below.refl _ _⟩)
end Go.Proofs.Ytfejidinfcmfjaa.P
-- Written by a program of this session (xprint.py) over the kit's print.py.
namespace Go.Proofs.Ytfejidinfcmfjaa.P
open Go.RowKit Go.Proofs.YtfejidinfcmfjaaW.PrintWords Go.Proofs.YtfejidinfcmfjaaW.PrintLast Go.Proofs.YtfejidinfcmfjaaW.PrintMore
attribute [local go_sem] max2_int min2_int max_two min_two max_three min_three max_four min_four   -- for this text's walks alone
set_option linter.unusedVariables false
set_option linter.unusedSimpArgs false

/-! ### codec_Text: function 79 -/
def codec_Text.f (a0 : ByteArray) : Option (ByteArray × Int) := if (a0.size : Int) > 4000 then (some ((⟨#[]⟩ : ByteArray), 2)) else ((codec_Number.f (a0.size : Int)).bind fun bt320 => (if bt320.1.size + a0.size ≤ 9223372036854775807 then (some (bt320.1 ++ a0, bt320.2)) else (none)))
set_option maxHeartbeats 8000000 in
set_option maxRecDepth 100000 in
theorem codec_Text.calls (a0 : ByteArray) (r1 : ByteArray) (r2 : Int) (w : World) (h : codec_Text.f a0 = some (r1, r2)) :
    Calls Try.prog 79 #[.string a0] w fun e w' => e = .returned (.tuple #[.string r1, .int .i64 r2]) ∧ Below w.heap.size w w' := by
  have HB := Aside0.mk (Below.refl w.heap.size w)
  have H : (if (a0.size : Int) > 4000 then (some ((⟨#[]⟩ : ByteArray), 2)) else ((codec_Number.f (a0.size : Int)).bind fun bt320 => (if bt320.1.size + a0.size ≤ 9223372036854775807 then (some (bt320.1 ++ a0, bt320.2)) else (none)))) = some (r1, r2) := h
  clear h
  by_cases c2 : (a0.size : Int) > 4000
  · rw [if_pos c2] at H
    have c2b0 : decide (4000 < (a0.size : Int)) = true := decide_eq_true c2
    have c2b1 : decide (4000 < a0.size) = true := decide_eq_true (by omega)
    clear c2
    simp only [Option.some.injEq, Prod.mk.injEq] at H
    obtain ⟨rfl, rfl⟩ := H
    go_enter Try.func79, Try.ntmps79
    go_wp2
    go_ret2
    exact ⟨by first | rfl | (simp [errW_none, errW_some] <;> rfl) | (simp [*, errW_none, errW_some] <;> rfl), by repeat (first | (with_reducible first | exact HB.out | apply below_alloc | apply pw_below_drewN | apply below_drew1) | exact HB.out)⟩
  · rw [if_neg c2] at H
    have c2b0 : decide (4000 < (a0.size : Int)) = false := decide_eq_false c2
    have c2b1 : decide (4000 < a0.size) = false := decide_eq_false (by omega)
    clear c2
    replace H := Option.bind_eq_some_iff.mp H
    obtain ⟨⟨t320, t321⟩, A30, H⟩ := H
    replace H : (if t320.size + a0.size ≤ 9223372036854775807 then (some (t320 ++ a0, t321)) else (none)) = some (r1, r2) := H
    have A3 := Aside0.mk A30
    clear A30
    by_cases c4 : t320.size + a0.size ≤ 9223372036854775807
    · rw [if_pos c4] at H
      have c4b0 := eq_true c4
      have c4b1 : decide (t320.size + a0.size ≤ 9223372036854775807) = true := decide_eq_true c4
      try have c4b2 : (9223372036854775807 < t320.size + a0.size) = False := eq_false (Nat.not_lt.2 c4)
      simp only [Option.some.injEq, Prod.mk.injEq] at H
      obtain ⟨rfl, rfl⟩ := H
      go_enter Try.func79, Try.ntmps79
      go_wp2_with (first | ((with_reducible refine gate_callee (f := 58) rfl ?_); refine goesL_ (some 12) rfl rfl Try.func58 (by kernel_rfl) rfl #[.int .i64 (a0.size : Int)] rfl (by (try simp only [List.map_toArray, List.map_cons, List.map_nil]); first | done | rfl | (simp only [List.length_drop, List.length_take]; rfl)) ?_; (with_reducible refine (codec_Number.calls (a0.size : Int) t320 t321 _ A3.out).mono ?_); rintro e w5 ⟨rfl, hb⟩; refine ⟨_, rfl, ?_⟩; have n0_ := Aside0.mk (below_step (by repeat (first | (with_reducible first | exact HB.out | apply below_alloc | apply pw_below_drewN | apply below_drew1) | exact HB.out)) hb); clear HB; have HB := n0_; clear n0_; (try clear hb); (try clear hb2); (try clear hk); (try clear hi)))
      go_ret2
      exact ⟨by first | rfl | (simp [errW_none, errW_some] <;> rfl) | (simp [*, errW_none, errW_some] <;> rfl), by repeat (first | (with_reducible first | exact HB.out | apply below_alloc | apply pw_below_drewN | apply below_drew1) | exact HB.out)⟩
    · rw [if_neg c4] at H
      exact absurd H (by simp)

end Go.Proofs.Ytfejidinfcmfjaa.P
/-
  codec.Row, by hand: a row's text: how many, and each one's text; an error for a row too long, or one that holds a text too long. For every row.
-/
namespace Go.Proofs.Ytfejidinfcmfjaa.P
open Go.RowKit Go.Shelf Go.Proofs Go.Proofs.CodecPlain Go.Proofs.YtfejidinfcmfjaaW.PrintWords Go.Proofs.YtfejidinfcmfjaaW.PrintLast

theorem bld_below {T e : TypeId} {B b : Nat} {p : Value} {bs : List Value} {w w' : World} (h : Lib.BuilderAt T e B b p bs w) (hb : Below w.heap.size w w') : Lib.BuilderAt T e B b p bs w' := by
  obtain ⟨hB, v, hbk, hown, hne⟩ := h
  have hlt : b < w.heap.size := (Array.getElem?_eq_some_iff.1 hbk).1
  exact ⟨hB, v, (hb.block b hlt).trans hbk, own_move hown (fun k hk => hb.block k (own_lt hown k hk)), hne⟩
theorem isBld_below {T e : TypeId} {B b : Nat} {bs : List Value} {w w' : World} (h : Lib.IsBuilder T e B b bs w) (hb : Below w.heap.size w w') : Lib.IsBuilder T e B b bs w' :=
  h.elim (fun h => .inl (bld_below h hb)) (fun h => .inr (bld_below h hb))
theorem cells_snoc (L : List UInt8) (s : ByteArray) : Lib.byteCells L ++ Lib.strCells s = Lib.byteCells (L ++ s.data.toList) := by simp [Lib.byteCells, Lib.strCells]

/-- 'b.WriteString(s)'. -/
theorem bld_write (B b : Nat) (L : List UInt8) (s : ByteArray) (w : World) (h : Lib.IsBuilder 76 5 B b (Lib.byteCells L) w) (hlen : L.length + s.size ≤ 140737488355328) (hBw : B ≤ w.heap.size) :
    Calls Try.prog 59 #[.pointer (some ⟨b, 0, none⟩), .string s] w fun e w' => e = .returned (.tuple #[.int .i64 s.size, .nilIface]) ∧ Aside0 (Lib.IsBuilder 76 5 B b (Lib.byteCells (L ++ s.data.toList)) w') ∧ Aside0 (Below B w w') := by
  refine (Builder_WriteString B b (Lib.byteCells L) s w h (by simpa [Lib.byteCells] using hlen) hBw).mono ?_
  rintro e w' ⟨rfl, h1, h2⟩
  exact ⟨rfl, ⟨.inr (by rw [← cells_snoc]; exact h1)⟩, ⟨h2⟩⟩

theorem rd_string (l : List ByteArray) (k : Nat) (h : k < l.length) : rdOf ByteArray.empty l (k : Int) = l[k] := by
  simp [rdOf, List.getD_eq_getElem?_getD, h]

/-- What codec.Row answers. -/
def codec_Row.f (l : List ByteArray) : Option (ByteArray × Int) :=
  if 1000 < l.length then some (⟨#[]⟩, 2) else if l.all (fun s => decide (s.size ≤ 4000)) = true then some (rowStr l, 0) else some (⟨#[]⟩, 2)

theorem text_ok (s : ByteArray) (h : s.size ≤ 4000) : codec_Text.f s = some (textStr s, 0) := by
  have hn := numStr_size (s.size : Int)
  unfold codec_Text.f codec_Number.f
  rw [if_neg (by omega), if_pos (by omega)]
  simp only [Option.bind_some]
  rw [if_pos (by omega)]
  rfl
theorem text_no (s : ByteArray) (h : 4000 < s.size) : codec_Text.f s = some (⟨#[]⟩, 2) := by
  unfold codec_Text.f
  rw [if_pos (by omega)]

set_option maxHeartbeats 4000000 in
set_option maxRecDepth 100000 in
theorem codec_Row_in (A : Option Addr) (c : Nat) (l : List ByteArray) (w : World) (hr : Kd.C Kd.string w A l.length l) (hl : l.length ≤ 1000) :
    Calls Try.prog 60 #[.slice A l.length c] w fun e w' => ∃ r1 r2, Aside0 (codec_Row.f l = some (r1, r2)) ∧ e = .returned (.tuple #[.string r1, .int .i64 r2]) ∧ Below w.heap.size w w' := by
  have HR := Aside0.mk hr
  clear hr
  have e0 : decide (1000 < l.length) = false := decide_eq_false (by omega)
  have hnum : As (codec_Number.f (l.length : Int) = some (numStr l.length, 0)) := ⟨by unfold codec_Number.f; rw [if_pos (by omega)]⟩
  have hns := numStr_size (l.length : Int)
  go_enter Try.func60, Try.ntmps60
  go_wp2_with (go_at_call 58; refine (codec_Number.calls _ _ _ _ hnum.out).mono ?_; rintro e w1 ⟨rfl, hb1⟩; have HB1 := Aside0.mk hb1; clear hb1; have HB := Aside0.mk (((Below.refl w.heap.size w).alloc (Nat.le_refl _) _).trans (HB1.out.mono (by simp))); have hbld := isBld_below (Lib.fresh_isBuilder 76 5 w) HB1.out; have hbl := Aside0.mk hbld; clear hbld HB1)
  go_wp2_with (go_at_call 59; refine (bld_write w.heap.size w.heap.size [] (numStr l.length) _ hbl.out (by simp; omega) HB.out.size).mono ?_; rintro e w2 ⟨rfl, hbw, hB2⟩)
  have HB3 := Aside0.mk (HB.out.trans hB2.out)
  clear HB hB2 hbl
  go_loopw [8, 9, 10, 24] (fun _ _ _ i wr => ∃ k : Nat, k ≤ l.length ∧ i = .int .i64 k ∧ Aside0 (∀ s ∈ l.take k, s.size ≤ 4000) ∧ Aside0 (Lib.IsBuilder 76 5 w.heap.size w.heap.size (Lib.byteCells (((numStr l.length) ++ catStr ((l.take k).map textStr)).data.toList)) wr) ∧ Aside0 (Below w.heap.size w wr))
    (fun _ _ _ i _ => l.length - (intOf i).toNat)
  case atStart => exact ⟨0, Nat.zero_le _, rfl, ⟨by simp⟩, ⟨by have := hbw.out; simpa [catStr] using this⟩, HB3⟩
  case round =>
    clear HB3 hbw e0 hnum
    obtain ⟨k, hk, rfl, hall, hbl, HB⟩ := hrel
    by_cases hlt : k < l.length
    · obtain ⟨ad, rfl, hx⟩ := Kd.at_string (Kd.C_below HR.out HB.out) (k : Int) (by omega) (by omega)
      rw [rd_string l k hlt, Int.toNat_natCast] at hx
      by_cases hsz : l[k].size ≤ 4000
      · have ht := Aside0.mk (text_ok l[k] hsz)
        have hts := textStr_size l[k]
        have hcs := catStr_size (l.take k) hall.out
        rw [List.length_take] at hcs
        have hnx := Aside0.mk (row_next l k hlt)
        have hal2 : Aside0 (∀ s ∈ l.take (k + 1), s.size ≤ 4000) := ⟨by
          rw [List.take_succ_eq_append_getElem hlt]; intro s hs
          rcases List.mem_append.1 hs with h | h
          · exact hall.out s h
          · rw [List.mem_singleton.1 h]; exact hsz⟩
        have hlen : Aside0 (((numStr (l.length : Int)) ++ catStr ((l.take k).map textStr)).data.toList.length + (textStr l[k]).size ≤ 140737488355328) := ⟨by
          rw [Array.length_toList]
          show ((numStr (l.length : Int)) ++ catStr ((l.take k).map textStr)).size + _ ≤ _
          rw [CodecPlain.size_append]
          omega⟩
        clear hsz hts hcs
        go_wp2_with (first | (go_at_call 79; refine (codec_Text.calls _ _ _ _ ht.out).mono ?_; rintro e w3 ⟨rfl, hb3⟩; have hbl3 := Aside0.mk (isBld_below hbl.out hb3); have HB3 := Aside0.mk (HB.out.trans (hb3.mono HB.out.size)); clear hb3) | (go_at_call 59; refine (bld_write w.heap.size w.heap.size _ (textStr l[k]) _ hbl3.out hlen.out HB3.out.size).mono ?_; rintro e w4 ⟨rfl, hbw4, hB4⟩))
        go_roundw
        case rel => exact ⟨k + 1, by omega, by go_num, hal2, ⟨by have := hbw4.out; rw [hnx.out] at this; exact this⟩, ⟨HB3.out.trans hB4.out⟩⟩
        case measure => simp [intOf]; omega
      · have ht := Aside0.mk (text_no l[k] (by omega))
        have hres : Aside0 (codec_Row.f l = some (⟨#[]⟩, 2)) := ⟨by
          unfold codec_Row.f
          rw [if_neg (by omega), if_neg]
          intro h
          have := List.all_eq_true.1 h l[k] (List.getElem_mem hlt)
          exact hsz (of_decide_eq_true this)⟩
        clear hsz
        go_wp2_with (go_at_call 79; refine (codec_Text.calls _ _ _ _ ht.out).mono ?_; rintro e w3 ⟨rfl, hb3⟩; have HB3 := Aside0.mk (HB.out.trans (hb3.mono HB.out.size)); clear hb3)
        go_ret2
        exact ⟨_, _, hres, rfl, HB3.out⟩
    · obtain rfl : k = l.length := by omega
      have hres : Aside0 (codec_Row.f l = some (rowStr l, 0)) := ⟨by
          unfold codec_Row.f
          rw [if_neg (by omega), if_pos]
          rw [List.all_eq_true]
          intro s hs
          have h := hall.out s (by rw [List.take_length]; exact hs)
          exact decide_eq_true h⟩
      have hbe := hbl.out
      rw [List.take_length] at hbe
      have hbe2 := Aside0.mk hbe
      clear hbe hbl
      go_wp2_with (go_at_call 61; refine (Try.Builder_String_any w.heap.size w.heap.size _ _ hbe2.out HB.out.size).mono ?_; rintro e w5 ⟨rfl, hb5⟩; have HB5 := Aside0.mk (HB.out.trans hb5); clear hb5)
      go_ret2
      exact ⟨_, _, hres, rfl, HB5.out⟩

set_option maxHeartbeats 1000000 in
theorem codec_Row.calls (A0 : Option Addr) (c0 : Nat) (l0 : List ByteArray) (r1 : ByteArray) (r2 : Int) (w : World) (hr0 : Kd.C Kd.string w A0 l0.length l0) (hc0 : l0.length ≤ c0) (h : codec_Row.f l0 = some (r1, r2)) :
    Calls Try.prog 60 #[.slice A0 l0.length c0] w fun e w' => e = .returned (.tuple #[.string r1, .int .i64 r2]) ∧ Below w.heap.size w w' := by
  by_cases hl : l0.length ≤ 1000
  · refine (codec_Row_in A0 c0 l0 w hr0 hl).mono ?_
    rintro e w' ⟨s1, s2, hs, rfl, hb⟩
    have := h.symm.trans hs.out
    simp only [Option.some.injEq, Prod.mk.injEq] at this
    obtain ⟨rfl, rfl⟩ := this
    exact ⟨rfl, hb⟩
  · have hgt : 1000 < l0.length := by omega
    have hm := hr0.2.1
    unfold codec_Row.f at h
    rw [if_pos (by omega)] at h
    simp only [Option.some.injEq, Prod.mk.injEq] at h
    obtain ⟨rfl, rfl⟩ := h
    clear hl hr0
    go_enter Try.func60, Try.ntmps60
    go_wp2
    go_ret2
    exact ⟨rfl, Below.refl _ _⟩
end Go.Proofs.Ytfejidinfcmfjaa.P
/-
  msg.Put, by hand.
-/
namespace Go.Proofs.Ytfejidinfcmfjaa.P
open Go.RowKit Go.Shelf Go.Proofs Go.Proofs.CodecPlain Go.Proofs.YtfejidinfcmfjaaW.PrintWords Go.Proofs.YtfejidinfcmfjaaW.PrintLast

def inB (n most : Int) : Bool := decide (0 ≤ n) && decide (n ≤ most)
/-- Whether a message may be. -/
def isB (n0 n1 n2 n3 n4 n5 n6 : Int) (l : List ByteArray) : Bool :=
  inB n1 6 && inB n2 6 && inB n3 1000000 &&
    (if n0 = 1 then loggedB l n5 && (n4 == 0) && (n6 == 0) else if n0 = 2 then (l.length == 0) && (n5 == 0) && (n4 == 0) && inB n6 60 else if n0 = 3 then loggedB l n5 && inB n4 n3 && (n6 == 0) else false)
theorem msg_is_f (k : Nat) (n0 n1 n2 n3 n4 n5 n6 : Int) (l : List ByteArray) : msg_Is.f (k + 1) n0 n1 n2 n3 n4 n5 n6 l = some (isB n0 n1 n2 n3 n4 n5 n6 l) := by
  have hj : ∀ b, msg_Is.j0 (k + 1) (!b) n0 n1 n2 n3 n4 n5 n6 l = some (b && (if n0 = 1 then loggedB l n5 && (n4 == 0) && (n6 == 0) else if n0 = 2 then (l.length == 0) && (n5 == 0) && (n4 == 0) && inB n6 60 else if n0 = 3 then loggedB l n5 && inB n4 n3 && (n6 == 0) else false)) := by
    intro b
    simp only [msg_Is.j0, within_f, msg_logged.f]
    cases b
    · simp
    · simp only [inB]
      have hw : ∀ (c : Prop) [Decidable c] (x : Bool), (if c then some x else some false) = some (decide c && x) := by
        intro c _ x
        by_cases h : c <;> simp [h]
      have hb : ∀ (a x : Bool), (if a = true then some x else some false) = some (a && x) := by
        intro a x
        cases a <;> simp
      simp only [Option.bind_some, hb, hw, Bool.true_and, Bool.not_true, if_neg (show ¬ (false = true) by decide)]
      by_cases h1 : n0 = 1
      · rw [if_pos h1, if_pos h1]
        cases loggedB l n5 <;> by_cases h4 : n4 = 0 <;> simp [h4]
      · rw [if_neg h1, if_neg h1]
        by_cases h2 : n0 = 2
        · rw [if_pos h2, if_pos h2]
          by_cases h5 : (l.length : Int) = 0 <;> by_cases h6 : n5 = 0 <;> by_cases h7 : n4 = 0 <;> simp [h6, h7] <;> simp_all <;> omega
        · rw [if_neg h2, if_neg h2]
          by_cases h3 : n0 = 3
          · simp [h3, Bool.and_assoc]
          · simp [h3]
  unfold msg_Is.f isB
  rw [within_f, within_f, within_f]
  unfold inB
  simp only [Option.bind_some]
  cases h1 : (decide (0 ≤ n1) && decide (n1 ≤ 6))
  · rw [if_neg (by decide)]; exact (hj false).trans (by simp)
  · rw [if_pos rfl]
    cases h2 : (decide (0 ≤ n2) && decide (n2 ≤ 6))
    · rw [if_neg (by decide)]; exact (hj false).trans (by simp)
    · rw [if_pos rfl, hj]
      unfold inB
      simp


/-- A message's bytes. -/
def msgStr (n0 n1 n2 n3 n4 n5 n6 : Int) (l : List ByteArray) : ByteArray := catStr ([n0, n1, n2, n3, n4, n5, n6].map numStr) ++ rowStr l
theorem isB_bd {n0 n1 n2 n3 n4 n5 n6 : Int} {l : List ByteArray} (h : isB n0 n1 n2 n3 n4 n5 n6 l = true) :
    (0 ≤ n0 ∧ n0 ≤ 4294967295) ∧ (0 ≤ n1 ∧ n1 ≤ 4294967295) ∧ (0 ≤ n2 ∧ n2 ≤ 4294967295) ∧ (0 ≤ n3 ∧ n3 ≤ 4294967295) ∧ (0 ≤ n4 ∧ n4 ≤ 4294967295) ∧ (0 ≤ n5 ∧ n5 ≤ 4294967295) ∧ (0 ≤ n6 ∧ n6 ≤ 4294967295) ∧ l.length ≤ 60 ∧ ∀ s ∈ l, s.size ≤ 300 := by
  unfold isB inB at h
  simp only [Bool.and_eq_true, decide_eq_true_eq] at h
  obtain ⟨⟨⟨h1, h2⟩, h3⟩, h4⟩ := h
  have hlog : loggedB l n5 = true → (0 ≤ n5 ∧ n5 ≤ 4294967295) ∧ l.length ≤ 60 ∧ ∀ s ∈ l, s.size ≤ 300 := by
    intro hl
    unfold loggedB at hl
    simp only [Bool.and_eq_true, decide_eq_true_eq, Bool.not_eq_true'] at hl
    obtain ⟨⟨a, b, c⟩, d⟩ := hl
    refine ⟨⟨b, by omega⟩, a, fun s hs => ?_⟩
    have := List.any_eq_false.1 d s hs
    unfold long300 at this
    simpa using this
  by_cases e1 : n0 = 1
  · rw [if_pos e1] at h4
    simp only [Bool.and_eq_true, beq_iff_eq] at h4
    obtain ⟨⟨a, b⟩, c⟩ := h4
    obtain ⟨x, y, z⟩ := hlog a
    exact ⟨by omega, by omega, by omega, by omega, by omega, x, by omega, y, z⟩
  · rw [if_neg e1] at h4
    by_cases e2 : n0 = 2
    · rw [if_pos e2] at h4
      simp only [Bool.and_eq_true, beq_iff_eq, decide_eq_true_eq] at h4
      obtain ⟨⟨⟨a, b⟩, c⟩, d⟩ := h4
      have := List.eq_nil_of_length_eq_zero a
      subst this
      exact ⟨by omega, by omega, by omega, by omega, by omega, by omega, by omega, by simp, by simp⟩
    · rw [if_neg e2] at h4
      by_cases e3 : n0 = 3
      · rw [if_pos e3] at h4
        simp only [Bool.and_eq_true, beq_iff_eq, decide_eq_true_eq] at h4
        obtain ⟨⟨a, b⟩, c⟩ := h4
        obtain ⟨x, y, z⟩ := hlog a
        exact ⟨by omega, by omega, by omega, by omega, by omega, x, by omega, y, z⟩
      · rw [if_neg e3] at h4; cases h4
/-- What msg.Put answers. -/
def msg_Put.f (n0 n1 n2 n3 n4 n5 n6 : Int) (l : List ByteArray) : Option (ByteArray × Int) := if isB n0 n1 n2 n3 n4 n5 n6 l = true then some (msgStr n0 n1 n2 n3 n4 n5 n6 l, 0) else some (⟨#[]⟩, 1)
theorem cat_snoc (ns : List Int) (n : Int) : catStr ((ns ++ [n]).map numStr) = catStr (ns.map numStr) ++ numStr n := by
  rw [List.map_append, catStr_append]
  rw [show catStr ([n].map numStr) = numStr n ++ ByteArray.empty from rfl, ByteArray.append_empty]
theorem cat_size : ∀ ns : List Int, (catStr (ns.map numStr)).size ≤ ns.length * 5
  | [] => by show (ByteArray.empty).size ≤ _; simp
  | n :: ns => by
    have := cat_size ns
    have h2 := numStr_size n
    show (numStr n ++ catStr (ns.map numStr)).size ≤ _
    rw [CodecPlain.size_append]; simp only [List.length_cons]; omega
theorem row_size (l : List ByteArray) (hl : l.length ≤ 60) (h : ∀ s ∈ l, s.size ≤ 300) : (rowStr l).size ≤ 300000 := by
  have h1 := numStr_size (l.length : Int)
  have h2 := catStr_size l (fun s hs => by have := h s hs; omega)
  unfold rowStr
  rw [CodecPlain.size_append]
  omega
theorem codec_row_ok (l : List ByteArray) (hl : l.length ≤ 60) (h : ∀ s ∈ l, s.size ≤ 300) : codec_Row.f l = some (rowStr l, 0) := by
  unfold codec_Row.f
  rw [if_neg (by omega), if_pos]
  rw [List.all_eq_true]
  exact fun s hs => decide_eq_true (by have := h s hs; omega)


set_option maxHeartbeats 4000000 in
theorem msg_Put_no (A : Option Addr) (c : Nat) (n0 n1 n2 n3 n4 n5 n6 : Int) (l : List ByteArray) (w : World) (hr : Kd.C Kd.string w A l.length l) (hc : l.length ≤ c) (h : isB n0 n1 n2 n3 n4 n5 n6 l = false) :
    Calls Try.prog 31 #[.agg #[.int .i64 n0, .int .i64 n1, .int .i64 n2, .int .i64 n3, .int .i64 n4, .int .i64 n5, .int .i64 n6, .slice A l.length c]] w fun e w' => e = .returned (.tuple #[.string ⟨#[]⟩, .int .i64 1]) ∧ Below w.heap.size w w' := by
  have HB0 := Aside0.mk ((Below.refl w.heap.size w).alloc (Nat.le_refl _) (.cells #[.int .i64 n0, .int .i64 n1, .int .i64 n2, .int .i64 n3, .int .i64 n4, .int .i64 n5, .int .i64 n6, .slice A l.length c] 29))
  have HI := Aside0.mk (msg_Is.calls 1 n0 n1 n2 n3 n4 n5 n6 A c l false _ (Kd.C_below hr HB0.out) hc (by rw [msg_is_f 0, h]))
  clear hr h
  go_enter Try.func31, Try.ntmps31
  go_wp2_with (first | (go_at_call 36; (with_reducible refine HI.out.mono ?_); rintro e w1 ⟨rfl, hb1⟩; have HB1 := Aside0.mk (HB0.out.trans (hb1.mono HB0.out.size)); clear hb1))
  go_ret2
  exact ⟨rfl, HB1.out⟩
set_option maxHeartbeats 16000000 in
set_option maxRecDepth 100000 in
theorem msg_Put_yes (A : Option Addr) (c : Nat) (n0 n1 n2 n3 n4 n5 n6 : Int) (l : List ByteArray) (w : World) (hr : Kd.C Kd.string w A l.length l) (hc : l.length ≤ c) (h : isB n0 n1 n2 n3 n4 n5 n6 l = true) :
    Calls Try.prog 31 #[.agg #[.int .i64 n0, .int .i64 n1, .int .i64 n2, .int .i64 n3, .int .i64 n4, .int .i64 n5, .int .i64 n6, .slice A l.length c]] w fun e w' => e = .returned (.tuple #[.string (msgStr n0 n1 n2 n3 n4 n5 n6 l), .int .i64 0]) ∧ Below w.heap.size w w' := by
  obtain ⟨b0, b1, b2, b3, b4, b5, b6, hl, hsz⟩ := isB_bd h
  have HB0 := Aside0.mk ((Below.refl w.heap.size w).alloc (Nat.le_refl _) (.cells #[.int .i64 n0, .int .i64 n1, .int .i64 n2, .int .i64 n3, .int .i64 n4, .int .i64 n5, .int .i64 n6, .slice A l.length c] 29))
  have HE0 := Aside0.mk (blk_new w (.cells #[.int .i64 n0, .int .i64 n1, .int .i64 n2, .int .i64 n3, .int .i64 n4, .int .i64 n5, .int .i64 n6, .slice A l.length c] 29))
  have HI := Aside0.mk (msg_Is.calls 1 n0 n1 n2 n3 n4 n5 n6 A c l true _ (Kd.C_below hr HB0.out) hc (by rw [msg_is_f 0, h]))
  have HR := Aside0.mk hr
  have HRow := Aside0.mk (codec_row_ok l hl hsz)
  have HRS := Aside0.mk (row_size l hl hsz)
  have HN0 := Aside0.mk (fun W => codec_Number.calls n0 (numStr n0) 0 W (by unfold codec_Number.f; rw [if_pos b0]))
  have HN1 := Aside0.mk (fun W => codec_Number.calls n1 (numStr n1) 0 W (by unfold codec_Number.f; rw [if_pos b1]))
  have HN2 := Aside0.mk (fun W => codec_Number.calls n2 (numStr n2) 0 W (by unfold codec_Number.f; rw [if_pos b2]))
  have HN3 := Aside0.mk (fun W => codec_Number.calls n3 (numStr n3) 0 W (by unfold codec_Number.f; rw [if_pos b3]))
  have HN4 := Aside0.mk (fun W => codec_Number.calls n4 (numStr n4) 0 W (by unfold codec_Number.f; rw [if_pos b4]))
  have HN5 := Aside0.mk (fun W => codec_Number.calls n5 (numStr n5) 0 W (by unfold codec_Number.f; rw [if_pos b5]))
  have HN6 := Aside0.mk (fun W => codec_Number.calls n6 (numStr n6) 0 W (by unfold codec_Number.f; rw [if_pos b6]))
  clear hr h hsz b0 b1 b2 b3 b4 b5 b6
  go_enter Try.func31, Try.ntmps31
  go_wp2_with (first | (go_at_call 36; (with_reducible refine HI.out.mono ?_); rintro e w1 ⟨rfl, hb1⟩; have HB1 := Aside0.mk (HB0.out.trans (hb1.mono HB0.out.size)); have HE1 := Aside0.mk (blk_below HE0.out hb1); clear hb1))
  have hbld := Aside0.mk (Lib.fresh_isBuilder 76 5 w1)
  have HBb := Aside0.mk ((Below.refl w1.heap.size w1).alloc (Nat.le_refl _) (.cells #[.pointer none, .slice none 0 0] 76))
  have hlt1 := blk_lt HE1.out
  have HLT := Aside0.mk hlt1
  clear HB0 HE0 HI hlt1
  go_wp2_with (first | (go_at_call 57; (with_reducible refine (msg_fields_calls w.heap.size _).mono ?_); rintro e w2 ⟨rfl, hb2⟩; have hbl2 := Aside0.mk (isBld_below hbld.out hb2); have HB2 := Aside0.mk (HBb.out.trans (hb2.mono HBb.out.size)); clear hb2 hbld HBb))
  simp only [ptrs]
  go_loopw [6, 7, 8, 15] (fun _ _ _ i wr => ∃ k : Nat, k ≤ 7 ∧ i = .int .i64 k ∧ Aside0 (Lib.IsBuilder 76 5 w1.heap.size w1.heap.size (Lib.byteCells (catStr (([n0, n1, n2, n3, n4, n5, n6].take k).map numStr)).data.toList) wr) ∧ Aside0 (Below w1.heap.size w1 wr))
    (fun _ _ _ i _ => 7 - (intOf i).toNat)
  case atStart => exact ⟨0, Nat.zero_le _, rfl, ⟨hbl2.out⟩, HB2⟩
  case round =>
    clear hbl2 HB2
    obtain ⟨k, hk, rfl, hbl, HB⟩ := hrel
    have HEr := Aside0.mk ((HB.out.block w.heap.size HLT.out).trans HE1.out)
    have hks : k = 0 ∨ k = 1 ∨ k = 2 ∨ k = 3 ∨ k = 4 ∨ k = 5 ∨ k = 6 ∨ k = 7 := by omega
    rcases hks with rfl | rfl | rfl | rfl | rfl | rfl | rfl | rfl
    · have ck := blk_cell HEr.out 0
      have hnx := Aside0.mk (cat_snoc [] n0)
      have hlen : Aside0 ((catStr (([n0, n1, n2, n3, n4, n5, n6].take 0).map numStr)).data.toList.length + (numStr n0).size ≤ 140737488355328) := ⟨by
        have h1 := cat_size ([n0, n1, n2, n3, n4, n5, n6].take 0)
        have h2 := numStr_size n0
        have h3 : ([n0, n1, n2, n3, n4, n5, n6].take 0).length ≤ 7 := by simp
        rw [Array.length_toList]
        show (catStr (([n0, n1, n2, n3, n4, n5, n6].take 0).map numStr)).size + _ ≤ _
        omega⟩
      simp only [List.getElem?_toArray, List.getElem?_cons_zero, List.getElem?_cons_succ] at ck
      go_wp2_with (first | ((with_reducible refine gate_dst (N := 17) rfl ?_); refine Kd.event_run (v := .pointer (some ⟨w.heap.size, 0, none⟩)) (w1 := wr) rfl ?hx ?_; (case hx => kernel_rfl)) | (go_at_call 58; (with_reducible refine (HN0.out _).mono ?_); rintro e w4 ⟨rfl, hb4⟩; have hbl4 := Aside0.mk (isBld_below hbl.out hb4); have HB4 := Aside0.mk (HB.out.trans (hb4.mono HB.out.size)); clear hb4))
      go_wp2_with (first | (go_at_call 59; (refine (bld_write w1.heap.size w1.heap.size _ (numStr n0) _ hbl4.out hlen.out HB4.out.size).mono ?_); rintro e w5 ⟨rfl, hbw5, hB5⟩))
      go_roundw
      case measure => simp [intOf]
      case rel =>
      refine ⟨1, by omega, by go_num, ⟨?_⟩, ⟨HB4.out.trans hB5.out⟩⟩
      have h5 := hbw5.out
      rw [show (catStr (([n0, n1, n2, n3, n4, n5, n6].take 0).map numStr)).data.toList ++ (numStr n0).data.toList = (catStr (([n0, n1, n2, n3, n4, n5, n6].take 0).map numStr) ++ numStr n0).data.toList from (by rw [ByteArray.toList_data_append])] at h5
      rw [show [n0, n1, n2, n3, n4, n5, n6].take 1 = [] ++ [n0] from rfl, hnx.out]
      exact h5
    · have ck := blk_cell HEr.out 1
      have hnx := Aside0.mk (cat_snoc [n0] n1)
      have hlen : Aside0 ((catStr (([n0, n1, n2, n3, n4, n5, n6].take 1).map numStr)).data.toList.length + (numStr n1).size ≤ 140737488355328) := ⟨by
        have h1 := cat_size ([n0, n1, n2, n3, n4, n5, n6].take 1)
        have h2 := numStr_size n1
        have h3 : ([n0, n1, n2, n3, n4, n5, n6].take 1).length ≤ 7 := by simp
        rw [Array.length_toList]
        show (catStr (([n0, n1, n2, n3, n4, n5, n6].take 1).map numStr)).size + _ ≤ _
        omega⟩
      simp only [List.getElem?_toArray, List.getElem?_cons_zero, List.getElem?_cons_succ] at ck
      go_wp2_with (first | ((with_reducible refine gate_dst (N := 17) rfl ?_); refine Kd.event_run (v := .pointer (some ⟨w.heap.size, 1, none⟩)) (w1 := wr) rfl ?hx ?_; (case hx => kernel_rfl)) | (go_at_call 58; (with_reducible refine (HN1.out _).mono ?_); rintro e w4 ⟨rfl, hb4⟩; have hbl4 := Aside0.mk (isBld_below hbl.out hb4); have HB4 := Aside0.mk (HB.out.trans (hb4.mono HB.out.size)); clear hb4))
      go_wp2_with (first | (go_at_call 59; (refine (bld_write w1.heap.size w1.heap.size _ (numStr n1) _ hbl4.out hlen.out HB4.out.size).mono ?_); rintro e w5 ⟨rfl, hbw5, hB5⟩))
      go_roundw
      case measure => simp [intOf]
      case rel =>
      refine ⟨2, by omega, by go_num, ⟨?_⟩, ⟨HB4.out.trans hB5.out⟩⟩
      have h5 := hbw5.out
      rw [show (catStr (([n0, n1, n2, n3, n4, n5, n6].take 1).map numStr)).data.toList ++ (numStr n1).data.toList = (catStr (([n0, n1, n2, n3, n4, n5, n6].take 1).map numStr) ++ numStr n1).data.toList from (by rw [ByteArray.toList_data_append])] at h5
      rw [show [n0, n1, n2, n3, n4, n5, n6].take 2 = [n0] ++ [n1] from rfl, hnx.out]
      exact h5
    · have ck := blk_cell HEr.out 2
      have hnx := Aside0.mk (cat_snoc [n0, n1] n2)
      have hlen : Aside0 ((catStr (([n0, n1, n2, n3, n4, n5, n6].take 2).map numStr)).data.toList.length + (numStr n2).size ≤ 140737488355328) := ⟨by
        have h1 := cat_size ([n0, n1, n2, n3, n4, n5, n6].take 2)
        have h2 := numStr_size n2
        have h3 : ([n0, n1, n2, n3, n4, n5, n6].take 2).length ≤ 7 := by simp
        rw [Array.length_toList]
        show (catStr (([n0, n1, n2, n3, n4, n5, n6].take 2).map numStr)).size + _ ≤ _
        omega⟩
      simp only [List.getElem?_toArray, List.getElem?_cons_zero, List.getElem?_cons_succ] at ck
      go_wp2_with (first | ((with_reducible refine gate_dst (N := 17) rfl ?_); refine Kd.event_run (v := .pointer (some ⟨w.heap.size, 2, none⟩)) (w1 := wr) rfl ?hx ?_; (case hx => kernel_rfl)) | (go_at_call 58; (with_reducible refine (HN2.out _).mono ?_); rintro e w4 ⟨rfl, hb4⟩; have hbl4 := Aside0.mk (isBld_below hbl.out hb4); have HB4 := Aside0.mk (HB.out.trans (hb4.mono HB.out.size)); clear hb4))
      go_wp2_with (first | (go_at_call 59; (refine (bld_write w1.heap.size w1.heap.size _ (numStr n2) _ hbl4.out hlen.out HB4.out.size).mono ?_); rintro e w5 ⟨rfl, hbw5, hB5⟩))
      go_roundw
      case measure => simp [intOf]
      case rel =>
      refine ⟨3, by omega, by go_num, ⟨?_⟩, ⟨HB4.out.trans hB5.out⟩⟩
      have h5 := hbw5.out
      rw [show (catStr (([n0, n1, n2, n3, n4, n5, n6].take 2).map numStr)).data.toList ++ (numStr n2).data.toList = (catStr (([n0, n1, n2, n3, n4, n5, n6].take 2).map numStr) ++ numStr n2).data.toList from (by rw [ByteArray.toList_data_append])] at h5
      rw [show [n0, n1, n2, n3, n4, n5, n6].take 3 = [n0, n1] ++ [n2] from rfl, hnx.out]
      exact h5
    · have ck := blk_cell HEr.out 3
      have hnx := Aside0.mk (cat_snoc [n0, n1, n2] n3)
      have hlen : Aside0 ((catStr (([n0, n1, n2, n3, n4, n5, n6].take 3).map numStr)).data.toList.length + (numStr n3).size ≤ 140737488355328) := ⟨by
        have h1 := cat_size ([n0, n1, n2, n3, n4, n5, n6].take 3)
        have h2 := numStr_size n3
        have h3 : ([n0, n1, n2, n3, n4, n5, n6].take 3).length ≤ 7 := by simp
        rw [Array.length_toList]
        show (catStr (([n0, n1, n2, n3, n4, n5, n6].take 3).map numStr)).size + _ ≤ _
        omega⟩
      simp only [List.getElem?_toArray, List.getElem?_cons_zero, List.getElem?_cons_succ] at ck
      go_wp2_with (first | ((with_reducible refine gate_dst (N := 17) rfl ?_); refine Kd.event_run (v := .pointer (some ⟨w.heap.size, 3, none⟩)) (w1 := wr) rfl ?hx ?_; (case hx => kernel_rfl)) | (go_at_call 58; (with_reducible refine (HN3.out _).mono ?_); rintro e w4 ⟨rfl, hb4⟩; have hbl4 := Aside0.mk (isBld_below hbl.out hb4); have HB4 := Aside0.mk (HB.out.trans (hb4.mono HB.out.size)); clear hb4))
      go_wp2_with (first | (go_at_call 59; (refine (bld_write w1.heap.size w1.heap.size _ (numStr n3) _ hbl4.out hlen.out HB4.out.size).mono ?_); rintro e w5 ⟨rfl, hbw5, hB5⟩))
      go_roundw
      case measure => simp [intOf]
      case rel =>
      refine ⟨4, by omega, by go_num, ⟨?_⟩, ⟨HB4.out.trans hB5.out⟩⟩
      have h5 := hbw5.out
      rw [show (catStr (([n0, n1, n2, n3, n4, n5, n6].take 3).map numStr)).data.toList ++ (numStr n3).data.toList = (catStr (([n0, n1, n2, n3, n4, n5, n6].take 3).map numStr) ++ numStr n3).data.toList from (by rw [ByteArray.toList_data_append])] at h5
      rw [show [n0, n1, n2, n3, n4, n5, n6].take 4 = [n0, n1, n2] ++ [n3] from rfl, hnx.out]
      exact h5
    · have ck := blk_cell HEr.out 4
      have hnx := Aside0.mk (cat_snoc [n0, n1, n2, n3] n4)
      have hlen : Aside0 ((catStr (([n0, n1, n2, n3, n4, n5, n6].take 4).map numStr)).data.toList.length + (numStr n4).size ≤ 140737488355328) := ⟨by
        have h1 := cat_size ([n0, n1, n2, n3, n4, n5, n6].take 4)
        have h2 := numStr_size n4
        have h3 : ([n0, n1, n2, n3, n4, n5, n6].take 4).length ≤ 7 := by simp
        rw [Array.length_toList]
        show (catStr (([n0, n1, n2, n3, n4, n5, n6].take 4).map numStr)).size + _ ≤ _
        omega⟩
      simp only [List.getElem?_toArray, List.getElem?_cons_zero, List.getElem?_cons_succ] at ck
      go_wp2_with (first | ((with_reducible refine gate_dst (N := 17) rfl ?_); refine Kd.event_run (v := .pointer (some ⟨w.heap.size, 4, none⟩)) (w1 := wr) rfl ?hx ?_; (case hx => kernel_rfl)) | (go_at_call 58; (with_reducible refine (HN4.out _).mono ?_); rintro e w4 ⟨rfl, hb4⟩; have hbl4 := Aside0.mk (isBld_below hbl.out hb4); have HB4 := Aside0.mk (HB.out.trans (hb4.mono HB.out.size)); clear hb4))
      go_wp2_with (first | (go_at_call 59; (refine (bld_write w1.heap.size w1.heap.size _ (numStr n4) _ hbl4.out hlen.out HB4.out.size).mono ?_); rintro e w5 ⟨rfl, hbw5, hB5⟩))
      go_roundw
      case measure => simp [intOf]
      case rel =>
      refine ⟨5, by omega, by go_num, ⟨?_⟩, ⟨HB4.out.trans hB5.out⟩⟩
      have h5 := hbw5.out
      rw [show (catStr (([n0, n1, n2, n3, n4, n5, n6].take 4).map numStr)).data.toList ++ (numStr n4).data.toList = (catStr (([n0, n1, n2, n3, n4, n5, n6].take 4).map numStr) ++ numStr n4).data.toList from (by rw [ByteArray.toList_data_append])] at h5
      rw [show [n0, n1, n2, n3, n4, n5, n6].take 5 = [n0, n1, n2, n3] ++ [n4] from rfl, hnx.out]
      exact h5
    · have ck := blk_cell HEr.out 5
      have hnx := Aside0.mk (cat_snoc [n0, n1, n2, n3, n4] n5)
      have hlen : Aside0 ((catStr (([n0, n1, n2, n3, n4, n5, n6].take 5).map numStr)).data.toList.length + (numStr n5).size ≤ 140737488355328) := ⟨by
        have h1 := cat_size ([n0, n1, n2, n3, n4, n5, n6].take 5)
        have h2 := numStr_size n5
        have h3 : ([n0, n1, n2, n3, n4, n5, n6].take 5).length ≤ 7 := by simp
        rw [Array.length_toList]
        show (catStr (([n0, n1, n2, n3, n4, n5, n6].take 5).map numStr)).size + _ ≤ _
        omega⟩
      simp only [List.getElem?_toArray, List.getElem?_cons_zero, List.getElem?_cons_succ] at ck
      go_wp2_with (first | ((with_reducible refine gate_dst (N := 17) rfl ?_); refine Kd.event_run (v := .pointer (some ⟨w.heap.size, 5, none⟩)) (w1 := wr) rfl ?hx ?_; (case hx => kernel_rfl)) | (go_at_call 58; (with_reducible refine (HN5.out _).mono ?_); rintro e w4 ⟨rfl, hb4⟩; have hbl4 := Aside0.mk (isBld_below hbl.out hb4); have HB4 := Aside0.mk (HB.out.trans (hb4.mono HB.out.size)); clear hb4))
      go_wp2_with (first | (go_at_call 59; (refine (bld_write w1.heap.size w1.heap.size _ (numStr n5) _ hbl4.out hlen.out HB4.out.size).mono ?_); rintro e w5 ⟨rfl, hbw5, hB5⟩))
      go_roundw
      case measure => simp [intOf]
      case rel =>
      refine ⟨6, by omega, by go_num, ⟨?_⟩, ⟨HB4.out.trans hB5.out⟩⟩
      have h5 := hbw5.out
      rw [show (catStr (([n0, n1, n2, n3, n4, n5, n6].take 5).map numStr)).data.toList ++ (numStr n5).data.toList = (catStr (([n0, n1, n2, n3, n4, n5, n6].take 5).map numStr) ++ numStr n5).data.toList from (by rw [ByteArray.toList_data_append])] at h5
      rw [show [n0, n1, n2, n3, n4, n5, n6].take 6 = [n0, n1, n2, n3, n4] ++ [n5] from rfl, hnx.out]
      exact h5
    · have ck := blk_cell HEr.out 6
      have hnx := Aside0.mk (cat_snoc [n0, n1, n2, n3, n4, n5] n6)
      have hlen : Aside0 ((catStr (([n0, n1, n2, n3, n4, n5, n6].take 6).map numStr)).data.toList.length + (numStr n6).size ≤ 140737488355328) := ⟨by
        have h1 := cat_size ([n0, n1, n2, n3, n4, n5, n6].take 6)
        have h2 := numStr_size n6
        have h3 : ([n0, n1, n2, n3, n4, n5, n6].take 6).length ≤ 7 := by simp
        rw [Array.length_toList]
        show (catStr (([n0, n1, n2, n3, n4, n5, n6].take 6).map numStr)).size + _ ≤ _
        omega⟩
      simp only [List.getElem?_toArray, List.getElem?_cons_zero, List.getElem?_cons_succ] at ck
      go_wp2_with (first | ((with_reducible refine gate_dst (N := 17) rfl ?_); refine Kd.event_run (v := .pointer (some ⟨w.heap.size, 6, none⟩)) (w1 := wr) rfl ?hx ?_; (case hx => kernel_rfl)) | (go_at_call 58; (with_reducible refine (HN6.out _).mono ?_); rintro e w4 ⟨rfl, hb4⟩; have hbl4 := Aside0.mk (isBld_below hbl.out hb4); have HB4 := Aside0.mk (HB.out.trans (hb4.mono HB.out.size)); clear hb4))
      go_wp2_with (first | (go_at_call 59; (refine (bld_write w1.heap.size w1.heap.size _ (numStr n6) _ hbl4.out hlen.out HB4.out.size).mono ?_); rintro e w5 ⟨rfl, hbw5, hB5⟩))
      go_roundw
      case measure => simp [intOf]
      case rel =>
      refine ⟨7, by omega, by go_num, ⟨?_⟩, ⟨HB4.out.trans hB5.out⟩⟩
      have h5 := hbw5.out
      rw [show (catStr (([n0, n1, n2, n3, n4, n5, n6].take 6).map numStr)).data.toList ++ (numStr n6).data.toList = (catStr (([n0, n1, n2, n3, n4, n5, n6].take 6).map numStr) ++ numStr n6).data.toList from (by rw [ByteArray.toList_data_append])] at h5
      rw [show [n0, n1, n2, n3, n4, n5, n6].take 7 = [n0, n1, n2, n3, n4, n5] ++ [n6] from rfl, hnx.out]
      exact h5
    · have c7 := blk_cell HEr.out 7
      simp only [List.getElem?_toArray, List.getElem?_cons_zero, List.getElem?_cons_succ] at c7
      have HRr := Aside0.mk (Kd.C_below HR.out (HB1.out.trans (HB.out.mono HB1.out.size)))
      have hlen : Aside0 ((catStr (([n0, n1, n2, n3, n4, n5, n6].take 7).map numStr)).data.toList.length + (rowStr l).size ≤ 140737488355328) := ⟨by
        have h1 := cat_size ([n0, n1, n2, n3, n4, n5, n6].take 7)
        have h3 : ([n0, n1, n2, n3, n4, n5, n6].take 7).length ≤ 7 := by simp
        have h2 := HRS.out
        rw [Array.length_toList]
        show (catStr (([n0, n1, n2, n3, n4, n5, n6].take 7).map numStr)).size + _ ≤ _
        omega⟩
      go_wp2_with (first | (go_at_call 60; (with_reducible refine (codec_Row.calls A c l (rowStr l) 0 _ HRr.out hc HRow.out).mono ?_); rintro e w4 ⟨rfl, hb4⟩; have hbl4 := Aside0.mk (isBld_below hbl.out hb4); have HB4 := Aside0.mk (HB.out.trans (hb4.mono HB.out.size)); clear hb4))
      go_wp2_with (first | (go_at_call 59; (refine (bld_write w1.heap.size w1.heap.size _ (rowStr l) _ hbl4.out hlen.out HB4.out.size).mono ?_); rintro e w5 ⟨rfl, hbw5, hB5⟩; have HB5 := Aside0.mk (HB4.out.trans hB5.out)))
      go_wp2_with (first | (go_at_call 61; (refine (Try.Builder_String_any w1.heap.size w1.heap.size _ _ hbw5.out HB5.out.size).mono ?_); rintro e w6 ⟨rfl, hb6⟩; have HB6 := Aside0.mk (HB5.out.trans hb6); clear hb6))
      go_ret2
      refine ⟨?_, HB1.out.trans (HB6.out.mono HB1.out.size)⟩
      have hfin : ∀ a b : ByteArray, (⟨(a.data.toList ++ b.data.toList).toArray⟩ : ByteArray) = a ++ b := fun a b => ByteArray.ext (by rw [ByteArray.data_append]; simp)
      show Ending.returned (.tuple #[.string ⟨((catStr (([n0, n1, n2, n3, n4, n5, n6].take 7).map numStr)).data.toList ++ (rowStr l).data.toList).toArray⟩, .int .i64 0]) = _
      rw [hfin]
      rfl
theorem msg_Put.calls (a0_0 a0_1 a0_2 a0_3 a0_4 a0_5 a0_6 : Int) (A0_7 : Option Addr) (c0_7 : Nat) (l0_7 : List ByteArray) (r1 : ByteArray) (r2 : Int) (w : World) (hr0_7 : Kd.C Kd.string w A0_7 l0_7.length l0_7) (hc0_7 : l0_7.length ≤ c0_7) (h : msg_Put.f a0_0 a0_1 a0_2 a0_3 a0_4 a0_5 a0_6 l0_7 = some (r1, r2)) :
    Calls Try.prog 31 #[.agg #[.int .i64 a0_0, .int .i64 a0_1, .int .i64 a0_2, .int .i64 a0_3, .int .i64 a0_4, .int .i64 a0_5, .int .i64 a0_6, .slice A0_7 l0_7.length c0_7]] w fun e w' => e = .returned (.tuple #[.string r1, .int .i64 r2]) ∧ Below w.heap.size w w' := by
  unfold msg_Put.f at h
  cases hb : isB a0_0 a0_1 a0_2 a0_3 a0_4 a0_5 a0_6 l0_7
  · rw [hb, if_neg (by decide)] at h
    simp only [Option.some.injEq, Prod.mk.injEq] at h
    obtain ⟨rfl, rfl⟩ := h
    exact msg_Put_no A0_7 c0_7 _ _ _ _ _ _ _ l0_7 w hr0_7 hc0_7 hb
  · rw [hb, if_pos rfl] at h
    simp only [Option.some.injEq, Prod.mk.injEq] at h
    obtain ⟨rfl, rfl⟩ := h
    exact msg_Put_yes A0_7 c0_7 _ _ _ _ _ _ _ l0_7 w hr0_7 hc0_7 hb
end Go.Proofs.Ytfejidinfcmfjaa.P
/-
  Plain laws on reading a number's bytes: no program in sight.
-/
namespace Go.Proofs.CodecPlain

/-- The number that bytes say, the highest first. -/
def accB (l : List UInt8) : Int := l.foldl (fun a b => a * 256 + (b.toNat : Int)) 0
theorem accB_snoc (l : List UInt8) (b : UInt8) : accB (l ++ [b]) = accB l * 256 + (b.toNat : Int) := by simp [accB]
theorem accB_from (l : List UInt8) : ∀ a : Int, 0 ≤ a → 0 ≤ l.foldl (fun a b => a * 256 + (b.toNat : Int)) a ∧ l.foldl (fun a b => a * 256 + (b.toNat : Int)) a < (a + 1) * 256 ^ l.length := by
  induction l with
  | nil => intro a h; simp; omega
  | cons b l ih =>
    intro a h
    have hb := b.toNat_lt
    have h1 := ih (a * 256 + (b.toNat : Int)) (by omega)
    rw [List.foldl_cons, List.length_cons, Int.pow_succ]
    refine ⟨h1.1, Int.lt_of_lt_of_le h1.2 ?_⟩
    rw [Int.mul_comm (256 ^ l.length) 256, ← Int.mul_assoc]
    exact Int.mul_le_mul_of_nonneg_right (by omega) (Int.le_of_lt (Int.pow_pos (by omega)))
theorem accB_bd (l : List UInt8) : 0 ≤ accB l ∧ accB l < 256 ^ l.length := by
  have := accB_from l 0 (by omega)
  simpa [accB] using this

/-- The first byte of bytes. -/
def hd (s : ByteArray) : Nat := if h : 0 < s.size then (s[0]'h).toNat else 0

/-- What reads as a number at the begin of bytes: it, what stands behind, and whether there is one. -/
def getNum (s : ByteArray) : Int × ByteArray × Bool :=
  if s.size = 0 ∨ 4 < hd s ∨ s.size ≤ hd s then (0, ⟨#[]⟩, false)
  else if hd s ≠ 0 ∧ hd (s.extract 1 (1 + hd s)) = 0 then (0, ⟨#[]⟩, false)
  else (accB (s.extract 1 (1 + hd s)).data.toList, s.extract (1 + hd s) s.size, true)

end Go.Proofs.CodecPlain
/-
  Plain laws on reading texts and rows: no program in sight.
-/
namespace Go.Proofs.CodecPlain

/-- What reads as a text at the begin of bytes. -/
def getText (s : ByteArray) : ByteArray × ByteArray × Bool :=
  if (getNum s).2.2 = true ∧ (getNum s).1 ≤ 4000 ∧ (getNum s).1 ≤ ((getNum s).2.1.size : Int) then
    ((getNum s).2.1.extract 0 (getNum s).1.toNat, (getNum s).2.1.extract (getNum s).1.toNat (getNum s).2.1.size, true)
  else (⟨#[]⟩, ⟨#[]⟩, false)
/-- What reads as n texts, one behind the other. -/
def getTexts : Nat → ByteArray → List ByteArray × ByteArray × Bool
  | 0, s => ([], s, true)
  | n + 1, s => if (getText s).2.2 = true then
      (if (getTexts n (getText s).2.1).2.2 = true then ((getText s).1 :: (getTexts n (getText s).2.1).1, (getTexts n (getText s).2.1).2.1, true) else ([], ⟨#[]⟩, false))
    else ([], ⟨#[]⟩, false)
/-- What reads as a row at the begin of bytes. -/
def getRow (s : ByteArray) : List ByteArray × ByteArray × Bool :=
  if (getNum s).2.2 = true ∧ (getNum s).1 ≤ 1000 then getTexts (getNum s).1.toNat (getNum s).2.1 else ([], ⟨#[]⟩, false)
/-- What is told where some have been read. -/
def withL (l : List ByteArray) (r : List ByteArray × ByteArray × Bool) : List ByteArray × ByteArray × Bool := if r.2.2 = true then (l ++ r.1, r.2.1, true) else ([], ⟨#[]⟩, false)

theorem getNum_bd (s : ByteArray) : 0 ≤ (getNum s).1 ∧ (getNum s).1 < 4294967296 := by
  unfold getNum
  split
  · exact ⟨by decide, by decide⟩
  · split
    · exact ⟨by decide, by decide⟩
    · rename_i h _
      have h1 := accB_bd (s.extract 1 (1 + hd s)).data.toList
      have hl : (s.extract 1 (1 + hd s)).data.toList.length = hd s := by
        rw [Array.length_toList]
        show (s.extract 1 (1 + hd s)).size = _
        rw [ByteArray.size_extract]; omega
      rw [hl] at h1
      refine ⟨h1.1, Int.lt_of_lt_of_le h1.2 ?_⟩
      have : hd s ≤ 4 := by omega
      match hd s, this with
      | 0, _ => decide
      | 1, _ => decide
      | 2, _ => decide
      | 3, _ => decide
      | 4, _ => decide
theorem getTexts_len : ∀ (n : Nat) (s : ByteArray), (getTexts n s).2.2 = true → (getTexts n s).1.length = n
  | 0, s, _ => rfl
  | n + 1, s, h => by
    unfold getTexts at h ⊢
    split at h
    · rename_i h1
      rw [if_pos h1]
      split at h
      · rename_i h2
        rw [if_pos h2]
        simp [getTexts_len n _ h2]
      · cases h
    · cases h
theorem withL_stop (l : List ByteArray) (n : Nat) (s : ByteArray) (h : (getText s).2.2 = false) : withL l (getTexts (n + 1) s) = ([], ⟨#[]⟩, false) := by
  simp [getTexts, h, withL]
theorem withL_step (l : List ByteArray) (n : Nat) (s : ByteArray) (h : (getText s).2.2 = true) : withL l (getTexts (n + 1) s) = withL (l ++ [(getText s).1]) (getTexts n (getText s).2.1) := by
  by_cases h2 : (getTexts n (getText s).2.1).2.2 = true <;> simp [getTexts, h, withL, h2]
theorem withL_nil (n : Nat) (s : ByteArray) : withL [] (getTexts n s) = getTexts n s := by
  cases n with
  | zero => simp [withL, getTexts]
  | succ n =>
    unfold getTexts
    split
    · split <;> simp [withL]
    · simp [withL]

end Go.Proofs.CodecPlain
/-
  codec.GetNumber, by hand. For every text of a size that a text may have.
-/
namespace Go.Proofs.Ytfejidinfcmfjaa.P
open Go.RowKit Go.Proofs.CodecPlain Go.Proofs.YtfejidinfcmfjaaW.PrintWords Go.Proofs.YtfejidinfcmfjaaW.PrintLast

/-- What codec.GetNumber answers. -/
def codec_GetNumber.f (a0 : ByteArray) : Option (Int × ByteArray × Bool) := some (getNum a0)

theorem toList_ne {s : ByteArray} (h : 0 < s.size) : s.toList.isEmpty = false := by
  rw [ByteArray.toList_eq]
  cases e : s.data.toList with
  | nil =>
    have h1 := congrArg List.length e
    rw [Array.length_toList] at h1
    have h2 : s.size = 0 := h1
    omega
  | cons a l => rfl

theorem getNum_no {s : ByteArray} (h : s.size = 0 ∨ 4 < hd s ∨ s.size ≤ hd s) : getNum s = (0, ⟨#[]⟩, false) := by unfold getNum; rw [if_pos h]

theorem getNum_is (s : ByteArray) (q : 0 < s.size) (h4 : hd s ≤ 4) (h5 : hd s < s.size) :
    getNum s = if hd s ≠ 0 ∧ hd (s.extract 1 (1 + hd s)) = 0 then (0, ⟨#[]⟩, false) else (accB (s.extract 1 (1 + hd s)).data.toList, s.extract (1 + hd s) s.size, true) := by
  unfold getNum; rw [if_neg (by omega)]

theorem hd_at {s : ByteArray} (h : 0 < s.size) : ((s[0]'h).toNat : Int) = (hd s : Int) := by simp [hd, h]

set_option maxHeartbeats 4000000 in
set_option maxRecDepth 100000 in
theorem codec_GetNumber_no (s : ByteArray) (w : World) (h : s.size = 0 ∨ 4 < hd s ∨ s.size ≤ hd s) :
    Calls Try.prog 64 #[.string s] w fun e w' => e = .returned (.tuple #[.int .i64 0, .string ⟨#[]⟩, .bool false]) ∧ Drawn0 w w' := by
  by_cases h0 : s.size = 0
  · obtain rfl : s = ⟨#[]⟩ := by
      cases s; rename_i d; simp [ByteArray.size] at h0; subst h0; rfl
    clear h h0
    go_enter Try.func64, Try.ntmps64
    go_wp2
    go_ret3
    exact ⟨rfl, Drawn0.refl _⟩
  · have q : 0 < s.size := by omega
    have hx := hd_at q
    have hlt : hd s < 256 := by unfold hd; rw [dif_pos q]; exact (s[0]).toNat_lt
    have en := toList_ne q
    obtain ⟨m, hm⟩ : ∃ m, m = hd s := ⟨_, rfl⟩
    rw [← hm] at hx h hlt
    clear h0 hm
    by_cases h4 : 4 < m
    · clear h
      go_enter Try.func64, Try.ntmps64
      go_wp2
      go_ret3
      exact ⟨rfl, Drawn0.refl _⟩
    · have h5 : s.size ≤ m := by omega
      clear h
      go_enter Try.func64, Try.ntmps64
      go_wp2
      go_ret3
      exact ⟨rfl, Drawn0.refl _⟩

theorem accB_take (b : ByteArray) (k : Nat) (h : k < b.size) : accB (b.data.toList.take (k + 1)) = accB (b.data.toList.take k) * 256 + (b[k].toNat : Int) := by
  have hl : k < b.data.toList.length := by rw [Array.length_toList]; exact h
  rw [List.take_succ_eq_append_getElem hl, accB_snoc]
  rfl
theorem accB_lt (b : ByteArray) (k : Nat) (h : k ≤ b.size) (h4 : b.size ≤ 4) (hk : k < b.size) : 0 ≤ accB (b.data.toList.take k) ∧ accB (b.data.toList.take k) < 16777216 := by
  have h1 := accB_bd (b.data.toList.take k)
  have hl : (b.data.toList.take k).length = k := by rw [List.length_take, Array.length_toList]; exact Nat.min_eq_left h
  rw [hl] at h1
  refine ⟨h1.1, Int.lt_of_lt_of_le h1.2 ?_⟩
  match k, h, hk with
  | 0, _, _ => decide
  | 1, _, _ => decide
  | 2, _, _ => decide
  | 3, _, _ => decide
  | k + 4, _, hk => omega
theorem accB_whole (b : ByteArray) : accB (b.data.toList.take b.size) = accB b.data.toList := by
  rw [List.take_of_length_le]; rw [Array.length_toList]; exact Nat.le_refl _
theorem or_byte (x y : Int) (hx : 0 ≤ x) (hx1 : x < 16777216) (hy : 0 ≤ y) (hy1 : y < 256) : Go.bits .or .i64 (x * 256) y = x * 256 + y :=
  bits_join .i64 63 (by decide) (fun n h0 h1 => IntWalk.i64_in n ⟨by omega, by omega⟩) 8 (x * 256) y (by omega) (by omega) (by omega) hy (by omega) (by omega)

set_option maxHeartbeats 4000000 in
set_option maxRecDepth 100000 in
theorem codec_GetNumber_0 (s : ByteArray) (w : World) (q : 0 < s.size) (hm : hd s = 0) (h5 : 0 < s.size) :
    Calls Try.prog 64 #[.string s] w fun e w' => e = .returned (.tuple #[.int .i64 (getNum s).1, .string (getNum s).2.1, .bool (getNum s).2.2]) ∧ Drawn0 w w' := by
  have hx := hd_at q
  have en := toList_ne q
  have hg0 := getNum_is s q (by omega) (by omega)
  rw [hm] at hx hg0
  have HG := Aside0.mk hg0
  clear hg0 hm
  have hw0 : IntKind.i64.wrap (1 + 0) = 1 := rfl
  have hi0 : (1 : Int) ≤ 1 := by omega
  have hi1 : 1 ≤ s.size := by omega
  have hi2 : (1 : Int) ≤ (s.size : Int) := by omega
  have hem : decide (s = ByteArray.empty) = false := decide_eq_false (by rintro rfl; exact absurd q (by decide))
  have hbs := Aside0.mk (show (s.extract 1 1).size = 0 by rw [ByteArray.size_extract]; omega)
  go_enter Try.func64, Try.ntmps64
  go_wp2
  go_quiet (fail)
  clear en hi1 hi2 hx hw0 hi0 h5 hem
  have he : s.extract 1 1 = ⟨#[]⟩ := by
    have := hbs.out
    cases h : s.extract 1 1 with
    | mk d => rw [h] at this; simp [ByteArray.size] at this; rw [this]
  have he0 : ByteArray.empty = ⟨#[]⟩ := rfl
  rw [he0]
  clear he0
  go_wp2
  go_loopw [7, 8, 46] (fun v _ i wr => v = .int .i64 0 ∧ i = .int .i64 0 ∧ Drawn0 w wr) (fun _ _ i _ => 0)
  case atStart => exact ⟨rfl, rfl, by repeat (first | exact Drawn0.refl _ | apply Drawn0.step)⟩
  case round =>
    obtain ⟨rfl, rfl, ⟨n, rfl⟩⟩ := hrel
    go_wp2
    go_ret3
    refine ⟨?_, ⟨_, rfl⟩⟩
    rw [HG.out, if_neg (by simp)]
    simp only [Nat.add_zero, he]
    rfl
set_option maxHeartbeats 4000000 in
set_option maxRecDepth 100000 in
theorem codec_GetNumber_1 (s : ByteArray) (w : World) (q : 0 < s.size) (hm : hd s = 1) (h5 : 1 < s.size) :
    Calls Try.prog 64 #[.string s] w fun e w' => e = .returned (.tuple #[.int .i64 (getNum s).1, .string (getNum s).2.1, .bool (getNum s).2.2]) ∧ Drawn0 w w' := by
  have hx := hd_at q
  have en := toList_ne q
  have hg0 := getNum_is s q (by omega) (by omega)
  rw [hm] at hx hg0
  have HG := Aside0.mk hg0
  clear hg0 hm
  have hw0 : IntKind.i64.wrap (1 + 1) = 2 := rfl
  have hi0 : (1 : Int) ≤ 2 := by omega
  have hi1 : 2 ≤ s.size := by omega
  have hi2 : (2 : Int) ≤ (s.size : Int) := by omega
  have hem : decide (s = ByteArray.empty) = false := decide_eq_false (by rintro rfl; exact absurd q (by decide))
  have hbs := Aside0.mk (show (s.extract 1 2).size = 1 by rw [ByteArray.size_extract]; omega)
  go_enter Try.func64, Try.ntmps64
  go_wp2
  go_quiet (fail)
  clear en hi1 hi2 hx hw0 hi0 h5 hem
  generalize s.extract 1 2 = b at *
  have q0 : 0 < b.size := by rw [hbs.out]; omega
  have hx := hd_at q0
  have en := toList_ne q0
  have en2 : b.toList ≠ [] := by intro h; rw [h] at en; cases en
  obtain ⟨h0, hh0⟩ : ∃ h0, h0 = hd b := ⟨_, rfl⟩
  rw [← hh0] at hx
  have HH := Aside0.mk hh0
  clear hh0
  by_cases hz : (h0 : Int) = 0
  · have e1 : ((h0 : Int) == 0) = true := by simpa using hz
    have HZ := Aside0.mk hz
    clear hz
    go_wp2
    go_ret3
    refine ⟨?_, by repeat (first | exact Drawn0.refl _ | apply Drawn0.step)⟩
    rw [HG.out, if_pos ⟨by omega, by rw [← HH.out]; have := HZ.out; omega⟩]
    rfl
  · have e1 : ((h0 : Int) == 0) = false := by simpa using hz
    have HZ := Aside0.mk hz
    clear hz
    go_wp2
    clear en en2 e1 hx
    clear q0
    have hlen : (b.size : Int) = 1 := by rw [hbs.out]; rfl
    go_loopw [7, 8, 46] (fun v _ i wr => ∃ k : Nat, k ≤ b.size ∧ i = .int .i64 k ∧ v = .int .i64 (accB (b.data.toList.take k)) ∧ Drawn0 w wr) (fun _ _ i _ => b.size - (intOf i).toNat)
    case atStart => exact ⟨0, Nat.zero_le _, rfl, rfl, by repeat (first | exact Drawn0.refl _ | apply Drawn0.step)⟩
    case round =>
      obtain ⟨k, hk, rfl, rfl, ⟨n, rfl⟩⟩ := hrel
      by_cases hlt : k < b.size
      · have hb1 := accB_lt b k hk (by omega) hlt
        have hb2 := b[k].toNat_lt
        have hob := or_byte (accB (b.data.toList.take k)) (b[k].toNat : Int) hb1.1 hb1.2 (by omega) (by omega)
        have hnx := Aside0.mk (accB_take b k hlt)
        go_wp2
        go_roundw
        case rel => exact ⟨k + 1, by omega, by go_num, by rw [hnx.out], ⟨_, rfl⟩⟩
        case measure => simp [intOf]; omega
      · obtain rfl : k = b.size := by omega
        have haw := Aside0.mk (accB_whole b)
        go_wp2
        go_ret3
        refine ⟨?_, ⟨_, rfl⟩⟩
        rw [HG.out, if_neg (by rintro ⟨_, h⟩; have h1 := HH.out; have h2 := HZ.out; omega), haw.out]
        rfl
set_option maxHeartbeats 4000000 in
set_option maxRecDepth 100000 in
theorem codec_GetNumber_2 (s : ByteArray) (w : World) (q : 0 < s.size) (hm : hd s = 2) (h5 : 2 < s.size) :
    Calls Try.prog 64 #[.string s] w fun e w' => e = .returned (.tuple #[.int .i64 (getNum s).1, .string (getNum s).2.1, .bool (getNum s).2.2]) ∧ Drawn0 w w' := by
  have hx := hd_at q
  have en := toList_ne q
  have hg0 := getNum_is s q (by omega) (by omega)
  rw [hm] at hx hg0
  have HG := Aside0.mk hg0
  clear hg0 hm
  have hw0 : IntKind.i64.wrap (1 + 2) = 3 := rfl
  have hi0 : (1 : Int) ≤ 3 := by omega
  have hi1 : 3 ≤ s.size := by omega
  have hi2 : (3 : Int) ≤ (s.size : Int) := by omega
  have hem : decide (s = ByteArray.empty) = false := decide_eq_false (by rintro rfl; exact absurd q (by decide))
  have hbs := Aside0.mk (show (s.extract 1 3).size = 2 by rw [ByteArray.size_extract]; omega)
  go_enter Try.func64, Try.ntmps64
  go_wp2
  go_quiet (fail)
  clear en hi1 hi2 hx hw0 hi0 h5 hem
  generalize s.extract 1 3 = b at *
  have q0 : 0 < b.size := by rw [hbs.out]; omega
  have hx := hd_at q0
  have en := toList_ne q0
  have en2 : b.toList ≠ [] := by intro h; rw [h] at en; cases en
  obtain ⟨h0, hh0⟩ : ∃ h0, h0 = hd b := ⟨_, rfl⟩
  rw [← hh0] at hx
  have HH := Aside0.mk hh0
  clear hh0
  by_cases hz : (h0 : Int) = 0
  · have e1 : ((h0 : Int) == 0) = true := by simpa using hz
    have HZ := Aside0.mk hz
    clear hz
    go_wp2
    go_ret3
    refine ⟨?_, by repeat (first | exact Drawn0.refl _ | apply Drawn0.step)⟩
    rw [HG.out, if_pos ⟨by omega, by rw [← HH.out]; have := HZ.out; omega⟩]
    rfl
  · have e1 : ((h0 : Int) == 0) = false := by simpa using hz
    have HZ := Aside0.mk hz
    clear hz
    go_wp2
    clear en en2 e1 hx
    clear q0
    have hlen : (b.size : Int) = 2 := by rw [hbs.out]; rfl
    go_loopw [7, 8, 46] (fun v _ i wr => ∃ k : Nat, k ≤ b.size ∧ i = .int .i64 k ∧ v = .int .i64 (accB (b.data.toList.take k)) ∧ Drawn0 w wr) (fun _ _ i _ => b.size - (intOf i).toNat)
    case atStart => exact ⟨0, Nat.zero_le _, rfl, rfl, by repeat (first | exact Drawn0.refl _ | apply Drawn0.step)⟩
    case round =>
      obtain ⟨k, hk, rfl, rfl, ⟨n, rfl⟩⟩ := hrel
      by_cases hlt : k < b.size
      · have hb1 := accB_lt b k hk (by omega) hlt
        have hb2 := b[k].toNat_lt
        have hob := or_byte (accB (b.data.toList.take k)) (b[k].toNat : Int) hb1.1 hb1.2 (by omega) (by omega)
        have hnx := Aside0.mk (accB_take b k hlt)
        go_wp2
        go_roundw
        case rel => exact ⟨k + 1, by omega, by go_num, by rw [hnx.out], ⟨_, rfl⟩⟩
        case measure => simp [intOf]; omega
      · obtain rfl : k = b.size := by omega
        have haw := Aside0.mk (accB_whole b)
        go_wp2
        go_ret3
        refine ⟨?_, ⟨_, rfl⟩⟩
        rw [HG.out, if_neg (by rintro ⟨_, h⟩; have h1 := HH.out; have h2 := HZ.out; omega), haw.out]
        rfl
set_option maxHeartbeats 4000000 in
set_option maxRecDepth 100000 in
theorem codec_GetNumber_3 (s : ByteArray) (w : World) (q : 0 < s.size) (hm : hd s = 3) (h5 : 3 < s.size) :
    Calls Try.prog 64 #[.string s] w fun e w' => e = .returned (.tuple #[.int .i64 (getNum s).1, .string (getNum s).2.1, .bool (getNum s).2.2]) ∧ Drawn0 w w' := by
  have hx := hd_at q
  have en := toList_ne q
  have hg0 := getNum_is s q (by omega) (by omega)
  rw [hm] at hx hg0
  have HG := Aside0.mk hg0
  clear hg0 hm
  have hw0 : IntKind.i64.wrap (1 + 3) = 4 := rfl
  have hi0 : (1 : Int) ≤ 4 := by omega
  have hi1 : 4 ≤ s.size := by omega
  have hi2 : (4 : Int) ≤ (s.size : Int) := by omega
  have hem : decide (s = ByteArray.empty) = false := decide_eq_false (by rintro rfl; exact absurd q (by decide))
  have hbs := Aside0.mk (show (s.extract 1 4).size = 3 by rw [ByteArray.size_extract]; omega)
  go_enter Try.func64, Try.ntmps64
  go_wp2
  go_quiet (fail)
  clear en hi1 hi2 hx hw0 hi0 h5 hem
  generalize s.extract 1 4 = b at *
  have q0 : 0 < b.size := by rw [hbs.out]; omega
  have hx := hd_at q0
  have en := toList_ne q0
  have en2 : b.toList ≠ [] := by intro h; rw [h] at en; cases en
  obtain ⟨h0, hh0⟩ : ∃ h0, h0 = hd b := ⟨_, rfl⟩
  rw [← hh0] at hx
  have HH := Aside0.mk hh0
  clear hh0
  by_cases hz : (h0 : Int) = 0
  · have e1 : ((h0 : Int) == 0) = true := by simpa using hz
    have HZ := Aside0.mk hz
    clear hz
    go_wp2
    go_ret3
    refine ⟨?_, by repeat (first | exact Drawn0.refl _ | apply Drawn0.step)⟩
    rw [HG.out, if_pos ⟨by omega, by rw [← HH.out]; have := HZ.out; omega⟩]
    rfl
  · have e1 : ((h0 : Int) == 0) = false := by simpa using hz
    have HZ := Aside0.mk hz
    clear hz
    go_wp2
    clear en en2 e1 hx
    clear q0
    have hlen : (b.size : Int) = 3 := by rw [hbs.out]; rfl
    go_loopw [7, 8, 46] (fun v _ i wr => ∃ k : Nat, k ≤ b.size ∧ i = .int .i64 k ∧ v = .int .i64 (accB (b.data.toList.take k)) ∧ Drawn0 w wr) (fun _ _ i _ => b.size - (intOf i).toNat)
    case atStart => exact ⟨0, Nat.zero_le _, rfl, rfl, by repeat (first | exact Drawn0.refl _ | apply Drawn0.step)⟩
    case round =>
      obtain ⟨k, hk, rfl, rfl, ⟨n, rfl⟩⟩ := hrel
      by_cases hlt : k < b.size
      · have hb1 := accB_lt b k hk (by omega) hlt
        have hb2 := b[k].toNat_lt
        have hob := or_byte (accB (b.data.toList.take k)) (b[k].toNat : Int) hb1.1 hb1.2 (by omega) (by omega)
        have hnx := Aside0.mk (accB_take b k hlt)
        go_wp2
        go_roundw
        case rel => exact ⟨k + 1, by omega, by go_num, by rw [hnx.out], ⟨_, rfl⟩⟩
        case measure => simp [intOf]; omega
      · obtain rfl : k = b.size := by omega
        have haw := Aside0.mk (accB_whole b)
        go_wp2
        go_ret3
        refine ⟨?_, ⟨_, rfl⟩⟩
        rw [HG.out, if_neg (by rintro ⟨_, h⟩; have h1 := HH.out; have h2 := HZ.out; omega), haw.out]
        rfl
set_option maxHeartbeats 4000000 in
set_option maxRecDepth 100000 in
theorem codec_GetNumber_4 (s : ByteArray) (w : World) (q : 0 < s.size) (hm : hd s = 4) (h5 : 4 < s.size) :
    Calls Try.prog 64 #[.string s] w fun e w' => e = .returned (.tuple #[.int .i64 (getNum s).1, .string (getNum s).2.1, .bool (getNum s).2.2]) ∧ Drawn0 w w' := by
  have hx := hd_at q
  have en := toList_ne q
  have hg0 := getNum_is s q (by omega) (by omega)
  rw [hm] at hx hg0
  have HG := Aside0.mk hg0
  clear hg0 hm
  have hw0 : IntKind.i64.wrap (1 + 4) = 5 := rfl
  have hi0 : (1 : Int) ≤ 5 := by omega
  have hi1 : 5 ≤ s.size := by omega
  have hi2 : (5 : Int) ≤ (s.size : Int) := by omega
  have hem : decide (s = ByteArray.empty) = false := decide_eq_false (by rintro rfl; exact absurd q (by decide))
  have hbs := Aside0.mk (show (s.extract 1 5).size = 4 by rw [ByteArray.size_extract]; omega)
  go_enter Try.func64, Try.ntmps64
  go_wp2
  go_quiet (fail)
  clear en hi1 hi2 hx hw0 hi0 h5 hem
  generalize s.extract 1 5 = b at *
  have q0 : 0 < b.size := by rw [hbs.out]; omega
  have hx := hd_at q0
  have en := toList_ne q0
  have en2 : b.toList ≠ [] := by intro h; rw [h] at en; cases en
  obtain ⟨h0, hh0⟩ : ∃ h0, h0 = hd b := ⟨_, rfl⟩
  rw [← hh0] at hx
  have HH := Aside0.mk hh0
  clear hh0
  by_cases hz : (h0 : Int) = 0
  · have e1 : ((h0 : Int) == 0) = true := by simpa using hz
    have HZ := Aside0.mk hz
    clear hz
    go_wp2
    go_ret3
    refine ⟨?_, by repeat (first | exact Drawn0.refl _ | apply Drawn0.step)⟩
    rw [HG.out, if_pos ⟨by omega, by rw [← HH.out]; have := HZ.out; omega⟩]
    rfl
  · have e1 : ((h0 : Int) == 0) = false := by simpa using hz
    have HZ := Aside0.mk hz
    clear hz
    go_wp2
    clear en en2 e1 hx
    clear q0
    have hlen : (b.size : Int) = 4 := by rw [hbs.out]; rfl
    go_loopw [7, 8, 46] (fun v _ i wr => ∃ k : Nat, k ≤ b.size ∧ i = .int .i64 k ∧ v = .int .i64 (accB (b.data.toList.take k)) ∧ Drawn0 w wr) (fun _ _ i _ => b.size - (intOf i).toNat)
    case atStart => exact ⟨0, Nat.zero_le _, rfl, rfl, by repeat (first | exact Drawn0.refl _ | apply Drawn0.step)⟩
    case round =>
      obtain ⟨k, hk, rfl, rfl, ⟨n, rfl⟩⟩ := hrel
      by_cases hlt : k < b.size
      · have hb1 := accB_lt b k hk (by omega) hlt
        have hb2 := b[k].toNat_lt
        have hob := or_byte (accB (b.data.toList.take k)) (b[k].toNat : Int) hb1.1 hb1.2 (by omega) (by omega)
        have hnx := Aside0.mk (accB_take b k hlt)
        go_wp2
        go_roundw
        case rel => exact ⟨k + 1, by omega, by go_num, by rw [hnx.out], ⟨_, rfl⟩⟩
        case measure => simp [intOf]; omega
      · obtain rfl : k = b.size := by omega
        have haw := Aside0.mk (accB_whole b)
        go_wp2
        go_ret3
        refine ⟨?_, ⟨_, rfl⟩⟩
        rw [HG.out, if_neg (by rintro ⟨_, h⟩; have h1 := HH.out; have h2 := HZ.out; omega), haw.out]
        rfl
theorem codec_GetNumber.calls (a0 : ByteArray) (r1 : Int) (r2 : ByteArray) (r3 : Bool) (w : World) (h : codec_GetNumber.f a0 = some (r1, r2, r3)) :
    Calls Try.prog 64 #[.string a0] w fun e w' => e = .returned (.tuple #[.int .i64 r1, .string r2, .bool r3]) ∧ Drawn0 w w' := by
  have hg : getNum a0 = (r1, r2, r3) := by simpa [codec_GetNumber.f] using h
  by_cases hno : a0.size = 0 ∨ 4 < hd a0 ∨ a0.size ≤ hd a0
  · have h2 := getNum_no hno
    rw [hg] at h2
    simp only [Prod.mk.injEq] at h2
    obtain ⟨rfl, rfl, rfl⟩ := h2
    exact codec_GetNumber_no a0 w hno
  · have q : 0 < a0.size := by omega
    have h5 : hd a0 < a0.size := by omega
    have hm : hd a0 = 0 ∨ hd a0 = 1 ∨ hd a0 = 2 ∨ hd a0 = 3 ∨ hd a0 = 4 := by omega
    rcases hm with hm | hm | hm | hm | hm
    · have := codec_GetNumber_0 a0 w q hm (by omega); rw [hg] at this; exact this
    · have := codec_GetNumber_1 a0 w q hm (by omega); rw [hg] at this; exact this
    · have := codec_GetNumber_2 a0 w q hm (by omega); rw [hg] at this; exact this
    · have := codec_GetNumber_3 a0 w q hm (by omega); rw [hg] at this; exact this
    · have := codec_GetNumber_4 a0 w q hm (by omega); rw [hg] at this; exact this
end Go.Proofs.Ytfejidinfcmfjaa.P
-- Written by a program of this session (xprint.py) over the kit's print.py.
namespace Go.Proofs.Ytfejidinfcmfjaa.P
open Go.RowKit Go.Proofs.YtfejidinfcmfjaaW.PrintWords Go.Proofs.YtfejidinfcmfjaaW.PrintLast Go.Proofs.YtfejidinfcmfjaaW.PrintMore
attribute [local go_sem] max2_int min2_int max_two min_two max_three min_three max_four min_four   -- for this text's walks alone
set_option linter.unusedVariables false
set_option linter.unusedSimpArgs false

/-! ### codec_GetText: function 88 -/
def codec_GetText.f (a0 : ByteArray) : Option (ByteArray × ByteArray × Bool) := (codec_GetNumber.f a0).bind fun bt356 => (if bt356.2.2 = true then (if bt356.1 > 4000 then (some ((⟨#[]⟩ : ByteArray), (⟨#[]⟩ : ByteArray), false)) else (if bt356.1 > (bt356.2.1.size : Int) then (some ((⟨#[]⟩ : ByteArray), (⟨#[]⟩ : ByteArray), false)) else (if 0 ≤ bt356.1 then (if bt356.1 ≤ (bt356.2.1.size : Int) then (some (bt356.2.1.extract 0 (bt356.1 : Int).toNat, bt356.2.1.extract (bt356.1 : Int).toNat bt356.2.1.size, true)) else (none)) else (none)))) else (some ((⟨#[]⟩ : ByteArray), (⟨#[]⟩ : ByteArray), false)))
set_option maxHeartbeats 8000000 in
set_option maxRecDepth 100000 in
theorem codec_GetText.calls (a0 : ByteArray) (r1 : ByteArray) (r2 : ByteArray) (r3 : Bool) (w : World) (h : codec_GetText.f a0 = some (r1, r2, r3)) :
    Calls Try.prog 88 #[.string a0] w fun e w' => e = .returned (.tuple #[.string r1, .string r2, .bool r3]) ∧ Drawn0 w w' := by
  have H : ((codec_GetNumber.f a0).bind fun bt356 => (if bt356.2.2 = true then (if bt356.1 > 4000 then (some ((⟨#[]⟩ : ByteArray), (⟨#[]⟩ : ByteArray), false)) else (if bt356.1 > (bt356.2.1.size : Int) then (some ((⟨#[]⟩ : ByteArray), (⟨#[]⟩ : ByteArray), false)) else (if 0 ≤ bt356.1 then (if bt356.1 ≤ (bt356.2.1.size : Int) then (some (bt356.2.1.extract 0 (bt356.1 : Int).toNat, bt356.2.1.extract (bt356.1 : Int).toNat bt356.2.1.size, true)) else (none)) else (none)))) else (some ((⟨#[]⟩ : ByteArray), (⟨#[]⟩ : ByteArray), false)))) = some (r1, r2, r3) := h
  clear h
  replace H := Option.bind_eq_some_iff.mp H
  obtain ⟨⟨t356, t357, t358⟩, A20, H⟩ := H
  replace H : (if t358 = true then (if t356 > 4000 then (some ((⟨#[]⟩ : ByteArray), (⟨#[]⟩ : ByteArray), false)) else (if t356 > (t357.size : Int) then (some ((⟨#[]⟩ : ByteArray), (⟨#[]⟩ : ByteArray), false)) else (if 0 ≤ t356 then (if t356 ≤ (t357.size : Int) then (some (t357.extract 0 (t356 : Int).toNat, t357.extract (t356 : Int).toNat t357.size, true)) else (none)) else (none)))) else (some ((⟨#[]⟩ : ByteArray), (⟨#[]⟩ : ByteArray), false))) = some (r1, r2, r3) := H
  have A2 := Aside0.mk A20
  clear A20
  by_cases c3 : t358 = true
  · subst c3
    have H1 : (if t356 > 4000 then (some ((⟨#[]⟩ : ByteArray), (⟨#[]⟩ : ByteArray), false)) else (if t356 > (t357.size : Int) then (some ((⟨#[]⟩ : ByteArray), (⟨#[]⟩ : ByteArray), false)) else (if 0 ≤ t356 then (if t356 ≤ (t357.size : Int) then (some (t357.extract 0 (t356 : Int).toNat, t357.extract (t356 : Int).toNat t357.size, true)) else (none)) else (none)))) = some (r1, r2, r3) := by rw [if_pos rfl] at H; exact H
    clear H
    have H := H1
    clear H1
    by_cases c4 : t356 > 4000
    · rw [if_pos c4] at H
      have c4b0 : decide (4000 < t356) = true := decide_eq_true c4
      clear c4
      simp only [Option.some.injEq, Prod.mk.injEq] at H
      obtain ⟨rfl, rfl, rfl⟩ := H
      go_enter Try.func88, Try.ntmps88
      go_wp2_with (first | (go_at_call 64; (with_reducible refine (codec_GetNumber.calls a0 t356 t357 true _ A2.out).mono ?_); rintro e w' ⟨rfl, ⟨nd, rfl⟩⟩; (try first | exact ⟨rfl, _, World.drewN_drewN _ _ _⟩ | exact ⟨rfl, _, Eq.trans (World.drewN_drewN _ _ _) (congrArg (World.drewN _) (Nat.add_assoc _ _ _))⟩)))
      repeat (go_quiet (first | (go_at_call 64; (with_reducible refine (codec_GetNumber.calls a0 t356 t357 true _ A2.out).mono ?_); rintro e w' ⟨rfl, ⟨nd, rfl⟩⟩; (try first | exact ⟨rfl, _, World.drewN_drewN _ _ _⟩ | exact ⟨rfl, _, Eq.trans (World.drewN_drewN _ _ _) (congrArg (World.drewN _) (Nat.add_assoc _ _ _))⟩))); try go_wp2_with (first | (go_at_call 64; (with_reducible refine (codec_GetNumber.calls a0 t356 t357 true _ A2.out).mono ?_); rintro e w' ⟨rfl, ⟨nd, rfl⟩⟩; (try first | exact ⟨rfl, _, World.drewN_drewN _ _ _⟩ | exact ⟨rfl, _, Eq.trans (World.drewN_drewN _ _ _) (congrArg (World.drewN _) (Nat.add_assoc _ _ _))⟩))))
      go_ret3
      exact ⟨by first | rfl | (simp; done) | (simp [*]; done), by repeat (first | exact Drawn0.refl _ | apply Drawn0.step)⟩
    · rw [if_neg c4] at H
      have c4b0 : decide (4000 < t356) = false := decide_eq_false c4
      clear c4
      by_cases c5 : t356 > (t357.size : Int)
      · rw [if_pos c5] at H
        have c5b0 : decide ((t357.size : Int) < t356) = true := decide_eq_true c5
        clear c5
        simp only [Option.some.injEq, Prod.mk.injEq] at H
        obtain ⟨rfl, rfl, rfl⟩ := H
        go_enter Try.func88, Try.ntmps88
        go_wp2_with (first | (go_at_call 64; (with_reducible refine (codec_GetNumber.calls a0 t356 t357 true _ A2.out).mono ?_); rintro e w' ⟨rfl, ⟨nd, rfl⟩⟩; (try first | exact ⟨rfl, _, World.drewN_drewN _ _ _⟩ | exact ⟨rfl, _, Eq.trans (World.drewN_drewN _ _ _) (congrArg (World.drewN _) (Nat.add_assoc _ _ _))⟩)))
        repeat (go_quiet (first | (go_at_call 64; (with_reducible refine (codec_GetNumber.calls a0 t356 t357 true _ A2.out).mono ?_); rintro e w' ⟨rfl, ⟨nd, rfl⟩⟩; (try first | exact ⟨rfl, _, World.drewN_drewN _ _ _⟩ | exact ⟨rfl, _, Eq.trans (World.drewN_drewN _ _ _) (congrArg (World.drewN _) (Nat.add_assoc _ _ _))⟩))); try go_wp2_with (first | (go_at_call 64; (with_reducible refine (codec_GetNumber.calls a0 t356 t357 true _ A2.out).mono ?_); rintro e w' ⟨rfl, ⟨nd, rfl⟩⟩; (try first | exact ⟨rfl, _, World.drewN_drewN _ _ _⟩ | exact ⟨rfl, _, Eq.trans (World.drewN_drewN _ _ _) (congrArg (World.drewN _) (Nat.add_assoc _ _ _))⟩))))
        go_ret3
        exact ⟨by first | rfl | (simp; done) | (simp [*]; done), by repeat (first | exact Drawn0.refl _ | apply Drawn0.step)⟩
      · rw [if_neg c5] at H
        have c5b0 : decide ((t357.size : Int) < t356) = false := decide_eq_false c5
        clear c5
        by_cases c6 : 0 ≤ t356
        · rw [if_pos c6] at H
          have c6b0 := eq_true c6
          have c6b1 : decide (0 ≤ t356) = true := decide_eq_true c6
          clear c6
          by_cases c7 : t356 ≤ (t357.size : Int)
          · rw [if_pos c7] at H
            have c7b0 := eq_true c7
            have c7b1 : decide (t356 ≤ (t357.size : Int)) = true := decide_eq_true c7
            clear c7
            have c8b0 := eq_true (of_decide_eq_true (by first | (with_reducible assumption) | assumption) : 0 ≤ t356)
            have c9b0 := eq_true (of_decide_eq_true (by first | (with_reducible assumption) | assumption) : t356 ≤ (t357.size : Int))
            simp only [Option.some.injEq, Prod.mk.injEq] at H
            obtain ⟨rfl, rfl, rfl⟩ := H
            go_enter Try.func88, Try.ntmps88
            go_wp2_with (first | (go_at_call 64; (with_reducible refine (codec_GetNumber.calls a0 t356 t357 true _ A2.out).mono ?_); rintro e w' ⟨rfl, ⟨nd, rfl⟩⟩; (try first | exact ⟨rfl, _, World.drewN_drewN _ _ _⟩ | exact ⟨rfl, _, Eq.trans (World.drewN_drewN _ _ _) (congrArg (World.drewN _) (Nat.add_assoc _ _ _))⟩)))
            repeat (go_quiet (first | (go_at_call 64; (with_reducible refine (codec_GetNumber.calls a0 t356 t357 true _ A2.out).mono ?_); rintro e w' ⟨rfl, ⟨nd, rfl⟩⟩; (try first | exact ⟨rfl, _, World.drewN_drewN _ _ _⟩ | exact ⟨rfl, _, Eq.trans (World.drewN_drewN _ _ _) (congrArg (World.drewN _) (Nat.add_assoc _ _ _))⟩))); try go_wp2_with (first | (go_at_call 64; (with_reducible refine (codec_GetNumber.calls a0 t356 t357 true _ A2.out).mono ?_); rintro e w' ⟨rfl, ⟨nd, rfl⟩⟩; (try first | exact ⟨rfl, _, World.drewN_drewN _ _ _⟩ | exact ⟨rfl, _, Eq.trans (World.drewN_drewN _ _ _) (congrArg (World.drewN _) (Nat.add_assoc _ _ _))⟩))))
            go_ret3
            exact ⟨by first | rfl | (simp; done) | (simp [*]; done), by repeat (first | exact Drawn0.refl _ | apply Drawn0.step)⟩
          · rw [if_neg c7] at H
            exact absurd H (by simp)
        · rw [if_neg c6] at H
          exact absurd H (by simp)
  · replace c3 := Bool.eq_false_iff.mpr c3
    subst c3
    have H1 : (some ((⟨#[]⟩ : ByteArray), (⟨#[]⟩ : ByteArray), false)) = some (r1, r2, r3) := by rw [if_neg (show ¬ (false = true) by decide)] at H; exact H
    clear H
    have H := H1
    clear H1
    simp only [Option.some.injEq, Prod.mk.injEq] at H
    obtain ⟨rfl, rfl, rfl⟩ := H
    go_enter Try.func88, Try.ntmps88
    go_wp2_with (first | (go_at_call 64; (with_reducible refine (codec_GetNumber.calls a0 t356 t357 false _ A2.out).mono ?_); rintro e w' ⟨rfl, ⟨nd, rfl⟩⟩; (try first | exact ⟨rfl, _, World.drewN_drewN _ _ _⟩ | exact ⟨rfl, _, Eq.trans (World.drewN_drewN _ _ _) (congrArg (World.drewN _) (Nat.add_assoc _ _ _))⟩)))
    repeat (go_quiet (first | (go_at_call 64; (with_reducible refine (codec_GetNumber.calls a0 t356 t357 false _ A2.out).mono ?_); rintro e w' ⟨rfl, ⟨nd, rfl⟩⟩; (try first | exact ⟨rfl, _, World.drewN_drewN _ _ _⟩ | exact ⟨rfl, _, Eq.trans (World.drewN_drewN _ _ _) (congrArg (World.drewN _) (Nat.add_assoc _ _ _))⟩))); try go_wp2_with (first | (go_at_call 64; (with_reducible refine (codec_GetNumber.calls a0 t356 t357 false _ A2.out).mono ?_); rintro e w' ⟨rfl, ⟨nd, rfl⟩⟩; (try first | exact ⟨rfl, _, World.drewN_drewN _ _ _⟩ | exact ⟨rfl, _, Eq.trans (World.drewN_drewN _ _ _) (congrArg (World.drewN _) (Nat.add_assoc _ _ _))⟩))))
    go_ret3
    exact ⟨by first | rfl | (simp; done) | (simp [*]; done), by repeat (first | exact Drawn0.refl _ | apply Drawn0.step)⟩

end Go.Proofs.Ytfejidinfcmfjaa.P
/-
  codec.GetRow, by hand, and the function value that it takes one text behind the other from. For every text.
-/
namespace Go.Proofs.Ytfejidinfcmfjaa.P
open Go.RowKit Go.Proofs.CodecPlain Go.Proofs.YtfejidinfcmfjaaW.PrintWords Go.Proofs.YtfejidinfcmfjaaW.PrintLast Go.Proofs.YtfejidinfcmfjaaW.PrintMore

theorem getText_f (s : ByteArray) : codec_GetText.f s = some (getText s) := by
  unfold codec_GetText.f codec_GetNumber.f getText
  simp only [Option.bind_some]
  have := getNum_bd s
  by_cases h1 : (getNum s).2.2 = true
  · rw [if_pos h1]
    by_cases h2 : (getNum s).1 > 4000
    · rw [if_pos h2, if_neg (by omega)]
    · rw [if_neg h2]
      by_cases h3 : (getNum s).1 > ((getNum s).2.1.size : Int)
      · rw [if_pos h3, if_neg (by omega)]
      · rw [if_neg h3, if_pos (by omega), if_pos (by omega), if_pos ⟨h1, by omega, by omega⟩]
  · rw [if_neg h1, if_neg (by rintro ⟨h, _⟩; exact h1 h)]

set_option maxHeartbeats 1000000 in
theorem codec_texts_calls (s : ByteArray) (w : World) :
    Calls Try.prog 81 #[.string s] w fun e w' => e = .returned (.func (.func 87) #[] #[.pointer (some ⟨w.heap.size, 0, none⟩)]) ∧ w' = w.alloc (.cells #[.string s] 9) := by
  go_enter Try.func81, Try.ntmps81
  go_wp2
  go_ret
  exact ⟨rfl, rfl⟩

theorem keep_set {w : World} {B n m : Nat} {v : Value} : KeepBut w (((w.drewN m).setCell ⟨B, 0, none⟩ v).drewN n) B none :=
  ⟨by show w.heap.size ≤ (w.heap.modify _ _).size; rw [Array.size_modify]; exact Nat.le_refl _, fun i _ h _ => Below.heap_setCell w ⟨B, 0, none⟩ v i h⟩

set_option maxHeartbeats 1000000 in
theorem codec_texts1_calls (s : ByteArray) (B : Nat) (w : World) (hb : Boxed w B 9 (.string s)) (r1 r2 : ByteArray) (r3 : Bool) (hgt : getText s = (r1, r2, r3)) :
    Calls Try.prog 87 #[.pointer (some ⟨B, 0, none⟩)] w fun e w' => e = .returned (.tuple #[.string r1, .string r2, .bool r3]) ∧
      Aside0 (Boxed w' B 9 (.string r2)) ∧ Aside0 (KeepBut w w' B none) ∧ Aside0 (∀ n₀, n₀ ≤ B → Below n₀ w w') := by
  have hc := hb.cell
  have hf := hb.frozen
  have hg := Aside0.mk (getText_f s)
  rw [hgt] at hg
  have HB := Aside0.mk hb
  clear hb hgt
  go_enter Try.func87, Try.ntmps87
  go_wp2_with (go_at_call 88; refine (codec_GetText.calls _ _ _ _ _ hg.out).mono ?_; rintro e w3 ⟨rfl, ⟨n3, rfl⟩⟩)
  have HB2 := Aside0.mk (HB.out.set (.string r2))
  have hc2 := HB2.out.cell
  repeat (go_quiet (fail); try go_wp2)
  go_ret3
  exact ⟨rfl, ⟨HB2.out⟩, ⟨keep_set⟩, ⟨fun n₀ h => pw_below_drewN ((pw_below_drewN (Below.refl _ _) _).setCell (p := ⟨B, 0, none⟩) h _) _⟩⟩

theorem infoStr : (Try.prog.info? 9).map (fun i => (i.zero, i.size, i.bytes)) = some (some (.string ⟨#[]⟩), 1, 16) := by kernel_rfl

/-- What codec.GetRow answers. -/
def codec_GetRow.f (a0 : ByteArray) : Option (List ByteArray × ByteArray × Bool) := some (getRow a0)

set_option maxHeartbeats 4000000 in
set_option maxRecDepth 100000 in
theorem codec_GetRow_in (s : ByteArray) (w : World) (h1 : (getNum s).2.2 = true) (h2 : (getNum s).1 ≤ 1000) :
    Calls Try.prog 65 #[.string s] w fun e w' => ∃ (v : Value) (r1 : List ByteArray) (r2 : ByteArray) (r3 : Bool), Aside0 (getRow s = (r1, r2, r3)) ∧ e = .returned (.tuple #[v, .string r2, .bool r3]) ∧ Kd.R Kd.string 9 w' w.heap.size (fun _ => True) v r1 ∧ Below w.heap.size w w' := by
  have hb0 := getNum_bd s
  have hrow := Aside0.mk (show getRow s = getTexts (getNum s).1.toNat (getNum s).2.1 by unfold getRow; rw [if_pos ⟨h1, h2⟩])
  have hf0 : codec_GetNumber.f s = some (getNum s) := rfl
  obtain ⟨n, rest, ok, hn⟩ : ∃ n rest ok, getNum s = (n, rest, ok) := ⟨_, _, _, rfl⟩
  rw [hn] at h1 h2 hb0 hrow hf0
  have hf := Aside0.mk hf0
  simp only at h1 h2 hb0 hrow
  subst h1
  obtain ⟨N, rfl⟩ : ∃ N : Nat, n = N := ⟨n.toNat, by omega⟩
  clear hn hf0 hb0
  rw [Int.toNat_natCast] at hrow
  go_enter Try.func65, Try.ntmps65
  go_wp2_with (go_at_call 64; refine (codec_GetNumber.calls _ _ _ _ _ hf.out).mono ?_; rintro e w3 ⟨rfl, ⟨n3, rfl⟩⟩)
  go_wp2_with (go_at_call 81; refine (codec_texts_calls _ _).mono ?_; rintro e w3 ⟨rfl, rfl⟩)
  have hbx := Aside0.mk (Boxed.new (w.drewN n3) 9 (.string rest))
  have HB := Aside0.mk ((pw_below_drewN (Below.refl w.heap.size w) n3).alloc (Nat.le_refl _) (.cells #[.string rest] 9))
  go_loopw [6, 8, 28] (fun r v i wr => ∃ (k : Nat) (L : List ByteArray) (cur c2 : ByteArray), k ≤ N ∧ i = .int .i64 k ∧ r = .string cur ∧ c2 = cur ∧ Aside0 (getRow s = withL L (getTexts (N - k) cur)) ∧ Aside0 (L.length = k) ∧ Aside0 (Boxed wr w.heap.size 9 (.string c2)) ∧ Aside0 (Kd.R Kd.string 9 wr w.heap.size (fun q => q ≠ w.heap.size) v L) ∧ Aside0 (Below w.heap.size w wr))
    (fun _ _ i _ => N - (intOf i).toNat)
  case atStart => exact ⟨0, [], rest, rest, Nat.zero_le _, rfl, rfl, rfl, ⟨by rw [hrow.out, withL_nil, Nat.sub_zero]⟩, ⟨rfl⟩, ⟨hbx.out⟩, ⟨Kd.R_nil _ _ _ _ _⟩, HB⟩
  case round =>
    clear hrow hbx HB
    obtain ⟨k, L, cur, c2, hk, rfl, rfl, rfl, HG, HL, hbx, HO, HB⟩ := hrel
    by_cases hlt : k < N
    · obtain ⟨r1, r2, r3, hgt⟩ : ∃ r1 r2 r3, getText c2 = (r1, r2, r3) := ⟨_, _, _, rfl⟩
      have HT := Aside0.mk hgt
      clear hgt
      cases r3
      · have hres := Aside0.mk (show getRow s = ([], ⟨#[]⟩, false) by
          rw [HG.out, show N - k = (N - k - 1) + 1 by omega]; exact withL_stop _ _ _ (by rw [HT.out]))
        go_wp2_with (go_at_call 87; refine (codec_texts1_calls _ _ _ hbx.out _ _ _ HT.out).mono ?_; rintro e w4 ⟨rfl, hbx4, hk4, hb4⟩)
        go_ret3
        exact ⟨_, _, _, _, hres, rfl, Kd.R_nil _ _ _ _ _, HB.out.trans (hb4.out _ (Nat.le_refl _))⟩
      · have hnx := Aside0.mk (show getRow s = withL (L ++ [r1]) (getTexts (N - (k + 1)) r2) by
          rw [HG.out, show N - k = (N - (k + 1)) + 1 by omega, withL_step _ _ _ (by rw [HT.out]), HT.out])
        go_wp2_with (first | (go_at_call 87; refine (codec_texts1_calls _ _ _ hbx.out _ _ _ HT.out).mono ?_; rintro e w4 ⟨rfl, hbx4, hk4, hb4⟩; have HO4 := Aside0.mk (Kd.R_keep HO.out hk4.out (fun k hk => hk)); have HB4 := Aside0.mk (HB.out.trans (hb4.out _ (Nat.le_refl _))); clear hk4 hb4 HO HB) | ((with_reducible refine gate_builtin (b := .append) (xs := #[.tmp 38, .tmp 40]) rfl ?_); at_builtin; refine Kd.R_append Kd.string (w0 := w) w.heap.size rfl (.tmp 38) (.tmp 40) 27 9 (.string ⟨#[]⟩) 16 rfl Try.underlying27 infoStr rfl (by decide) (by omega) _ L r1 [.string r1] (fun q => q ≠ w.heap.size) (fun _ => False) rfl rfl ?aP (fun _ hk => hk.elim) ?aF ?aO ?aB ?aS ?aL ?_; (case aP => exact rfl); (case aB => exact HB4.out); (case aF => exact (fun q hq => by have := hbx4.out.lt; omega)); (case aO => exact HO4.out); (case aS => exact HB4.out.size); (case aL => have := HL.out; omega); intro v1 w5 ho hb hg hat; have HO5 := Aside0.mk ho; have HB5 := Aside0.mk hb; have hbx5 := Aside0.mk (hbx4.out.kept hg (fun e => by have := (HO4.out).1 _ e.symm; omega)); clear ho hb hg hat))
        go_roundw
        case rel => exact ⟨k + 1, L ++ [r1], r2, r2, by omega, by go_num, rfl, rfl, hnx, ⟨by simp [HL.out]⟩, hbx5, HO5, HB5⟩
        case measure => simp [intOf]; omega
    · obtain rfl : k = N := by omega
      have hres := Aside0.mk (show getRow s = (L, c2, true) by
        rw [HG.out, Nat.sub_self]; simp [withL, getTexts])
      go_wp2
      go_ret3
      exact ⟨_, _, _, _, hres, rfl, Kd.R_mono HO.out (fun _ _ => trivial), HB.out⟩

theorem codec_GetRow.calls (a0 : ByteArray) (r1 : List ByteArray) (r2 : ByteArray) (r3 : Bool) (w : World) (h : codec_GetRow.f a0 = some (r1, r2, r3)) :
    Calls Try.prog 65 #[.string a0] w fun e w' => ∃ v0_ : Value, e = .returned (.tuple #[v0_, .string r2, .bool r3]) ∧ Kd.R Kd.string 9 w' w.heap.size (fun _ => True) v0_ r1 ∧ Below w.heap.size w w' := by
  have hg : getRow a0 = (r1, r2, r3) := by simpa [codec_GetRow.f] using h
  clear h
  by_cases hc : (getNum a0).2.2 = true ∧ (getNum a0).1 ≤ 1000
  · refine (codec_GetRow_in a0 w hc.1 hc.2).mono ?_
    rintro e w' ⟨v, s1, s2, s3, hs, rfl, hR, hB⟩
    have := hs.out.symm.trans hg
    simp only [Prod.mk.injEq] at this
    obtain ⟨rfl, rfl, rfl⟩ := this
    exact ⟨v, rfl, hR, hB⟩
  · have h2 : getRow a0 = ([], ⟨#[]⟩, false) := by unfold getRow; rw [if_neg hc]
    rw [hg] at h2
    simp only [Prod.mk.injEq] at h2
    obtain ⟨rfl, rfl, rfl⟩ := h2
    clear hg
    have hf0 : codec_GetNumber.f a0 = some (getNum a0) := rfl
    obtain ⟨n, rest, ok, hn⟩ : ∃ n rest ok, getNum a0 = (n, rest, ok) := ⟨_, _, _, rfl⟩
    rw [hn] at hc hf0
    have hf := Aside0.mk hf0
    clear hf0 hn
    cases ok
    · clear hc
      go_enter Try.func65, Try.ntmps65
      go_wp2_with (go_at_call 64; refine (codec_GetNumber.calls _ _ _ _ _ hf.out).mono ?_; rintro e w3 ⟨rfl, ⟨n3, rfl⟩⟩)
      go_ret3
      exact ⟨_, rfl, Kd.R_nil _ _ _ _ _, pw_below_drewN (Below.refl _ _) _⟩
    · have hgt : 1000 < n := by simpa using hc
      clear hc
      go_enter Try.func65, Try.ntmps65
      go_wp2_with (go_at_call 64; refine (codec_GetNumber.calls _ _ _ _ _ hf.out).mono ?_; rintro e w3 ⟨rfl, ⟨n3, rfl⟩⟩)
      go_ret3
      exact ⟨_, rfl, Kd.R_nil _ _ _ _ _, pw_below_drewN (Below.refl _ _) _⟩
end Go.Proofs.Ytfejidinfcmfjaa.P
/-
  msg.Get, by hand.
-/
namespace Go.Proofs.Ytfejidinfcmfjaa.P
open Go.RowKit Go.Shelf Go.Proofs Go.Proofs.CodecPlain Go.Proofs.YtfejidinfcmfjaaW.PrintWords Go.Proofs.YtfejidinfcmfjaaW.PrintLast

/-- Numbers, one behind the other. -/
def getNs : Nat → ByteArray → List Int × ByteArray × Bool
  | 0, s => ([], s, true)
  | n + 1, s => if (getNum s).2.2 = true then ((getNum s).1 :: (getNs n (getNum s).2.1).1, (getNs n (getNum s).2.1).2.1, (getNs n (getNum s).2.1).2.2) else ([], ⟨#[]⟩, false)
def withN (a : List Int) (r : List Int × ByteArray × Bool) : List Int × ByteArray × Bool := (a ++ r.1, r.2.1, r.2.2)
theorem getNs_step (a : List Int) (n : Nat) (s : ByteArray) (h : (getNum s).2.2 = true) : withN a (getNs (n + 1) s) = withN (a ++ [(getNum s).1]) (getNs n (getNum s).2.1) := by
  unfold withN
  simp only [getNs]
  rw [if_pos h]
  simp
theorem getNs_stop (a : List Int) (n : Nat) (s : ByteArray) (h : (getNum s).2.2 = false) : (withN a (getNs (n + 1) s)).2.2 = false := by
  unfold withN
  simp only [getNs]
  rw [if_neg (by rw [h]; decide)]
/-- What msg.Get makes of numbers and what stands behind. -/
def getM (r : List Int × ByteArray × Bool) : Int × Int × Int × Int × Int × Int × Int × List ByteArray × Int :=
  match r with
  | ([n0, n1, n2, n3, n4, n5, n6], rest, true) => if (getRow rest).2.2 = true ∧ (getRow rest).2.1 = ⟨#[]⟩ ∧ isB n0 n1 n2 n3 n4 n5 n6 (getRow rest).1 = true then (n0, n1, n2, n3, n4, n5, n6, (getRow rest).1, 0) else (0, 0, 0, 0, 0, 0, 0, [], 30)
  | _ => (0, 0, 0, 0, 0, 0, 0, [], 30)
theorem getM_no {r : List Int × ByteArray × Bool} (h : r.2.2 = false) : getM r = (0, 0, 0, 0, 0, 0, 0, [], 30) := by
  obtain ⟨l, s, b⟩ := r
  simp only at h
  subst h
  unfold getM
  split
  · rename_i e; injection e with _ e; injection e with _ e; cases e
  · rfl
def msg_Get.f (a0 : ByteArray) : Option (Int × Int × Int × Int × Int × Int × Int × List ByteArray × Int) := some (getM (getNs 7 a0))
theorem zero_msg (w : World) : Sem.run Try.prog (zeroValue 29) w = .ok (.agg #[.int .i64 0, .int .i64 0, .int .i64 0, .int .i64 0, .int .i64 0, .int .i64 0, .int .i64 0, .slice none 0 0]) w := by kernel_rfl
attribute [local go_sem] zero_msg
/-- A message's block. -/
def blkM (n0 n1 n2 n3 n4 n5 n6 : Int) (v : Value) : Array Value := #[.int .i64 n0, .int .i64 n1, .int .i64 n2, .int .i64 n3, .int .i64 n4, .int .i64 n5, .int .i64 n6, v]
theorem blkM_one (n0 n1 n2 n3 n4 n5 n6 : Int) (v : Value) (hv : v.oneCell' = true) : ∀ q ∈ (blkM n0 n1 n2 n3 n4 n5 n6 v).toList, q.oneCell' = true := by
  intro q hq
  simp only [blkM, List.mem_cons, List.not_mem_nil, or_false] at hq
  rcases hq with rfl | rfl | rfl | rfl | rfl | rfl | rfl | rfl <;> first | rfl | exact hv
/-- A whole message stored into a message's block. -/
theorem store_msg {W : World} {g : Nat} {cur : Array Value} (hh : W.heap[g]? = some (.cells cur 29 (0, 0))) (hs : cur.size = 8) (n0 n1 n2 n3 n4 n5 n6 : Int) (v : Value) (hv : v.oneCell' = true) :
    (Instr.storeAt 29 (.pointer (some ⟨g, 0, none⟩)) (.agg (blkM n0 n1 n2 n3 n4 n5 n6 v))).run Try.prog W = .ok () (W.setCells g 0 (blkM n0 n1 n2 n3 n4 n5 n6 v).toList) ∧
    (W.setCells g 0 (blkM n0 n1 n2 n3 n4 n5 n6 v).toList).heap[g]? = some (.cells (blkM n0 n1 n2 n3 n4 n5 n6 v) 29 (0, 0)) := by
  have hl : (blkM n0 n1 n2 n3 n4 n5 n6 v).toList.length = 8 := rfl
  refine ⟨run_store_run (P := Try.prog) (o := 0) 29 _ _ hh rfl (by rw [hl]; kernel_rfl) (by omega) (blkM_one n0 n1 n2 n3 n4 n5 n6 v hv), ?_⟩
  obtain ⟨cur', h1, h2, h3⟩ := setCells_row (blkM n0 n1 n2 n3 n4 n5 n6 v).toList 0 W cur hh (by omega)
  rw [h1]
  have : cur' = blkM n0 n1 n2 n3 n4 n5 n6 v := by
    apply Array.toList_inj.1
    rw [h3, List.take_zero, List.nil_append, hl, List.drop_of_length_le (by rw [Array.length_toList]; omega), List.append_nil]
  rw [this]
theorem below_cells {B g : Nat} {w W : World} (h : Below B w W) (hg : B ≤ g) (vs : List Value) : Below B w (W.setCells g 0 vs) := by
  have hs := setCells_same g vs 0 W
  exact h.trans ⟨hs.1, hs.2.1, hs.2.2.1, Nat.le_of_eq hs.2.2.2.symm, fun k hk => setCells_far _ _ k (by omega)⟩
theorem R_cells {α : Type} {d : Kd α} {e : Nat} {W : World} {base : Nat} {v : Value} {xs : List α} (h : d.R e W base (fun _ => True) v xs) {g t : Nat} {cells : Array Value} (hb : W.heap[g]? = some (.cells cells t (0, 0))) (ht : ∀ q, q ∈ e :: d.E → q ≠ t) (vs : List Value) : d.R e (W.setCells g 0 vs) base (fun _ => True) v xs :=
  Kd.R_mono (Kd.R_step (Kd.R_types h hb ht) (fun k hk _ => setCells_far _ _ k hk.2)) (fun _ _ => trivial)


set_option maxHeartbeats 32000000 in
set_option maxRecDepth 100000 in
theorem msg_Get_any (s : ByteArray) (w : World) :
    Calls Try.prog 33 #[.string s] w fun e w' => ∃ r1 r2 r3 r4 r5 r6 r7 r8 r9, Aside0 (getM (getNs 7 s) = (r1, r2, r3, r4, r5, r6, r7, r8, r9)) ∧ ∃ v7_ : Value, e = .returned (.tuple #[.agg #[.int .i64 r1, .int .i64 r2, .int .i64 r3, .int .i64 r4, .int .i64 r5, .int .i64 r6, .int .i64 r7, v7_], .int .i64 r9]) ∧ Kd.R Kd.string 9 w' w.heap.size (fun _ => True) v7_ r8 ∧ Below w.heap.size w w' := by
  have HB0 := Aside0.mk (((Below.refl w.heap.size w).alloc (Nat.le_refl _) (.cells (blkM 0 0 0 0 0 0 0 (.slice none 0 0)) 29)).alloc (by simp) (.cells (blkM 0 0 0 0 0 0 0 (.slice none 0 0)) 29))
  have HE1 := Aside0.mk (blk_alloc (blk_new w (.cells (blkM 0 0 0 0 0 0 0 (.slice none 0 0)) 29)) (.cells (blkM 0 0 0 0 0 0 0 (.slice none 0 0)) 29))
  have hE2 := blk_new (w.alloc (.cells (blkM 0 0 0 0 0 0 0 (.slice none 0 0)) 29)) (.cells (blkM 0 0 0 0 0 0 0 (.slice none 0 0)) 29)
  rw [World.size_alloc] at hE2
  have HE2 := Aside0.mk hE2
  clear hE2
  go_enter Try.func33, Try.ntmps33
  go_wp2_with (first | (go_at_call 57; (with_reducible refine (msg_fields_calls (w.heap.size + 1) _).mono ?_); rintro e w2 ⟨rfl, hb2⟩; have HB2 := Aside0.mk (HB0.out.trans (hb2.mono HB0.out.size)); have HF1 := Aside0.mk (blk_below HE1.out hb2); have HF2 := Aside0.mk (blk_below HE2.out hb2); clear hb2))
  simp only [ptrs]
  clear HB0 HE1 HE2
  go_loopw [0, 6, 7, 8, 9, 14] (fun cur _ _ _ _ i wr => ∃ (k : Nat) (a : List Int) (sk : ByteArray) (n0 n1 n2 n3 n4 n5 n6 : Int), k ≤ 7 ∧ i = .int .i64 k ∧ cur = .string sk ∧ Aside0 (getNs 7 s = withN a (getNs (7 - k) sk)) ∧ Aside0 (a = [n0, n1, n2, n3, n4, n5, n6].take k) ∧ Aside0 (wr.heap[w.heap.size + 1]? = some (.cells (blkM n0 n1 n2 n3 n4 n5 n6 (.slice none 0 0)) 29 (0, 0))) ∧ Aside0 (wr.heap[w.heap.size]? = some (.cells (blkM 0 0 0 0 0 0 0 (.slice none 0 0)) 29 (0, 0))) ∧ Aside0 (Below w.heap.size w wr))
    (fun _ _ _ _ _ i _ => 7 - (intOf i).toNat)
  case atStart => exact ⟨0, [], s, 0, 0, 0, 0, 0, 0, 0, Nat.zero_le _, rfl, rfl, ⟨by simp [withN]⟩, ⟨rfl⟩, HF2, HF1, HB2⟩
  case round =>
    clear HF1 HF2 HB2
    obtain ⟨k, a, sk, n0, n1, n2, n3, n4, n5, n6, hk, rfl, rfl, HG, HA, HC2, HC1, HB⟩ := hrel
    have hks : k = 0 ∨ k = 1 ∨ k = 2 ∨ k = 3 ∨ k = 4 ∨ k = 5 ∨ k = 6 ∨ k = 7 := by omega
    rcases hks with rfl | rfl | rfl | rfl | rfl | rfl | rfl | rfl
    · obtain ⟨x, sn, ok, hgn⟩ : ∃ x sn ok, getNum sk = (x, sn, ok) := ⟨_, _, _, rfl⟩
      have HN := Aside0.mk (fun W => codec_GetNumber.calls sk x sn ok W (by unfold codec_GetNumber.f; rw [hgn]))
      cases ok
      · have hst := Aside0.mk (getM_no (getNs_stop a 6 sk (by rw [hgn])))
        obtain ⟨hrun, hblk⟩ := store_msg HC1.out rfl 0 0 0 0 0 0 0 (.slice none 0 0) rfl
        have HRun := Aside0.mk (fun n => (store_msg (W := wr.drewN n) (blk_drewN HC1.out n) rfl 0 0 0 0 0 0 0 (.slice none 0 0) rfl))
        clear hgn hrun hblk
        go_wp2_with (first | ((with_reducible refine gate_dst (N := 16) rfl ?_); refine Kd.event_run (v := .pointer (some ⟨w.heap.size + 1, 0, none⟩)) (w1 := wr) rfl ?hx ?_; (case hx => kernel_rfl)) | (go_at_call 64; (with_reducible refine (HN.out _).mono ?_); rintro e w4 ⟨rfl, ⟨nd, rfl⟩⟩) | ((with_reducible refine gate_store (t := 29) (p := 2) rfl ?_); refine store_event (t := 29) (p := 2) (w1 := (wr.drewN nd).setCells w.heap.size 0 (blkM 0 0 0 0 0 0 0 (.slice none 0 0)).toList) rfl rfl rfl ?hr ?_; (case hr => (unfold execOp; simp only [Act.eval, Sem.run_bind, Sem.run_pure, Result.andThen_ok]; show ((Sem.run Try.prog (Instr.storeAt 29 (.pointer (some ⟨w.heap.size, 0, none⟩)) (.agg (blkM 0 0 0 0 0 0 0 (.slice none 0 0)))) (wr.drewN nd)).andThen _) = _; rw [(HRun.out nd).1]; try rfl)); intro w5 hw5; have HC5 := Aside0.mk (hw5 ▸ (HRun.out nd).2 : w5.heap[w.heap.size]? = some (.cells (blkM 0 0 0 0 0 0 0 (.slice none 0 0)) 29 (0, 0))); have HB5 := Aside0.mk (show Below w.heap.size w w5 by rw [hw5]; exact below_cells (pw_below_drewN HB.out nd) (Nat.le_refl _) _); clear hw5))
        have d0 := blk_cell HC5.out 0
        have d1 := blk_cell HC5.out 1
        have d2 := blk_cell HC5.out 2
        have d3 := blk_cell HC5.out 3
        have d4 := blk_cell HC5.out 4
        have d5 := blk_cell HC5.out 5
        have d6 := blk_cell HC5.out 6
        have d7 := blk_cell HC5.out 7
        simp only [blkM, List.getElem?_toArray, List.getElem?_cons_zero, List.getElem?_cons_succ] at d0 d1 d2 d3 d4 d5 d6 d7
        refine bodyPost_ret (v := .tuple #[.agg (blkM 0 0 0 0 0 0 0 (.slice none 0 0)), .int .i64 30]) ?_ rfl ⟨0, 0, 0, 0, 0, 0, 0, [], 30, ⟨by rw [HG.out]; exact hst.out⟩, _, rfl, Kd.R_nil _ _ _ _ _, HB5.out⟩
        simp [results, Try.results33, go_sem, blkM, d0, d1, d2, d3, d4, d5, d6, d7]
      · have hStep := Aside0.mk (show withN a (getNs (6 + 1) sk) = withN (a ++ [x]) (getNs 6 sn) by
          have := getNs_step a 6 sk (by rw [hgn])
          rw [hgn] at this
          exact this)
        have c2 := blk_cell HC2.out 0
        have f2 := blk_frozen HC2.out 0
        simp only [blkM, List.getElem?_toArray, List.getElem?_cons_zero, List.getElem?_cons_succ] at c2
        clear hgn
        go_wp2_with (first | ((with_reducible refine gate_dst (N := 16) rfl ?_); refine Kd.event_run (v := .pointer (some ⟨w.heap.size + 1, 0, none⟩)) (w1 := wr) rfl ?hx ?_; (case hx => kernel_rfl)) | (go_at_call 64; (with_reducible refine (HN.out _).mono ?_); rintro e w4 ⟨rfl, ⟨nd, rfl⟩⟩))
        go_roundw
        case measure => simp [intOf]
        case rel =>
        refine ⟨1, a ++ [x], sn, x, n1, n2, n3, n4, n5, n6, by omega, by go_num, rfl, ⟨by rw [HG.out]; exact hStep.out⟩, ⟨by rw [HA.out]; rfl⟩, ⟨blk_set (blk_drewN HC2.out nd) 0 (.int .i64 x)⟩, ⟨blk_far (blk_drewN HC1.out nd) (by show w.heap.size ≠ w.heap.size + 1; omega) _⟩, ⟨(pw_below_drewN HB.out nd).setCell (p := ⟨w.heap.size + 1, 0, none⟩) (by show w.heap.size ≤ w.heap.size + 1; omega) _⟩⟩
    · obtain ⟨x, sn, ok, hgn⟩ : ∃ x sn ok, getNum sk = (x, sn, ok) := ⟨_, _, _, rfl⟩
      have HN := Aside0.mk (fun W => codec_GetNumber.calls sk x sn ok W (by unfold codec_GetNumber.f; rw [hgn]))
      cases ok
      · have hst := Aside0.mk (getM_no (getNs_stop a 5 sk (by rw [hgn])))
        obtain ⟨hrun, hblk⟩ := store_msg HC1.out rfl 0 0 0 0 0 0 0 (.slice none 0 0) rfl
        have HRun := Aside0.mk (fun n => (store_msg (W := wr.drewN n) (blk_drewN HC1.out n) rfl 0 0 0 0 0 0 0 (.slice none 0 0) rfl))
        clear hgn hrun hblk
        go_wp2_with (first | ((with_reducible refine gate_dst (N := 16) rfl ?_); refine Kd.event_run (v := .pointer (some ⟨w.heap.size + 1, 1, none⟩)) (w1 := wr) rfl ?hx ?_; (case hx => kernel_rfl)) | (go_at_call 64; (with_reducible refine (HN.out _).mono ?_); rintro e w4 ⟨rfl, ⟨nd, rfl⟩⟩) | ((with_reducible refine gate_store (t := 29) (p := 2) rfl ?_); refine store_event (t := 29) (p := 2) (w1 := (wr.drewN nd).setCells w.heap.size 0 (blkM 0 0 0 0 0 0 0 (.slice none 0 0)).toList) rfl rfl rfl ?hr ?_; (case hr => (unfold execOp; simp only [Act.eval, Sem.run_bind, Sem.run_pure, Result.andThen_ok]; show ((Sem.run Try.prog (Instr.storeAt 29 (.pointer (some ⟨w.heap.size, 0, none⟩)) (.agg (blkM 0 0 0 0 0 0 0 (.slice none 0 0)))) (wr.drewN nd)).andThen _) = _; rw [(HRun.out nd).1]; try rfl)); intro w5 hw5; have HC5 := Aside0.mk (hw5 ▸ (HRun.out nd).2 : w5.heap[w.heap.size]? = some (.cells (blkM 0 0 0 0 0 0 0 (.slice none 0 0)) 29 (0, 0))); have HB5 := Aside0.mk (show Below w.heap.size w w5 by rw [hw5]; exact below_cells (pw_below_drewN HB.out nd) (Nat.le_refl _) _); clear hw5))
        have d0 := blk_cell HC5.out 0
        have d1 := blk_cell HC5.out 1
        have d2 := blk_cell HC5.out 2
        have d3 := blk_cell HC5.out 3
        have d4 := blk_cell HC5.out 4
        have d5 := blk_cell HC5.out 5
        have d6 := blk_cell HC5.out 6
        have d7 := blk_cell HC5.out 7
        simp only [blkM, List.getElem?_toArray, List.getElem?_cons_zero, List.getElem?_cons_succ] at d0 d1 d2 d3 d4 d5 d6 d7
        refine bodyPost_ret (v := .tuple #[.agg (blkM 0 0 0 0 0 0 0 (.slice none 0 0)), .int .i64 30]) ?_ rfl ⟨0, 0, 0, 0, 0, 0, 0, [], 30, ⟨by rw [HG.out]; exact hst.out⟩, _, rfl, Kd.R_nil _ _ _ _ _, HB5.out⟩
        simp [results, Try.results33, go_sem, blkM, d0, d1, d2, d3, d4, d5, d6, d7]
      · have hStep := Aside0.mk (show withN a (getNs (5 + 1) sk) = withN (a ++ [x]) (getNs 5 sn) by
          have := getNs_step a 5 sk (by rw [hgn])
          rw [hgn] at this
          exact this)
        have c2 := blk_cell HC2.out 1
        have f2 := blk_frozen HC2.out 1
        simp only [blkM, List.getElem?_toArray, List.getElem?_cons_zero, List.getElem?_cons_succ] at c2
        clear hgn
        go_wp2_with (first | ((with_reducible refine gate_dst (N := 16) rfl ?_); refine Kd.event_run (v := .pointer (some ⟨w.heap.size + 1, 1, none⟩)) (w1 := wr) rfl ?hx ?_; (case hx => kernel_rfl)) | (go_at_call 64; (with_reducible refine (HN.out _).mono ?_); rintro e w4 ⟨rfl, ⟨nd, rfl⟩⟩))
        go_roundw
        case measure => simp [intOf]
        case rel =>
        refine ⟨2, a ++ [x], sn, n0, x, n2, n3, n4, n5, n6, by omega, by go_num, rfl, ⟨by rw [HG.out]; exact hStep.out⟩, ⟨by rw [HA.out]; rfl⟩, ⟨blk_set (blk_drewN HC2.out nd) 1 (.int .i64 x)⟩, ⟨blk_far (blk_drewN HC1.out nd) (by show w.heap.size ≠ w.heap.size + 1; omega) _⟩, ⟨(pw_below_drewN HB.out nd).setCell (p := ⟨w.heap.size + 1, 1, none⟩) (by show w.heap.size ≤ w.heap.size + 1; omega) _⟩⟩
    · obtain ⟨x, sn, ok, hgn⟩ : ∃ x sn ok, getNum sk = (x, sn, ok) := ⟨_, _, _, rfl⟩
      have HN := Aside0.mk (fun W => codec_GetNumber.calls sk x sn ok W (by unfold codec_GetNumber.f; rw [hgn]))
      cases ok
      · have hst := Aside0.mk (getM_no (getNs_stop a 4 sk (by rw [hgn])))
        obtain ⟨hrun, hblk⟩ := store_msg HC1.out rfl 0 0 0 0 0 0 0 (.slice none 0 0) rfl
        have HRun := Aside0.mk (fun n => (store_msg (W := wr.drewN n) (blk_drewN HC1.out n) rfl 0 0 0 0 0 0 0 (.slice none 0 0) rfl))
        clear hgn hrun hblk
        go_wp2_with (first | ((with_reducible refine gate_dst (N := 16) rfl ?_); refine Kd.event_run (v := .pointer (some ⟨w.heap.size + 1, 2, none⟩)) (w1 := wr) rfl ?hx ?_; (case hx => kernel_rfl)) | (go_at_call 64; (with_reducible refine (HN.out _).mono ?_); rintro e w4 ⟨rfl, ⟨nd, rfl⟩⟩) | ((with_reducible refine gate_store (t := 29) (p := 2) rfl ?_); refine store_event (t := 29) (p := 2) (w1 := (wr.drewN nd).setCells w.heap.size 0 (blkM 0 0 0 0 0 0 0 (.slice none 0 0)).toList) rfl rfl rfl ?hr ?_; (case hr => (unfold execOp; simp only [Act.eval, Sem.run_bind, Sem.run_pure, Result.andThen_ok]; show ((Sem.run Try.prog (Instr.storeAt 29 (.pointer (some ⟨w.heap.size, 0, none⟩)) (.agg (blkM 0 0 0 0 0 0 0 (.slice none 0 0)))) (wr.drewN nd)).andThen _) = _; rw [(HRun.out nd).1]; try rfl)); intro w5 hw5; have HC5 := Aside0.mk (hw5 ▸ (HRun.out nd).2 : w5.heap[w.heap.size]? = some (.cells (blkM 0 0 0 0 0 0 0 (.slice none 0 0)) 29 (0, 0))); have HB5 := Aside0.mk (show Below w.heap.size w w5 by rw [hw5]; exact below_cells (pw_below_drewN HB.out nd) (Nat.le_refl _) _); clear hw5))
        have d0 := blk_cell HC5.out 0
        have d1 := blk_cell HC5.out 1
        have d2 := blk_cell HC5.out 2
        have d3 := blk_cell HC5.out 3
        have d4 := blk_cell HC5.out 4
        have d5 := blk_cell HC5.out 5
        have d6 := blk_cell HC5.out 6
        have d7 := blk_cell HC5.out 7
        simp only [blkM, List.getElem?_toArray, List.getElem?_cons_zero, List.getElem?_cons_succ] at d0 d1 d2 d3 d4 d5 d6 d7
        refine bodyPost_ret (v := .tuple #[.agg (blkM 0 0 0 0 0 0 0 (.slice none 0 0)), .int .i64 30]) ?_ rfl ⟨0, 0, 0, 0, 0, 0, 0, [], 30, ⟨by rw [HG.out]; exact hst.out⟩, _, rfl, Kd.R_nil _ _ _ _ _, HB5.out⟩
        simp [results, Try.results33, go_sem, blkM, d0, d1, d2, d3, d4, d5, d6, d7]
      · have hStep := Aside0.mk (show withN a (getNs (4 + 1) sk) = withN (a ++ [x]) (getNs 4 sn) by
          have := getNs_step a 4 sk (by rw [hgn])
          rw [hgn] at this
          exact this)
        have c2 := blk_cell HC2.out 2
        have f2 := blk_frozen HC2.out 2
        simp only [blkM, List.getElem?_toArray, List.getElem?_cons_zero, List.getElem?_cons_succ] at c2
        clear hgn
        go_wp2_with (first | ((with_reducible refine gate_dst (N := 16) rfl ?_); refine Kd.event_run (v := .pointer (some ⟨w.heap.size + 1, 2, none⟩)) (w1 := wr) rfl ?hx ?_; (case hx => kernel_rfl)) | (go_at_call 64; (with_reducible refine (HN.out _).mono ?_); rintro e w4 ⟨rfl, ⟨nd, rfl⟩⟩))
        go_roundw
        case measure => simp [intOf]
        case rel =>
        refine ⟨3, a ++ [x], sn, n0, n1, x, n3, n4, n5, n6, by omega, by go_num, rfl, ⟨by rw [HG.out]; exact hStep.out⟩, ⟨by rw [HA.out]; rfl⟩, ⟨blk_set (blk_drewN HC2.out nd) 2 (.int .i64 x)⟩, ⟨blk_far (blk_drewN HC1.out nd) (by show w.heap.size ≠ w.heap.size + 1; omega) _⟩, ⟨(pw_below_drewN HB.out nd).setCell (p := ⟨w.heap.size + 1, 2, none⟩) (by show w.heap.size ≤ w.heap.size + 1; omega) _⟩⟩
    · obtain ⟨x, sn, ok, hgn⟩ : ∃ x sn ok, getNum sk = (x, sn, ok) := ⟨_, _, _, rfl⟩
      have HN := Aside0.mk (fun W => codec_GetNumber.calls sk x sn ok W (by unfold codec_GetNumber.f; rw [hgn]))
      cases ok
      · have hst := Aside0.mk (getM_no (getNs_stop a 3 sk (by rw [hgn])))
        obtain ⟨hrun, hblk⟩ := store_msg HC1.out rfl 0 0 0 0 0 0 0 (.slice none 0 0) rfl
        have HRun := Aside0.mk (fun n => (store_msg (W := wr.drewN n) (blk_drewN HC1.out n) rfl 0 0 0 0 0 0 0 (.slice none 0 0) rfl))
        clear hgn hrun hblk
        go_wp2_with (first | ((with_reducible refine gate_dst (N := 16) rfl ?_); refine Kd.event_run (v := .pointer (some ⟨w.heap.size + 1, 3, none⟩)) (w1 := wr) rfl ?hx ?_; (case hx => kernel_rfl)) | (go_at_call 64; (with_reducible refine (HN.out _).mono ?_); rintro e w4 ⟨rfl, ⟨nd, rfl⟩⟩) | ((with_reducible refine gate_store (t := 29) (p := 2) rfl ?_); refine store_event (t := 29) (p := 2) (w1 := (wr.drewN nd).setCells w.heap.size 0 (blkM 0 0 0 0 0 0 0 (.slice none 0 0)).toList) rfl rfl rfl ?hr ?_; (case hr => (unfold execOp; simp only [Act.eval, Sem.run_bind, Sem.run_pure, Result.andThen_ok]; show ((Sem.run Try.prog (Instr.storeAt 29 (.pointer (some ⟨w.heap.size, 0, none⟩)) (.agg (blkM 0 0 0 0 0 0 0 (.slice none 0 0)))) (wr.drewN nd)).andThen _) = _; rw [(HRun.out nd).1]; try rfl)); intro w5 hw5; have HC5 := Aside0.mk (hw5 ▸ (HRun.out nd).2 : w5.heap[w.heap.size]? = some (.cells (blkM 0 0 0 0 0 0 0 (.slice none 0 0)) 29 (0, 0))); have HB5 := Aside0.mk (show Below w.heap.size w w5 by rw [hw5]; exact below_cells (pw_below_drewN HB.out nd) (Nat.le_refl _) _); clear hw5))
        have d0 := blk_cell HC5.out 0
        have d1 := blk_cell HC5.out 1
        have d2 := blk_cell HC5.out 2
        have d3 := blk_cell HC5.out 3
        have d4 := blk_cell HC5.out 4
        have d5 := blk_cell HC5.out 5
        have d6 := blk_cell HC5.out 6
        have d7 := blk_cell HC5.out 7
        simp only [blkM, List.getElem?_toArray, List.getElem?_cons_zero, List.getElem?_cons_succ] at d0 d1 d2 d3 d4 d5 d6 d7
        refine bodyPost_ret (v := .tuple #[.agg (blkM 0 0 0 0 0 0 0 (.slice none 0 0)), .int .i64 30]) ?_ rfl ⟨0, 0, 0, 0, 0, 0, 0, [], 30, ⟨by rw [HG.out]; exact hst.out⟩, _, rfl, Kd.R_nil _ _ _ _ _, HB5.out⟩
        simp [results, Try.results33, go_sem, blkM, d0, d1, d2, d3, d4, d5, d6, d7]
      · have hStep := Aside0.mk (show withN a (getNs (3 + 1) sk) = withN (a ++ [x]) (getNs 3 sn) by
          have := getNs_step a 3 sk (by rw [hgn])
          rw [hgn] at this
          exact this)
        have c2 := blk_cell HC2.out 3
        have f2 := blk_frozen HC2.out 3
        simp only [blkM, List.getElem?_toArray, List.getElem?_cons_zero, List.getElem?_cons_succ] at c2
        clear hgn
        go_wp2_with (first | ((with_reducible refine gate_dst (N := 16) rfl ?_); refine Kd.event_run (v := .pointer (some ⟨w.heap.size + 1, 3, none⟩)) (w1 := wr) rfl ?hx ?_; (case hx => kernel_rfl)) | (go_at_call 64; (with_reducible refine (HN.out _).mono ?_); rintro e w4 ⟨rfl, ⟨nd, rfl⟩⟩))
        go_roundw
        case measure => simp [intOf]
        case rel =>
        refine ⟨4, a ++ [x], sn, n0, n1, n2, x, n4, n5, n6, by omega, by go_num, rfl, ⟨by rw [HG.out]; exact hStep.out⟩, ⟨by rw [HA.out]; rfl⟩, ⟨blk_set (blk_drewN HC2.out nd) 3 (.int .i64 x)⟩, ⟨blk_far (blk_drewN HC1.out nd) (by show w.heap.size ≠ w.heap.size + 1; omega) _⟩, ⟨(pw_below_drewN HB.out nd).setCell (p := ⟨w.heap.size + 1, 3, none⟩) (by show w.heap.size ≤ w.heap.size + 1; omega) _⟩⟩
    · obtain ⟨x, sn, ok, hgn⟩ : ∃ x sn ok, getNum sk = (x, sn, ok) := ⟨_, _, _, rfl⟩
      have HN := Aside0.mk (fun W => codec_GetNumber.calls sk x sn ok W (by unfold codec_GetNumber.f; rw [hgn]))
      cases ok
      · have hst := Aside0.mk (getM_no (getNs_stop a 2 sk (by rw [hgn])))
        obtain ⟨hrun, hblk⟩ := store_msg HC1.out rfl 0 0 0 0 0 0 0 (.slice none 0 0) rfl
        have HRun := Aside0.mk (fun n => (store_msg (W := wr.drewN n) (blk_drewN HC1.out n) rfl 0 0 0 0 0 0 0 (.slice none 0 0) rfl))
        clear hgn hrun hblk
        go_wp2_with (first | ((with_reducible refine gate_dst (N := 16) rfl ?_); refine Kd.event_run (v := .pointer (some ⟨w.heap.size + 1, 4, none⟩)) (w1 := wr) rfl ?hx ?_; (case hx => kernel_rfl)) | (go_at_call 64; (with_reducible refine (HN.out _).mono ?_); rintro e w4 ⟨rfl, ⟨nd, rfl⟩⟩) | ((with_reducible refine gate_store (t := 29) (p := 2) rfl ?_); refine store_event (t := 29) (p := 2) (w1 := (wr.drewN nd).setCells w.heap.size 0 (blkM 0 0 0 0 0 0 0 (.slice none 0 0)).toList) rfl rfl rfl ?hr ?_; (case hr => (unfold execOp; simp only [Act.eval, Sem.run_bind, Sem.run_pure, Result.andThen_ok]; show ((Sem.run Try.prog (Instr.storeAt 29 (.pointer (some ⟨w.heap.size, 0, none⟩)) (.agg (blkM 0 0 0 0 0 0 0 (.slice none 0 0)))) (wr.drewN nd)).andThen _) = _; rw [(HRun.out nd).1]; try rfl)); intro w5 hw5; have HC5 := Aside0.mk (hw5 ▸ (HRun.out nd).2 : w5.heap[w.heap.size]? = some (.cells (blkM 0 0 0 0 0 0 0 (.slice none 0 0)) 29 (0, 0))); have HB5 := Aside0.mk (show Below w.heap.size w w5 by rw [hw5]; exact below_cells (pw_below_drewN HB.out nd) (Nat.le_refl _) _); clear hw5))
        have d0 := blk_cell HC5.out 0
        have d1 := blk_cell HC5.out 1
        have d2 := blk_cell HC5.out 2
        have d3 := blk_cell HC5.out 3
        have d4 := blk_cell HC5.out 4
        have d5 := blk_cell HC5.out 5
        have d6 := blk_cell HC5.out 6
        have d7 := blk_cell HC5.out 7
        simp only [blkM, List.getElem?_toArray, List.getElem?_cons_zero, List.getElem?_cons_succ] at d0 d1 d2 d3 d4 d5 d6 d7
        refine bodyPost_ret (v := .tuple #[.agg (blkM 0 0 0 0 0 0 0 (.slice none 0 0)), .int .i64 30]) ?_ rfl ⟨0, 0, 0, 0, 0, 0, 0, [], 30, ⟨by rw [HG.out]; exact hst.out⟩, _, rfl, Kd.R_nil _ _ _ _ _, HB5.out⟩
        simp [results, Try.results33, go_sem, blkM, d0, d1, d2, d3, d4, d5, d6, d7]
      · have hStep := Aside0.mk (show withN a (getNs (2 + 1) sk) = withN (a ++ [x]) (getNs 2 sn) by
          have := getNs_step a 2 sk (by rw [hgn])
          rw [hgn] at this
          exact this)
        have c2 := blk_cell HC2.out 4
        have f2 := blk_frozen HC2.out 4
        simp only [blkM, List.getElem?_toArray, List.getElem?_cons_zero, List.getElem?_cons_succ] at c2
        clear hgn
        go_wp2_with (first | ((with_reducible refine gate_dst (N := 16) rfl ?_); refine Kd.event_run (v := .pointer (some ⟨w.heap.size + 1, 4, none⟩)) (w1 := wr) rfl ?hx ?_; (case hx => kernel_rfl)) | (go_at_call 64; (with_reducible refine (HN.out _).mono ?_); rintro e w4 ⟨rfl, ⟨nd, rfl⟩⟩))
        go_roundw
        case measure => simp [intOf]
        case rel =>
        refine ⟨5, a ++ [x], sn, n0, n1, n2, n3, x, n5, n6, by omega, by go_num, rfl, ⟨by rw [HG.out]; exact hStep.out⟩, ⟨by rw [HA.out]; rfl⟩, ⟨blk_set (blk_drewN HC2.out nd) 4 (.int .i64 x)⟩, ⟨blk_far (blk_drewN HC1.out nd) (by show w.heap.size ≠ w.heap.size + 1; omega) _⟩, ⟨(pw_below_drewN HB.out nd).setCell (p := ⟨w.heap.size + 1, 4, none⟩) (by show w.heap.size ≤ w.heap.size + 1; omega) _⟩⟩
    · obtain ⟨x, sn, ok, hgn⟩ : ∃ x sn ok, getNum sk = (x, sn, ok) := ⟨_, _, _, rfl⟩
      have HN := Aside0.mk (fun W => codec_GetNumber.calls sk x sn ok W (by unfold codec_GetNumber.f; rw [hgn]))
      cases ok
      · have hst := Aside0.mk (getM_no (getNs_stop a 1 sk (by rw [hgn])))
        obtain ⟨hrun, hblk⟩ := store_msg HC1.out rfl 0 0 0 0 0 0 0 (.slice none 0 0) rfl
        have HRun := Aside0.mk (fun n => (store_msg (W := wr.drewN n) (blk_drewN HC1.out n) rfl 0 0 0 0 0 0 0 (.slice none 0 0) rfl))
        clear hgn hrun hblk
        go_wp2_with (first | ((with_reducible refine gate_dst (N := 16) rfl ?_); refine Kd.event_run (v := .pointer (some ⟨w.heap.size + 1, 5, none⟩)) (w1 := wr) rfl ?hx ?_; (case hx => kernel_rfl)) | (go_at_call 64; (with_reducible refine (HN.out _).mono ?_); rintro e w4 ⟨rfl, ⟨nd, rfl⟩⟩) | ((with_reducible refine gate_store (t := 29) (p := 2) rfl ?_); refine store_event (t := 29) (p := 2) (w1 := (wr.drewN nd).setCells w.heap.size 0 (blkM 0 0 0 0 0 0 0 (.slice none 0 0)).toList) rfl rfl rfl ?hr ?_; (case hr => (unfold execOp; simp only [Act.eval, Sem.run_bind, Sem.run_pure, Result.andThen_ok]; show ((Sem.run Try.prog (Instr.storeAt 29 (.pointer (some ⟨w.heap.size, 0, none⟩)) (.agg (blkM 0 0 0 0 0 0 0 (.slice none 0 0)))) (wr.drewN nd)).andThen _) = _; rw [(HRun.out nd).1]; try rfl)); intro w5 hw5; have HC5 := Aside0.mk (hw5 ▸ (HRun.out nd).2 : w5.heap[w.heap.size]? = some (.cells (blkM 0 0 0 0 0 0 0 (.slice none 0 0)) 29 (0, 0))); have HB5 := Aside0.mk (show Below w.heap.size w w5 by rw [hw5]; exact below_cells (pw_below_drewN HB.out nd) (Nat.le_refl _) _); clear hw5))
        have d0 := blk_cell HC5.out 0
        have d1 := blk_cell HC5.out 1
        have d2 := blk_cell HC5.out 2
        have d3 := blk_cell HC5.out 3
        have d4 := blk_cell HC5.out 4
        have d5 := blk_cell HC5.out 5
        have d6 := blk_cell HC5.out 6
        have d7 := blk_cell HC5.out 7
        simp only [blkM, List.getElem?_toArray, List.getElem?_cons_zero, List.getElem?_cons_succ] at d0 d1 d2 d3 d4 d5 d6 d7
        refine bodyPost_ret (v := .tuple #[.agg (blkM 0 0 0 0 0 0 0 (.slice none 0 0)), .int .i64 30]) ?_ rfl ⟨0, 0, 0, 0, 0, 0, 0, [], 30, ⟨by rw [HG.out]; exact hst.out⟩, _, rfl, Kd.R_nil _ _ _ _ _, HB5.out⟩
        simp [results, Try.results33, go_sem, blkM, d0, d1, d2, d3, d4, d5, d6, d7]
      · have hStep := Aside0.mk (show withN a (getNs (1 + 1) sk) = withN (a ++ [x]) (getNs 1 sn) by
          have := getNs_step a 1 sk (by rw [hgn])
          rw [hgn] at this
          exact this)
        have c2 := blk_cell HC2.out 5
        have f2 := blk_frozen HC2.out 5
        simp only [blkM, List.getElem?_toArray, List.getElem?_cons_zero, List.getElem?_cons_succ] at c2
        clear hgn
        go_wp2_with (first | ((with_reducible refine gate_dst (N := 16) rfl ?_); refine Kd.event_run (v := .pointer (some ⟨w.heap.size + 1, 5, none⟩)) (w1 := wr) rfl ?hx ?_; (case hx => kernel_rfl)) | (go_at_call 64; (with_reducible refine (HN.out _).mono ?_); rintro e w4 ⟨rfl, ⟨nd, rfl⟩⟩))
        go_roundw
        case measure => simp [intOf]
        case rel =>
        refine ⟨6, a ++ [x], sn, n0, n1, n2, n3, n4, x, n6, by omega, by go_num, rfl, ⟨by rw [HG.out]; exact hStep.out⟩, ⟨by rw [HA.out]; rfl⟩, ⟨blk_set (blk_drewN HC2.out nd) 5 (.int .i64 x)⟩, ⟨blk_far (blk_drewN HC1.out nd) (by show w.heap.size ≠ w.heap.size + 1; omega) _⟩, ⟨(pw_below_drewN HB.out nd).setCell (p := ⟨w.heap.size + 1, 5, none⟩) (by show w.heap.size ≤ w.heap.size + 1; omega) _⟩⟩
    · obtain ⟨x, sn, ok, hgn⟩ : ∃ x sn ok, getNum sk = (x, sn, ok) := ⟨_, _, _, rfl⟩
      have HN := Aside0.mk (fun W => codec_GetNumber.calls sk x sn ok W (by unfold codec_GetNumber.f; rw [hgn]))
      cases ok
      · have hst := Aside0.mk (getM_no (getNs_stop a 0 sk (by rw [hgn])))
        obtain ⟨hrun, hblk⟩ := store_msg HC1.out rfl 0 0 0 0 0 0 0 (.slice none 0 0) rfl
        have HRun := Aside0.mk (fun n => (store_msg (W := wr.drewN n) (blk_drewN HC1.out n) rfl 0 0 0 0 0 0 0 (.slice none 0 0) rfl))
        clear hgn hrun hblk
        go_wp2_with (first | ((with_reducible refine gate_dst (N := 16) rfl ?_); refine Kd.event_run (v := .pointer (some ⟨w.heap.size + 1, 6, none⟩)) (w1 := wr) rfl ?hx ?_; (case hx => kernel_rfl)) | (go_at_call 64; (with_reducible refine (HN.out _).mono ?_); rintro e w4 ⟨rfl, ⟨nd, rfl⟩⟩) | ((with_reducible refine gate_store (t := 29) (p := 2) rfl ?_); refine store_event (t := 29) (p := 2) (w1 := (wr.drewN nd).setCells w.heap.size 0 (blkM 0 0 0 0 0 0 0 (.slice none 0 0)).toList) rfl rfl rfl ?hr ?_; (case hr => (unfold execOp; simp only [Act.eval, Sem.run_bind, Sem.run_pure, Result.andThen_ok]; show ((Sem.run Try.prog (Instr.storeAt 29 (.pointer (some ⟨w.heap.size, 0, none⟩)) (.agg (blkM 0 0 0 0 0 0 0 (.slice none 0 0)))) (wr.drewN nd)).andThen _) = _; rw [(HRun.out nd).1]; try rfl)); intro w5 hw5; have HC5 := Aside0.mk (hw5 ▸ (HRun.out nd).2 : w5.heap[w.heap.size]? = some (.cells (blkM 0 0 0 0 0 0 0 (.slice none 0 0)) 29 (0, 0))); have HB5 := Aside0.mk (show Below w.heap.size w w5 by rw [hw5]; exact below_cells (pw_below_drewN HB.out nd) (Nat.le_refl _) _); clear hw5))
        have d0 := blk_cell HC5.out 0
        have d1 := blk_cell HC5.out 1
        have d2 := blk_cell HC5.out 2
        have d3 := blk_cell HC5.out 3
        have d4 := blk_cell HC5.out 4
        have d5 := blk_cell HC5.out 5
        have d6 := blk_cell HC5.out 6
        have d7 := blk_cell HC5.out 7
        simp only [blkM, List.getElem?_toArray, List.getElem?_cons_zero, List.getElem?_cons_succ] at d0 d1 d2 d3 d4 d5 d6 d7
        refine bodyPost_ret (v := .tuple #[.agg (blkM 0 0 0 0 0 0 0 (.slice none 0 0)), .int .i64 30]) ?_ rfl ⟨0, 0, 0, 0, 0, 0, 0, [], 30, ⟨by rw [HG.out]; exact hst.out⟩, _, rfl, Kd.R_nil _ _ _ _ _, HB5.out⟩
        simp [results, Try.results33, go_sem, blkM, d0, d1, d2, d3, d4, d5, d6, d7]
      · have hStep := Aside0.mk (show withN a (getNs (0 + 1) sk) = withN (a ++ [x]) (getNs 0 sn) by
          have := getNs_step a 0 sk (by rw [hgn])
          rw [hgn] at this
          exact this)
        have c2 := blk_cell HC2.out 6
        have f2 := blk_frozen HC2.out 6
        simp only [blkM, List.getElem?_toArray, List.getElem?_cons_zero, List.getElem?_cons_succ] at c2
        clear hgn
        go_wp2_with (first | ((with_reducible refine gate_dst (N := 16) rfl ?_); refine Kd.event_run (v := .pointer (some ⟨w.heap.size + 1, 6, none⟩)) (w1 := wr) rfl ?hx ?_; (case hx => kernel_rfl)) | (go_at_call 64; (with_reducible refine (HN.out _).mono ?_); rintro e w4 ⟨rfl, ⟨nd, rfl⟩⟩))
        go_roundw
        case measure => simp [intOf]
        case rel =>
        refine ⟨7, a ++ [x], sn, n0, n1, n2, n3, n4, n5, x, by omega, by go_num, rfl, ⟨by rw [HG.out]; exact hStep.out⟩, ⟨by rw [HA.out]; rfl⟩, ⟨blk_set (blk_drewN HC2.out nd) 6 (.int .i64 x)⟩, ⟨blk_far (blk_drewN HC1.out nd) (by show w.heap.size ≠ w.heap.size + 1; omega) _⟩, ⟨(pw_below_drewN HB.out nd).setCell (p := ⟨w.heap.size + 1, 6, none⟩) (by show w.heap.size ≤ w.heap.size + 1; omega) _⟩⟩
    · obtain ⟨l, rest, ok, hgr⟩ : ∃ l rest ok, getRow sk = (l, rest, ok) := ⟨_, _, _, rfl⟩
      have HGR := Aside0.mk (fun W => codec_GetRow.calls sk l rest ok W (by unfold codec_GetRow.f; rw [hgr]))
      have HM := Aside0.mk (show getM (getNs 7 s) = (if ok = true ∧ rest = ⟨#[]⟩ ∧ isB n0 n1 n2 n3 n4 n5 n6 l = true then (n0, n1, n2, n3, n4, n5, n6, l, 0) else (0, 0, 0, 0, 0, 0, 0, [], 30)) by
        rw [HG.out, HA.out]
        show getM ([n0, n1, n2, n3, n4, n5, n6] ++ [], sk, true) = _
        rw [List.append_nil]
        unfold getM
        simp only [hgr])
      clear hgr HG HA
      cases ok
      · have HRes := Aside0.mk (show getM (getNs 7 s) = (0, 0, 0, 0, 0, 0, 0, [], 30) by rw [HM.out, if_neg (by simp)])
        clear HM
        go_wp2_with (first | (go_at_call 65; (with_reducible refine (HGR.out _).mono ?_); rintro e w4 ⟨v0, rfl, hR4, hb4⟩; obtain ⟨A8, c8, rfl⟩ := Kd.R_slice hR4; have HR4 := Aside0.mk (Kd.R_lower hR4 HB.out.size); have HB4 := Aside0.mk (HB.out.trans (hb4.mono HB.out.size)); have HC14 := Aside0.mk (blk_below HC1.out hb4); have HC24 := Aside0.mk (blk_below HC2.out hb4); clear hR4 hb4; have c7 := blk_cell HC24.out 7; have f7 := blk_frozen HC24.out 7; simp only [blkM, List.getElem?_toArray, List.getElem?_cons_zero, List.getElem?_cons_succ] at c7; have HC15 := Aside0.mk (blk_far HC14.out (p := ⟨w.heap.size + 1, 7, none⟩) (by show w.heap.size ≠ w.heap.size + 1; omega) (.slice A8 l.length c8)); have HC25 := Aside0.mk (show (w4.setCell ⟨w.heap.size + 1, 7, none⟩ (.slice A8 l.length c8)).heap[w.heap.size + 1]? = some (.cells (blkM n0 n1 n2 n3 n4 n5 n6 (.slice A8 l.length c8)) 29 (0, 0)) from blk_set HC24.out 7 (.slice A8 l.length c8)); have HB5 := Aside0.mk (HB4.out.setCell (p := ⟨w.heap.size + 1, 7, none⟩) (by show w.heap.size ≤ w.heap.size + 1; omega) (.slice A8 l.length c8)); have HR5 := Aside0.mk (Kd.R_set HR4.out HC24.out (by intro q hq; simp [Kd.string, Kd.scalar] at hq; subst hq; decide) 7 (.slice A8 l.length c8)); clear HR4 HC14) | ((with_reducible refine gate_store (t := 29) (p := 2) rfl ?_); refine store_event (t := 29) (p := 2) (w1 := (w4.setCell ⟨w.heap.size + 1, 7, none⟩ (.slice A8 l.length c8)).setCells w.heap.size 0 (blkM 0 0 0 0 0 0 0 (.slice none 0 0)).toList) rfl rfl rfl ?hr ?_; (case hr => (unfold execOp; simp only [Act.eval, Sem.run_bind, Sem.run_pure, Result.andThen_ok]; show ((Sem.run Try.prog (Instr.storeAt 29 (.pointer (some ⟨w.heap.size, 0, none⟩)) (.agg (blkM 0 0 0 0 0 0 0 (.slice none 0 0)))) (w4.setCell ⟨w.heap.size + 1, 7, none⟩ (.slice A8 l.length c8))).andThen _) = _; rw [(store_msg HC15.out rfl 0 0 0 0 0 0 0 (.slice none 0 0) rfl).1]; try rfl)); intro w9 hw9; have HC9 := Aside0.mk (hw9 ▸ (store_msg HC15.out rfl 0 0 0 0 0 0 0 (.slice none 0 0) rfl).2 : w9.heap[w.heap.size]? = some (.cells (blkM 0 0 0 0 0 0 0 (.slice none 0 0)) 29 (0, 0))); have HB9 := Aside0.mk (show Below w.heap.size w w9 by rw [hw9]; exact below_cells HB5.out (Nat.le_refl _) _); clear hw9))
        have d0 := blk_cell HC9.out 0
        have d1 := blk_cell HC9.out 1
        have d2 := blk_cell HC9.out 2
        have d3 := blk_cell HC9.out 3
        have d4 := blk_cell HC9.out 4
        have d5 := blk_cell HC9.out 5
        have d6 := blk_cell HC9.out 6
        have d7 := blk_cell HC9.out 7
        simp only [blkM, List.getElem?_toArray, List.getElem?_cons_zero, List.getElem?_cons_succ] at d0 d1 d2 d3 d4 d5 d6 d7
        refine bodyPost_ret (v := .tuple #[.agg (blkM 0 0 0 0 0 0 0 (.slice none 0 0)), .int .i64 30]) ?_ rfl ⟨0, 0, 0, 0, 0, 0, 0, [], 30, ⟨HRes.out⟩, _, rfl, Kd.R_nil _ _ _ _ _, HB9.out⟩
        simp [results, Try.results33, go_sem, blkM, d0, d1, d2, d3, d4, d5, d6, d7]
      · by_cases hre : rest = ⟨#[]⟩
        · subst hre
          cases hib : isB n0 n1 n2 n3 n4 n5 n6 l
          · have HRes := Aside0.mk (show getM (getNs 7 s) = (0, 0, 0, 0, 0, 0, 0, [], 30) by rw [HM.out, if_neg (by rw [hib]; simp)])
            have HIB := Aside0.mk hib
            clear HM hib
            go_wp2_with (first | (go_at_call 65; (with_reducible refine (HGR.out _).mono ?_); rintro e w4 ⟨v0, rfl, hR4, hb4⟩; obtain ⟨A8, c8, rfl⟩ := Kd.R_slice hR4; have HR4 := Aside0.mk (Kd.R_lower hR4 HB.out.size); have HB4 := Aside0.mk (HB.out.trans (hb4.mono HB.out.size)); have HC14 := Aside0.mk (blk_below HC1.out hb4); have HC24 := Aside0.mk (blk_below HC2.out hb4); clear hR4 hb4; have c7 := blk_cell HC24.out 7; have f7 := blk_frozen HC24.out 7; simp only [blkM, List.getElem?_toArray, List.getElem?_cons_zero, List.getElem?_cons_succ] at c7; have HC15 := Aside0.mk (blk_far HC14.out (p := ⟨w.heap.size + 1, 7, none⟩) (by show w.heap.size ≠ w.heap.size + 1; omega) (.slice A8 l.length c8)); have HC25 := Aside0.mk (show (w4.setCell ⟨w.heap.size + 1, 7, none⟩ (.slice A8 l.length c8)).heap[w.heap.size + 1]? = some (.cells (blkM n0 n1 n2 n3 n4 n5 n6 (.slice A8 l.length c8)) 29 (0, 0)) from blk_set HC24.out 7 (.slice A8 l.length c8)); have HB5 := Aside0.mk (HB4.out.setCell (p := ⟨w.heap.size + 1, 7, none⟩) (by show w.heap.size ≤ w.heap.size + 1; omega) (.slice A8 l.length c8)); have HR5 := Aside0.mk (Kd.R_set HR4.out HC24.out (by intro q hq; simp [Kd.string, Kd.scalar] at hq; subst hq; decide) 7 (.slice A8 l.length c8)); clear HR4 HC14; have g0 := blk_cell HC25.out 0; have g1 := blk_cell HC25.out 1; have g2 := blk_cell HC25.out 2; have g3 := blk_cell HC25.out 3; have g4 := blk_cell HC25.out 4; have g5 := blk_cell HC25.out 5; have g6 := blk_cell HC25.out 6; have g7 := blk_cell HC25.out 7; simp only [blkM, List.getElem?_toArray, List.getElem?_cons_zero, List.getElem?_cons_succ] at g0 g1 g2 g3 g4 g5 g6 g7) | (go_at_call 36; (with_reducible refine (msg_Is.calls 1 n0 n1 n2 n3 n4 n5 n6 A8 c8 l false _ (Kd.R_reads' HR5.out).2.2 (Kd.R_reads' HR5.out).2.1 (by rw [msg_is_f 0, HIB.out])).mono ?_); rintro e w6 ⟨rfl, hb6⟩; have HC16 := Aside0.mk (blk_below HC15.out hb6); have HC26 := Aside0.mk (blk_below HC25.out hb6); have HB6 := Aside0.mk (HB5.out.trans (hb6.mono HB5.out.size)); have HR6 := Aside0.mk (Kd.R_below HR5.out hb6); clear hb6 g0 g1 g2 g3 g4 g5 g6 g7; have g0 := blk_cell HC26.out 0; have g1 := blk_cell HC26.out 1; have g2 := blk_cell HC26.out 2; have g3 := blk_cell HC26.out 3; have g4 := blk_cell HC26.out 4; have g5 := blk_cell HC26.out 5; have g6 := blk_cell HC26.out 6; have g7 := blk_cell HC26.out 7; simp only [blkM, List.getElem?_toArray, List.getElem?_cons_zero, List.getElem?_cons_succ] at g0 g1 g2 g3 g4 g5 g6 g7) | ((with_reducible refine gate_store (t := 29) (p := 2) rfl ?_); refine store_event (t := 29) (p := 2) (w1 := w6.setCells w.heap.size 0 (blkM 0 0 0 0 0 0 0 (.slice none 0 0)).toList) rfl rfl rfl ?hr ?_; (case hr => (unfold execOp; simp only [Act.eval, Sem.run_bind, Sem.run_pure, Result.andThen_ok]; show ((Sem.run Try.prog (Instr.storeAt 29 (.pointer (some ⟨w.heap.size, 0, none⟩)) (.agg (blkM 0 0 0 0 0 0 0 (.slice none 0 0)))) w6).andThen _) = _; rw [(store_msg HC16.out rfl 0 0 0 0 0 0 0 (.slice none 0 0) rfl).1]; try rfl)); intro w9 hw9; have HC9 := Aside0.mk (hw9 ▸ (store_msg HC16.out rfl 0 0 0 0 0 0 0 (.slice none 0 0) rfl).2 : w9.heap[w.heap.size]? = some (.cells (blkM 0 0 0 0 0 0 0 (.slice none 0 0)) 29 (0, 0))); have HB9 := Aside0.mk (show Below w.heap.size w w9 by rw [hw9]; exact below_cells HB6.out (Nat.le_refl _) _); clear hw9))
            have d0 := blk_cell HC9.out 0
            have d1 := blk_cell HC9.out 1
            have d2 := blk_cell HC9.out 2
            have d3 := blk_cell HC9.out 3
            have d4 := blk_cell HC9.out 4
            have d5 := blk_cell HC9.out 5
            have d6 := blk_cell HC9.out 6
            have d7 := blk_cell HC9.out 7
            simp only [blkM, List.getElem?_toArray, List.getElem?_cons_zero, List.getElem?_cons_succ] at d0 d1 d2 d3 d4 d5 d6 d7
            refine bodyPost_ret (v := .tuple #[.agg (blkM 0 0 0 0 0 0 0 (.slice none 0 0)), .int .i64 30]) ?_ rfl ⟨0, 0, 0, 0, 0, 0, 0, [], 30, ⟨HRes.out⟩, _, rfl, Kd.R_nil _ _ _ _ _, HB9.out⟩
            simp [results, Try.results33, go_sem, blkM, d0, d1, d2, d3, d4, d5, d6, d7]
          · have HRes := Aside0.mk (show getM (getNs 7 s) = (n0, n1, n2, n3, n4, n5, n6, l, 0) by rw [HM.out, if_pos ⟨rfl, rfl, hib⟩])
            have HIB := Aside0.mk hib
            clear HM hib
            go_wp2_with (first | (go_at_call 65; (with_reducible refine (HGR.out _).mono ?_); rintro e w4 ⟨v0, rfl, hR4, hb4⟩; obtain ⟨A8, c8, rfl⟩ := Kd.R_slice hR4; have HR4 := Aside0.mk (Kd.R_lower hR4 HB.out.size); have HB4 := Aside0.mk (HB.out.trans (hb4.mono HB.out.size)); have HC14 := Aside0.mk (blk_below HC1.out hb4); have HC24 := Aside0.mk (blk_below HC2.out hb4); clear hR4 hb4; have c7 := blk_cell HC24.out 7; have f7 := blk_frozen HC24.out 7; simp only [blkM, List.getElem?_toArray, List.getElem?_cons_zero, List.getElem?_cons_succ] at c7; have HC15 := Aside0.mk (blk_far HC14.out (p := ⟨w.heap.size + 1, 7, none⟩) (by show w.heap.size ≠ w.heap.size + 1; omega) (.slice A8 l.length c8)); have HC25 := Aside0.mk (show (w4.setCell ⟨w.heap.size + 1, 7, none⟩ (.slice A8 l.length c8)).heap[w.heap.size + 1]? = some (.cells (blkM n0 n1 n2 n3 n4 n5 n6 (.slice A8 l.length c8)) 29 (0, 0)) from blk_set HC24.out 7 (.slice A8 l.length c8)); have HB5 := Aside0.mk (HB4.out.setCell (p := ⟨w.heap.size + 1, 7, none⟩) (by show w.heap.size ≤ w.heap.size + 1; omega) (.slice A8 l.length c8)); have HR5 := Aside0.mk (Kd.R_set HR4.out HC24.out (by intro q hq; simp [Kd.string, Kd.scalar] at hq; subst hq; decide) 7 (.slice A8 l.length c8)); clear HR4 HC14; have g0 := blk_cell HC25.out 0; have g1 := blk_cell HC25.out 1; have g2 := blk_cell HC25.out 2; have g3 := blk_cell HC25.out 3; have g4 := blk_cell HC25.out 4; have g5 := blk_cell HC25.out 5; have g6 := blk_cell HC25.out 6; have g7 := blk_cell HC25.out 7; simp only [blkM, List.getElem?_toArray, List.getElem?_cons_zero, List.getElem?_cons_succ] at g0 g1 g2 g3 g4 g5 g6 g7) | (go_at_call 36; (with_reducible refine (msg_Is.calls 1 n0 n1 n2 n3 n4 n5 n6 A8 c8 l true _ (Kd.R_reads' HR5.out).2.2 (Kd.R_reads' HR5.out).2.1 (by rw [msg_is_f 0, HIB.out])).mono ?_); rintro e w6 ⟨rfl, hb6⟩; have HC16 := Aside0.mk (blk_below HC15.out hb6); have HC26 := Aside0.mk (blk_below HC25.out hb6); have HB6 := Aside0.mk (HB5.out.trans (hb6.mono HB5.out.size)); have HR6 := Aside0.mk (Kd.R_below HR5.out hb6); clear hb6 g0 g1 g2 g3 g4 g5 g6 g7; have g0 := blk_cell HC26.out 0; have g1 := blk_cell HC26.out 1; have g2 := blk_cell HC26.out 2; have g3 := blk_cell HC26.out 3; have g4 := blk_cell HC26.out 4; have g5 := blk_cell HC26.out 5; have g6 := blk_cell HC26.out 6; have g7 := blk_cell HC26.out 7; simp only [blkM, List.getElem?_toArray, List.getElem?_cons_zero, List.getElem?_cons_succ] at g0 g1 g2 g3 g4 g5 g6 g7) | ((with_reducible refine gate_store (t := 29) (p := 2) rfl ?_); refine store_event (t := 29) (p := 2) (w1 := w6.setCells w.heap.size 0 (blkM n0 n1 n2 n3 n4 n5 n6 (.slice A8 l.length c8)).toList) rfl rfl rfl ?hr ?_; (case hr => (unfold execOp; simp only [Act.eval, Sem.run_bind, Sem.run_pure, Result.andThen_ok]; show ((Sem.run Try.prog (Instr.storeAt 29 (.pointer (some ⟨w.heap.size, 0, none⟩)) (.agg (blkM n0 n1 n2 n3 n4 n5 n6 (.slice A8 l.length c8)))) w6).andThen _) = _; rw [(store_msg HC16.out rfl n0 n1 n2 n3 n4 n5 n6 (.slice A8 l.length c8) rfl).1]; try rfl)); intro w9 hw9; have HC9 := Aside0.mk (hw9 ▸ (store_msg HC16.out rfl n0 n1 n2 n3 n4 n5 n6 (.slice A8 l.length c8) rfl).2 : w9.heap[w.heap.size]? = some (.cells (blkM n0 n1 n2 n3 n4 n5 n6 (.slice A8 l.length c8)) 29 (0, 0))); have HB9 := Aside0.mk (show Below w.heap.size w w9 by rw [hw9]; exact below_cells HB6.out (Nat.le_refl _) _); have HR9 := Aside0.mk (show Kd.R Kd.string 9 w9 w.heap.size (fun _ => True) (.slice A8 l.length c8) l by rw [hw9]; exact R_cells HR6.out HC16.out (by intro q hq; simp [Kd.string, Kd.scalar] at hq; subst hq; decide) _); clear hw9))
            have d0 := blk_cell HC9.out 0
            have d1 := blk_cell HC9.out 1
            have d2 := blk_cell HC9.out 2
            have d3 := blk_cell HC9.out 3
            have d4 := blk_cell HC9.out 4
            have d5 := blk_cell HC9.out 5
            have d6 := blk_cell HC9.out 6
            have d7 := blk_cell HC9.out 7
            simp only [blkM, List.getElem?_toArray, List.getElem?_cons_zero, List.getElem?_cons_succ] at d0 d1 d2 d3 d4 d5 d6 d7
            refine bodyPost_ret (v := .tuple #[.agg (blkM n0 n1 n2 n3 n4 n5 n6 (.slice A8 l.length c8)), .int .i64 0]) ?_ rfl ⟨n0, n1, n2, n3, n4, n5, n6, l, 0, ⟨HRes.out⟩, _, rfl, HR9.out, HB9.out⟩
            simp [results, Try.results33, go_sem, blkM, d0, d1, d2, d3, d4, d5, d6, d7]
        · have HRes := Aside0.mk (show getM (getNs 7 s) = (0, 0, 0, 0, 0, 0, 0, [], 30) by rw [HM.out, if_neg (by intro h; exact hre h.2.1)])
          have hr1 : rest.toList.isEmpty = false := by
            rw [List.isEmpty_eq_false_iff]; intro h; apply hre; rw [ByteArray.toList_eq] at h; exact ByteArray.ext (Array.toList_inj.1 h)
          have hr2 : (rest.toList == []) = false := by
            rw [beq_eq_false_iff_ne]; intro h; rw [h] at hr1; cases hr1
          clear HM hre
          go_wp2_with (first | (go_at_call 65; (with_reducible refine (HGR.out _).mono ?_); rintro e w4 ⟨v0, rfl, hR4, hb4⟩; obtain ⟨A8, c8, rfl⟩ := Kd.R_slice hR4; have HR4 := Aside0.mk (Kd.R_lower hR4 HB.out.size); have HB4 := Aside0.mk (HB.out.trans (hb4.mono HB.out.size)); have HC14 := Aside0.mk (blk_below HC1.out hb4); have HC24 := Aside0.mk (blk_below HC2.out hb4); clear hR4 hb4; have c7 := blk_cell HC24.out 7; have f7 := blk_frozen HC24.out 7; simp only [blkM, List.getElem?_toArray, List.getElem?_cons_zero, List.getElem?_cons_succ] at c7; have HC15 := Aside0.mk (blk_far HC14.out (p := ⟨w.heap.size + 1, 7, none⟩) (by show w.heap.size ≠ w.heap.size + 1; omega) (.slice A8 l.length c8)); have HC25 := Aside0.mk (show (w4.setCell ⟨w.heap.size + 1, 7, none⟩ (.slice A8 l.length c8)).heap[w.heap.size + 1]? = some (.cells (blkM n0 n1 n2 n3 n4 n5 n6 (.slice A8 l.length c8)) 29 (0, 0)) from blk_set HC24.out 7 (.slice A8 l.length c8)); have HB5 := Aside0.mk (HB4.out.setCell (p := ⟨w.heap.size + 1, 7, none⟩) (by show w.heap.size ≤ w.heap.size + 1; omega) (.slice A8 l.length c8)); have HR5 := Aside0.mk (Kd.R_set HR4.out HC24.out (by intro q hq; simp [Kd.string, Kd.scalar] at hq; subst hq; decide) 7 (.slice A8 l.length c8)); clear HR4 HC14) | ((with_reducible refine gate_store (t := 29) (p := 2) rfl ?_); refine store_event (t := 29) (p := 2) (w1 := (w4.setCell ⟨w.heap.size + 1, 7, none⟩ (.slice A8 l.length c8)).setCells w.heap.size 0 (blkM 0 0 0 0 0 0 0 (.slice none 0 0)).toList) rfl rfl rfl ?hr ?_; (case hr => (unfold execOp; simp only [Act.eval, Sem.run_bind, Sem.run_pure, Result.andThen_ok]; show ((Sem.run Try.prog (Instr.storeAt 29 (.pointer (some ⟨w.heap.size, 0, none⟩)) (.agg (blkM 0 0 0 0 0 0 0 (.slice none 0 0)))) (w4.setCell ⟨w.heap.size + 1, 7, none⟩ (.slice A8 l.length c8))).andThen _) = _; rw [(store_msg HC15.out rfl 0 0 0 0 0 0 0 (.slice none 0 0) rfl).1]; try rfl)); intro w9 hw9; have HC9 := Aside0.mk (hw9 ▸ (store_msg HC15.out rfl 0 0 0 0 0 0 0 (.slice none 0 0) rfl).2 : w9.heap[w.heap.size]? = some (.cells (blkM 0 0 0 0 0 0 0 (.slice none 0 0)) 29 (0, 0))); have HB9 := Aside0.mk (show Below w.heap.size w w9 by rw [hw9]; exact below_cells HB5.out (Nat.le_refl _) _); clear hw9))
          have d0 := blk_cell HC9.out 0
          have d1 := blk_cell HC9.out 1
          have d2 := blk_cell HC9.out 2
          have d3 := blk_cell HC9.out 3
          have d4 := blk_cell HC9.out 4
          have d5 := blk_cell HC9.out 5
          have d6 := blk_cell HC9.out 6
          have d7 := blk_cell HC9.out 7
          simp only [blkM, List.getElem?_toArray, List.getElem?_cons_zero, List.getElem?_cons_succ] at d0 d1 d2 d3 d4 d5 d6 d7
          refine bodyPost_ret (v := .tuple #[.agg (blkM 0 0 0 0 0 0 0 (.slice none 0 0)), .int .i64 30]) ?_ rfl ⟨0, 0, 0, 0, 0, 0, 0, [], 30, ⟨HRes.out⟩, _, rfl, Kd.R_nil _ _ _ _ _, HB9.out⟩
          simp [results, Try.results33, go_sem, blkM, d0, d1, d2, d3, d4, d5, d6, d7]
theorem msg_Get.calls (a0 : ByteArray) (r1 r2 r3 r4 r5 r6 r7 : Int) (r8 : List ByteArray) (r9 : Int) (w : World) (h : msg_Get.f a0 = some (r1, r2, r3, r4, r5, r6, r7, r8, r9)) :
    Calls Try.prog 33 #[.string a0] w fun e w' => ∃ v7_ : Value, e = .returned (.tuple #[.agg #[.int .i64 r1, .int .i64 r2, .int .i64 r3, .int .i64 r4, .int .i64 r5, .int .i64 r6, .int .i64 r7, v7_], .int .i64 r9]) ∧ Kd.R Kd.string 9 w' w.heap.size (fun _ => True) v7_ r8 ∧ Below w.heap.size w w' := by
  have hg := Option.some.inj h
  refine (msg_Get_any a0 w).mono ?_
  rintro e w' ⟨s1, s2, s3, s4, s5, s6, s7, s8, s9, hs, v, rfl, hR, hB⟩
  have := hs.out.symm.trans hg
  simp only [Prod.mk.injEq] at this
  obtain ⟨rfl, rfl, rfl, rfl, rfl, rfl, rfl, rfl, rfl⟩ := this
  exact ⟨v, rfl, hR, hB⟩
end Go.Proofs.Ytfejidinfcmfjaa.P
/-
  slices.Clone over texts, by hand: the same elements in a row of its own. For every row of no more than 1000000000 elements.
-/
namespace Go.Proofs.Ytfejidinfcmfjaa.P
open Go.RowKit Go.Proofs.YtfejidinfcmfjaaW.PrintWords Go.Proofs.YtfejidinfcmfjaaW.PrintLast Go.Proofs.YtfejidinfcmfjaaW.PrintMore Go.Proofs.Plain

/-- What slices.Clone answers. -/
def slices_Clone_string_string.f (l0 : List ByteArray) : Option (List ByteArray) := if l0.length ≤ 1000000000 then some l0 else none
theorem slices_Clone_string_string_info : (Try.prog.info? 9).map (fun i => (i.zero, i.size, i.bytes)) = some (some (.string ⟨#[]⟩), 1, 16) := by kernel_rfl

set_option maxHeartbeats 2000000 in
theorem slices_Clone_string_string.calls (A0 : Option Addr) (c0 : Nat) (l0 : List ByteArray) (r : List ByteArray) (w : World) (hr0 : Kd.C Kd.string w A0 l0.length l0) (hc0 : l0.length ≤ c0) (h : slices_Clone_string_string.f l0 = some r) :
    Calls Try.prog 74 #[.slice A0 l0.length c0] w fun e w' => ∃ v0_ : Value, e = .returned (v0_) ∧ Kd.R Kd.string 9 w' w.heap.size (fun _ => True) v0_ r ∧ Below w.heap.size w w' := by
  unfold slices_Clone_string_string.f at h
  split at h
  · rename_i hlen
    obtain rfl := Option.some.inj h
    have HR := Aside0.mk hr0
    have HL := Aside0.mk hlen
    have heq := fun (W : World) => Lib.run_eql_slice_nil (P := Try.prog) W 27 9 A0 l0.length c0 0 0 Try.underlying27
    clear h hlen
    cases A0 with
    | none =>
      have h0 : l0 = [] := by
        cases l0 with
        | nil => rfl
        | cons x l => obtain ⟨_, e, _⟩ := hr0.2.2 (by simp); cases e
      have HN := Aside0.mk h0
      clear hr0 h0
      go_enter Try.func74, Try.ntmps74
      go_wp2
      go_ret
      exact ⟨_, rfl, by rw [HN.out]; exact Kd.R_nil _ _ _ _ _, Below.refl _ _⟩
    | some ad =>
      clear hr0
      have HR0 := Aside0.mk (show Kd.R Kd.string 9 (w.alloc (.cells #[] 9)) w.heap.size (fun _ => True) (.slice (some ⟨w.heap.size, 0, none⟩) 0 0) [] from ⟨fun _ _ => trivial, [], World.ownsRow_lit w #[] 0 (Nat.le_refl _) (by simp [maxLen]) rfl, Reps.none _ _⟩)
      have HB := Aside0.mk (show Below w.heap.size w (w.alloc (.cells #[] 9)) from (Below.refl _ _).alloc (Nat.le_refl _) _)
      go_enter Try.func74, Try.ntmps74
      go_wp2_with (at_builtin; refine Kd.R_append_rows Kd.string (w0 := w) w.heap.size rfl (.tmp 5) (.tmp 6) 27 9 (.string ⟨#[]⟩) 16 rfl Try.underlying27 slices_Clone_string_string_info rfl (by decide) (by omega) (.slice (some ⟨w.heap.size, 0, none⟩) 0 0) ([] : List ByteArray) l0 _ _ _ (fun _ => True) (fun _ => False) rfl rfl HR0.out (Kd.C_below HR.out HB.out) (fun _ _ h => h) (fun _ h => h.elim) (fun _ _ => trivial) HB.out HB.out.size (by have := HL.out; simp; omega) ?_; intro v1 w1 ho hb _ _; have HO := Aside0.mk ho; have HB1 := Aside0.mk hb; clear ho hb)
      go_ret
      exact ⟨_, rfl, HO.out, HB1.out⟩
  · cases h
end Go.Proofs.Ytfejidinfcmfjaa.P
-- Written by a program of this session (xprint.py) over the kit's print.py.
namespace Go.Proofs.Ytfejidinfcmfjaa.P
open Go.RowKit Go.Proofs.YtfejidinfcmfjaaW.PrintWords Go.Proofs.YtfejidinfcmfjaaW.PrintLast Go.Proofs.YtfejidinfcmfjaaW.PrintMore
attribute [local go_sem] max2_int min2_int max_two min_two max_three min_three max_four min_four   -- for this text's walks alone
set_option linter.unusedVariables false
set_option linter.unusedSimpArgs false

/-! ### msg_Prepare: function 40 -/
def msg_Prepare.f (a0 : Int) (a1 : Int) (a2 : Int) (a3 : Int) (l4 : List ByteArray) : Option (Int × Int × Int × Int × Int × Int × Int × List ByteArray) := (slices_Clone_string_string.f l4).bind fun t374 => (some (1, a0, a1, a2, 0, a3, 0, t374))
set_option maxHeartbeats 8000000 in
set_option maxRecDepth 100000 in
theorem msg_Prepare.calls (a0 : Int) (a1 : Int) (a2 : Int) (a3 : Int) (A4 : Option Addr) (c4 : Nat) (l4 : List ByteArray) (r1 : Int) (r2 : Int) (r3 : Int) (r4 : Int) (r5 : Int) (r6 : Int) (r7 : Int) (r8 : List ByteArray) (w : World) (hr4 : Kd.C Kd.string w A4 l4.length l4) (hc4 : l4.length ≤ c4) (h : msg_Prepare.f a0 a1 a2 a3 l4 = some (r1, r2, r3, r4, r5, r6, r7, r8)) :
    Calls Try.prog 40 #[.int .i64 a0, .int .i64 a1, .int .i64 a2, .int .i64 a3, .slice A4 l4.length c4] w fun e w' => ∃ v7_ : Value, e = .returned (.agg #[.int .i64 r1, .int .i64 r2, .int .i64 r3, .int .i64 r4, .int .i64 r5, .int .i64 r6, .int .i64 r7, v7_]) ∧ Kd.R Kd.string 9 w' w.heap.size (fun _ => True) v7_ r8 ∧ Below w.heap.size w w' := by
  have hu29 := Try.underlying29
  have HR4 := Aside0.mk hr4
  have HC4 := Aside0.mk hc4
  clear hr4 hc4
  have HB := Aside0.mk (Below.refl w.heap.size w)
  have H : ((slices_Clone_string_string.f l4).bind fun t374 => (some (1, a0, a1, a2, 0, a3, 0, t374))) = some (r1, r2, r3, r4, r5, r6, r7, r8) := h
  clear h
  replace H := Option.bind_eq_some_iff.mp H
  obtain ⟨t374, A60, H⟩ := H
  replace H : (some (1, a0, a1, a2, 0, a3, 0, t374)) = some (r1, r2, r3, r4, r5, r6, r7, r8) := H
  have A6 := Aside0.mk A60
  clear A60
  simp only [Option.some.injEq, Prod.mk.injEq] at H
  obtain ⟨rfl, rfl, rfl, rfl, rfl, rfl, rfl, rfl⟩ := H
  go_enter Try.func40, Try.ntmps40
  go_wp2_with (first | ((with_reducible refine gate_dst (N := 10) rfl ?_); refine box_event ?hg (N := 10) ?hd (cs := #[.int .i64 0, .int .i64 0, .int .i64 0, .int .i64 0, .int .i64 0, .int .i64 0, .int .i64 0, .slice none 0 0]) (t := 29) ?hr ?_; (case hd => rfl); (case hg => rfl); (case hr => first | (go_simp; done) | (go_simp; rfl)); intro gb373 hg w7 hbox hb; have n0_ := Aside0.mk (below_step (by repeat (first | (with_reducible first | exact HB.out | apply below_alloc | apply pw_below_drewN | apply below_drew1) | exact HB.out)) hb); have n1_ := Aside0.mk (hbox); have n2_ := Aside0.mk ((by rw [hg]; exact (below_size (by repeat (first | (with_reducible first | exact HB.out | apply below_alloc | apply pw_below_drewN | apply below_drew1) | exact HB.out))) : w.heap.size ≤ gb373)); have n3_ := Aside0.mk ((by rw [hg]; exact (below_size (by repeat (first | (with_reducible first | exact HB.out | apply below_alloc | apply pw_below_drewN | apply below_drew1) | exact HB.out))) : w.heap.size ≤ gb373)); clear HB; have HB := n0_; have BK373 := n1_; have GW373 := n2_; have GE373 := n3_; clear n0_ n1_ n2_ n3_; clear hb hbox hg) | ((with_reducible refine gate_callee (f := 74) rfl ?_); refine goesL_ (some 16) rfl rfl Try.func74 (by kernel_rfl) rfl #[.slice A4 l4.length c4] rfl (by (try simp only [List.map_toArray, List.map_cons, List.map_nil]); first | done | rfl | (simp only [List.length_drop, List.length_take]; rfl)) ?_; (with_reducible refine (slices_Clone_string_string.calls _ _ l4 t374 _ ?side1 ?side2 A6.out).mono ?_); (case side1 => repeat (first | exact (Kd.C_below HR4.out HB.out) | (with_reducible refine Kd.C_alloc ?_ _) | (with_reducible refine Kd.C_drewN ?_ _) | (with_reducible refine Kd.C_drew ?_))); (case side2 => exact HC4.out); rintro e w8 ⟨v375, rfl, ho0, hb⟩; refine ⟨_, rfl, ?_⟩; have n0_ := Aside0.mk (Kd.R_lower ho0 (below_size (by repeat (first | (with_reducible first | exact HB.out | apply below_alloc | apply pw_below_drewN | apply below_drew1 | refine below_set ?_ GE373.out) | exact HB.out)))); have n1_ := Aside0.mk (blk_below (g := gb373) (o := .cells #[.int .i64 0, .int .i64 0, .int .i64 0, .int .i64 0, .int .i64 0, .int .i64 0, .int .i64 0, .slice none 0 0] 29 (0, 0)) (by (with_reducible repeat (first | refine blk_drewN ?_ _ | refine blk_drew ?_ | refine blk_alloc ?_ _)); exact BK373.out) hb); have n2_ := Aside0.mk (below_step (by repeat (first | (with_reducible first | exact HB.out | apply below_alloc | apply pw_below_drewN | apply below_drew1 | refine below_set ?_ GE373.out) | exact HB.out)) hb); clear BK373; clear HB; have HO376 := n0_; have BK373 := n1_; have HB := n2_; clear n0_ n1_ n2_; (try clear hb); (try clear hb2); (try clear hk); (try clear hi); (try clear ho0); obtain ⟨Ao9, co9, eo9⟩ := Kd.R_slice HO376.out; subst eo9; have hcz10_0 : w8.cell? ⟨gb373, 0, none⟩ = some (.int .i64 0) := (blk_cell BK373.out 0).trans rfl; have hcz10_1 : w8.cell? ⟨gb373, 1, none⟩ = some (.int .i64 0) := (blk_cell BK373.out 1).trans rfl; have hcz10_2 : w8.cell? ⟨gb373, 2, none⟩ = some (.int .i64 0) := (blk_cell BK373.out 2).trans rfl; have hcz10_3 : w8.cell? ⟨gb373, 3, none⟩ = some (.int .i64 0) := (blk_cell BK373.out 3).trans rfl; have hcz10_4 : w8.cell? ⟨gb373, 4, none⟩ = some (.int .i64 0) := (blk_cell BK373.out 4).trans rfl; have hcz10_5 : w8.cell? ⟨gb373, 5, none⟩ = some (.int .i64 0) := (blk_cell BK373.out 5).trans rfl; have hcz10_6 : w8.cell? ⟨gb373, 6, none⟩ = some (.int .i64 0) := (blk_cell BK373.out 6).trans rfl; have hcz10_7 : w8.cell? ⟨gb373, 7, none⟩ = some (.slice none 0 0) := (blk_cell BK373.out 7).trans rfl; have hfz10_0 := blk_frozen BK373.out 0; have hfz10_1 := blk_frozen BK373.out 1; have hfz10_2 := blk_frozen BK373.out 2; have hfz10_3 := blk_frozen BK373.out 3; have hfz10_4 := blk_frozen BK373.out 4; have hfz10_5 := blk_frozen BK373.out 5; have hfz10_6 := blk_frozen BK373.out 6; have hfz10_7 := blk_frozen BK373.out 7))
  refine bodyPost_ret (results_cell_row rfl _ _ gb373 29 #[.int .i64 1, .int .i64 a0, .int .i64 a1, .int .i64 a2, .int .i64 0, .int .i64 a3, .int .i64 0, .slice Ao9 t374.length co9] (0, 0) _ rfl (by (with_reducible repeat (first | refine blk_drewN ?_ _ | refine blk_drew ?_ | refine blk_alloc ?_ _)); refine blk_put (cs := #[.int .i64 1, .int .i64 a0, .int .i64 a1, .int .i64 a2, .int .i64 0, .int .i64 a3, .int .i64 0, .slice none 0 0]) ?_ 7 _ rfl; (with_reducible repeat (first | refine blk_drewN ?_ _ | refine blk_drew ?_ | refine blk_alloc ?_ _)); refine blk_put (cs := #[.int .i64 1, .int .i64 a0, .int .i64 a1, .int .i64 a2, .int .i64 0, .int .i64 a3, .int .i64 0, .slice none 0 0]) ?_ 6 _ rfl; (with_reducible repeat (first | refine blk_drewN ?_ _ | refine blk_drew ?_ | refine blk_alloc ?_ _)); refine blk_put (cs := #[.int .i64 1, .int .i64 a0, .int .i64 a1, .int .i64 a2, .int .i64 0, .int .i64 0, .int .i64 0, .slice none 0 0]) ?_ 5 _ rfl; (with_reducible repeat (first | refine blk_drewN ?_ _ | refine blk_drew ?_ | refine blk_alloc ?_ _)); refine blk_put (cs := #[.int .i64 1, .int .i64 a0, .int .i64 a1, .int .i64 a2, .int .i64 0, .int .i64 0, .int .i64 0, .slice none 0 0]) ?_ 4 _ rfl; (with_reducible repeat (first | refine blk_drewN ?_ _ | refine blk_drew ?_ | refine blk_alloc ?_ _)); refine blk_put (cs := #[.int .i64 1, .int .i64 a0, .int .i64 a1, .int .i64 0, .int .i64 0, .int .i64 0, .int .i64 0, .slice none 0 0]) ?_ 3 _ rfl; (with_reducible repeat (first | refine blk_drewN ?_ _ | refine blk_drew ?_ | refine blk_alloc ?_ _)); refine blk_put (cs := #[.int .i64 1, .int .i64 a0, .int .i64 0, .int .i64 0, .int .i64 0, .int .i64 0, .int .i64 0, .slice none 0 0]) ?_ 2 _ rfl; (with_reducible repeat (first | refine blk_drewN ?_ _ | refine blk_drew ?_ | refine blk_alloc ?_ _)); refine blk_put (cs := #[.int .i64 1, .int .i64 0, .int .i64 0, .int .i64 0, .int .i64 0, .int .i64 0, .int .i64 0, .slice none 0 0]) ?_ 1 _ rfl; (with_reducible repeat (first | refine blk_drewN ?_ _ | refine blk_drew ?_ | refine blk_alloc ?_ _)); refine blk_put (cs := #[.int .i64 0, .int .i64 0, .int .i64 0, .int .i64 0, .int .i64 0, .int .i64 0, .int .i64 0, .slice none 0 0]) ?_ 0 _ rfl; (with_reducible repeat (first | refine blk_drewN ?_ _ | refine blk_drew ?_ | refine blk_alloc ?_ _)); exact BK373.out) Try.underlying29 rfl (by kernel_rfl)) rfl ?_
  exact ⟨_, by first | rfl | (simp [errW_none, errW_some] <;> rfl) | (simp [*, errW_none, errW_some] <;> rfl), by (with_reducible repeat (first | apply Kd.R_alloc | apply Kd.R_drewN | apply Kd.R_drew)); exact Kd.R_mono (Kd.R_far (p := ⟨gb373, 7, none⟩) (Kd.R_far (p := ⟨gb373, 6, none⟩) (Kd.R_far (p := ⟨gb373, 5, none⟩) (Kd.R_far (p := ⟨gb373, 4, none⟩) (Kd.R_far (p := ⟨gb373, 3, none⟩) (Kd.R_far (p := ⟨gb373, 2, none⟩) (Kd.R_far (p := ⟨gb373, 1, none⟩) (Kd.R_far (p := ⟨gb373, 0, none⟩) (Kd.R_types HO376.out BK373.out (by decide)) (fun _ hk => hk.2) (.int .i64 1)) (fun _ hk => hk.2) (.int .i64 a0)) (fun _ hk => hk.2) (.int .i64 a1)) (fun _ hk => hk.2) (.int .i64 a2)) (fun _ hk => hk.2) (.int .i64 0)) (fun _ hk => hk.2) (.int .i64 a3)) (fun _ hk => hk.2) (.int .i64 0)) (fun _ hk => hk.2) (.slice Ao9 t374.length co9)) (fun _ hk => trivial), by repeat (first | (with_reducible first | exact HB.out | apply below_alloc | apply pw_below_drewN | apply below_drew1 | refine below_set ?_ GE373.out) | exact HB.out)⟩

end Go.Proofs.Ytfejidinfcmfjaa.P
-- Written by a program of this session (xprint.py) over the kit's print.py.
namespace Go.Proofs.Ytfejidinfcmfjaa.P
open Go.RowKit Go.Proofs.YtfejidinfcmfjaaW.PrintWords Go.Proofs.YtfejidinfcmfjaaW.PrintLast Go.Proofs.YtfejidinfcmfjaaW.PrintMore
attribute [local go_sem] max2_int min2_int max_two min_two max_three min_three max_four min_four   -- for this text's walks alone
set_option linter.unusedVariables false
set_option linter.unusedSimpArgs false

/-! ### msg_Cast: function 41 -/
def msg_Cast.f (a0 : Int) (a1 : Int) (a2_0 : Int) (a2_1 : Int) (a2_2 : Int) (l2_3 : List ByteArray) : Option (Int × Int × Int × Int × Int × Int × Int × List ByteArray) := (slices_Clone_string_string.f l2_3).bind fun t379 => (some (3, a2_0, a0, a1, a2_1, a2_2, 0, t379))
def msg_Cast.T1 : Bool × List (List Nat × List Nat) := (true, [([], []), ([0], [0]), ([], []), ([], []), ([], []), ([4], [4]), ([], []), ([6], [6]), ([], []), ([8], [8]), ([9], [9]), ([1, 2, 3, 5, 7, 10], [1, 2, 3, 5, 7, 10]), ([11, 10, 0, 1, 2, 3, 4, 5, 6, 7, 8, 9, 10, 11], [11])])
def msg_Cast.B1 : List Nat := [0, 1, 0, 0, 0, 16, 0, 64, 0, 256, 768, 2047, 4095]
theorem msg_Cast.tab1 : rtab .any (opsOf Try.f41 1) = msg_Cast.T1 := by kernel_rfl
theorem msg_Cast.bits1 : waitsOk msg_Cast.T1.2 msg_Cast.B1 = true := by kernel_rfl
set_option maxHeartbeats 8000000 in
set_option maxRecDepth 100000 in
theorem msg_Cast.calls (a0 : Int) (a1 : Int) (a2_0 : Int) (a2_1 : Int) (a2_2 : Int) (A2_3 : Option Addr) (c2_3 : Nat) (l2_3 : List ByteArray) (r1 : Int) (r2 : Int) (r3 : Int) (r4 : Int) (r5 : Int) (r6 : Int) (r7 : Int) (r8 : List ByteArray) (w : World) (hr2_3 : Kd.C Kd.string w A2_3 l2_3.length l2_3) (hc2_3 : l2_3.length ≤ c2_3) (h : msg_Cast.f a0 a1 a2_0 a2_1 a2_2 l2_3 = some (r1, r2, r3, r4, r5, r6, r7, r8)) :
    Calls Try.prog 41 #[.int .i64 a0, .int .i64 a1, .agg #[.int .i64 a2_0, .int .i64 a2_1, .int .i64 a2_2, .slice A2_3 l2_3.length c2_3]] w fun e w' => ∃ v7_ : Value, e = .returned (.agg #[.int .i64 r1, .int .i64 r2, .int .i64 r3, .int .i64 r4, .int .i64 r5, .int .i64 r6, .int .i64 r7, v7_]) ∧ Kd.R Kd.string 9 w' w.heap.size (fun _ => True) v7_ r8 ∧ Below w.heap.size w w' := by
  have hu54 := Try.underlying54
  have hu29 := Try.underlying29
  have HR2_3 := Aside0.mk hr2_3
  have HC2_3 := Aside0.mk hc2_3
  clear hr2_3 hc2_3
  have HB := Aside0.mk (Below.refl w.heap.size w)
  have H : ((slices_Clone_string_string.f l2_3).bind fun t379 => (some (3, a2_0, a0, a1, a2_1, a2_2, 0, t379))) = some (r1, r2, r3, r4, r5, r6, r7, r8) := h
  clear h
  replace H := Option.bind_eq_some_iff.mp H
  obtain ⟨t379, A40, H⟩ := H
  replace H : (some (3, a2_0, a0, a1, a2_1, a2_2, 0, t379)) = some (r1, r2, r3, r4, r5, r6, r7, r8) := H
  have A4 := Aside0.mk A40
  clear A40
  simp only [Option.some.injEq, Prod.mk.injEq] at H
  obtain ⟨rfl, rfl, rfl, rfl, rfl, rfl, rfl, rfl⟩ := H
  go_enter Try.func41, Try.ntmps41
  try go_wp2_with (first | ((with_reducible refine gate_dst (N := 5) rfl ?_); refine box_event ?hg (N := 5) ?hd (cs := #[.int .i64 a2_0, .int .i64 a2_1, .int .i64 a2_2, .slice A2_3 l2_3.length c2_3]) (t := 54) ?hr ?_; (case hd => rfl); (case hg => rfl); (case hr => first | (go_simp; done) | (go_simp; rfl)); intro gb377 hg w5 hbox hb; have n0_ := Aside0.mk (below_step (by repeat (first | (with_reducible first | exact HB.out | apply below_alloc | apply pw_below_drewN | apply below_drew1) | exact HB.out)) hb); have n1_ := Aside0.mk (hbox); have n2_ := Aside0.mk ((by rw [hg]; exact (below_size (by repeat (first | (with_reducible first | exact HB.out | apply below_alloc | apply pw_below_drewN | apply below_drew1) | exact HB.out))) : w.heap.size ≤ gb377)); have n3_ := Aside0.mk ((by rw [hg]; exact (below_size (by repeat (first | (with_reducible first | exact HB.out | apply below_alloc | apply pw_below_drewN | apply below_drew1) | exact HB.out))) : w.heap.size ≤ gb377)); clear HB; have HB := n0_; have BK377 := n1_; have GW377 := n2_; have GE377 := n3_; clear n0_ n1_ n2_ n3_; clear hb hbox hg) | ((with_reducible refine gate_dst (N := 6) rfl ?_); refine box_event ?hg (N := 6) ?hd (cs := #[.int .i64 0, .int .i64 0, .int .i64 0, .int .i64 0, .int .i64 0, .int .i64 0, .int .i64 0, .slice none 0 0]) (t := 29) ?hr ?_; (case hd => rfl); (case hg => rfl); (case hr => first | (go_simp; done) | (go_simp; rfl)); intro gb378 hg w6 hbox hb; have n0_ := Aside0.mk (blk_below (g := gb377) (o := .cells #[.int .i64 a2_0, .int .i64 a2_1, .int .i64 a2_2, .slice A2_3 l2_3.length c2_3] 54 (0, 0)) (by (with_reducible repeat (first | refine blk_drewN ?_ _ | refine blk_drew ?_ | refine blk_alloc ?_ _)); exact BK377.out) hb); have n1_ := Aside0.mk (below_step (by repeat (first | (with_reducible first | exact HB.out | apply below_alloc | apply pw_below_drewN | apply below_drew1 | refine below_set ?_ GE377.out) | exact HB.out)) hb); have n2_ := Aside0.mk (hbox); have n3_ := Aside0.mk ((by rw [hg]; exact (below_size (by repeat (first | (with_reducible first | exact HB.out | apply below_alloc | apply pw_below_drewN | apply below_drew1 | refine below_set ?_ GE377.out) | exact HB.out))) : w.heap.size ≤ gb378)); have n4_ := Aside0.mk ((by rw [hg]; exact (below_size (by repeat (first | (with_reducible first | exact HB.out | apply below_alloc | apply pw_below_drewN | apply below_drew1 | refine below_set ?_ GE377.out) | exact HB.out))) : w.heap.size ≤ gb378)); have n5_ := Aside0.mk ((by rw [hg]; exact Nat.ne_of_lt (blk_lt (g := gb377) (o := .cells #[.int .i64 a2_0, .int .i64 a2_1, .int .i64 a2_2, .slice A2_3 l2_3.length c2_3] 54 (0, 0)) (by (with_reducible repeat (first | refine blk_drewN ?_ _ | refine blk_drew ?_ | refine blk_alloc ?_ _)); exact BK377.out)) : gb377 ≠ gb378)); have n6_ := Aside0.mk ((by rw [hg]; exact Nat.ne_of_gt (blk_lt (g := gb377) (o := .cells #[.int .i64 a2_0, .int .i64 a2_1, .int .i64 a2_2, .slice A2_3 l2_3.length c2_3] 54 (0, 0)) (by (with_reducible repeat (first | refine blk_drewN ?_ _ | refine blk_drew ?_ | refine blk_alloc ?_ _)); exact BK377.out)) : gb378 ≠ gb377)); clear BK377; clear HB; have BK377 := n0_; have HB := n1_; have BK378 := n2_; have GW378 := n3_; have GE378 := n4_; have NB377_378 := n5_; have NB378_377 := n6_; clear n0_ n1_ n2_ n3_ n4_ n5_ n6_; clear hb hbox hg))
  have n0_ := Aside0.mk (blk_drew BK377.out)
  have n1_ := Aside0.mk (blk_drew BK378.out)
  have n2_ := Aside0.mk (below_drew1 HB.out)
  clear BK377
  clear BK378
  clear HB
  have BK377 := n0_
  have BK378 := n1_
  have HB := n2_
  clear n0_ n1_ n2_
  refine start_ (n := 13) (S := fun w' => w'.cell? ⟨gb377, 0, none⟩ = some (.int .i64 a2_0) ∧ w'.cell? ⟨gb377, 1, none⟩ = some (.int .i64 a2_1) ∧ w'.cell? ⟨gb377, 2, none⟩ = some (.int .i64 a2_2) ∧ w'.cell? ⟨gb377, 3, none⟩ = some (.slice A2_3 l2_3.length c2_3)) (ds := []) #[false, false, false, false, false, false, false, false, false, false, false, false, false] (by kernel_rfl) rfl rfl ⟨(blk_cell BK377.out 0).trans rfl, (blk_cell BK377.out 1).trans rfl, (blk_cell BK377.out 2).trans rfl, (blk_cell BK377.out 3).trans rfl⟩ (fun hHeld => ?_); refine with_tabW msg_Cast.tab1 msg_Cast.bits1 (fun HT_ HW_ => ?_)
  generalize w6.drew = w7 at BK377 BK378 HB hHeld ⊢
  refine pure_ (i := 0) (N := some 7) (v := ?_) (a' := ?_) #[true, false, false, false, false, false, false, false, false, false, false, false, false] rfl rfl (any_of HT_.out (by kernel_rfl)) (fun _ _ _ h => h) (Or.inl ⟨by rfl, ?_⟩) ?_ ?_
  rotate_left
  · intro w'
    go_simp
    with_reducible rfl
  rotate_left
  · simp only [Act.put, List.setIfInBounds_toArray, List.set_cons_zero, List.set_cons_succ, i64_w, i32_w]
    rfl
  refine pure_ (i := 2) (N := some 9) (v := ?_) (a' := ?_) #[true, false, true, false, false, false, false, false, false, false, false, false, false] rfl rfl (any_of HT_.out (by kernel_rfl)) (fun _ _ _ h => h) (Or.inl ⟨by rfl, ?_⟩) ?_ ?_
  rotate_left
  · intro w'
    go_simp
    with_reducible rfl
  rotate_left
  · simp only [Act.put, List.setIfInBounds_toArray, List.set_cons_zero, List.set_cons_succ, i64_w, i32_w]
    rfl
  refine pure_ (i := 3) (N := some 10) (v := ?_) (a' := ?_) #[true, false, true, true, false, false, false, false, false, false, false, false, false] rfl rfl (any_of HT_.out (by kernel_rfl)) (fun _ _ _ h => h) (Or.inl ⟨by rfl, ?_⟩) ?_ ?_
  rotate_left
  · intro w'
    go_simp
    with_reducible rfl
  rotate_left
  · simp only [Act.put, List.setIfInBounds_toArray, List.set_cons_zero, List.set_cons_succ, i64_w, i32_w]
    rfl
  refine pure_ (i := 4) (N := some 11) (v := ?_) (a' := ?_) #[true, false, true, true, true, false, false, false, false, false, false, false, false] rfl rfl (any_of HT_.out (by kernel_rfl)) (fun _ _ _ h => h) (Or.inl ⟨by rfl, ?_⟩) ?_ ?_
  rotate_left
  · intro w'
    go_simp
    with_reducible rfl
  rotate_left
  · simp only [Act.put, List.setIfInBounds_toArray, List.set_cons_zero, List.set_cons_succ, i64_w, i32_w]
    rfl
  refine pure_ (i := 6) (N := some 13) (v := ?_) (a' := ?_) #[true, false, true, true, true, false, true, false, false, false, false, false, false] rfl rfl (any_of HT_.out (by kernel_rfl)) (fun _ _ _ h => h) (Or.inl ⟨by rfl, ?_⟩) ?_ ?_
  rotate_left
  · intro w'
    go_simp
    with_reducible rfl
  rotate_left
  · simp only [Act.put, List.setIfInBounds_toArray, List.set_cons_zero, List.set_cons_succ, i64_w, i32_w]
    rfl
  refine pure_ (i := 8) (N := some 15) (v := ?_) (a' := ?_) #[true, false, true, true, true, false, true, false, true, false, false, false, false] rfl rfl (any_of HT_.out (by kernel_rfl)) (fun _ _ _ h => h) (Or.inl ⟨by rfl, ?_⟩) ?_ ?_
  rotate_left
  · intro w'
    go_simp
    with_reducible rfl
  rotate_left
  · simp only [Act.put, List.setIfInBounds_toArray, List.set_cons_zero, List.set_cons_succ, i64_w, i32_w]
    rfl
  refine take_ (i := 1) (N := some 8) (v := ?_) (a' := ?_) #[true, true, true, true, true, false, true, false, true, false, false, false, false] rfl rfl (take_ofW HT_.out HW_.out (by kernel_rfl)) (fun _ _ _ h => h) (Or.inl ⟨by rfl, ?_⟩) hHeld ?_ ?_
  rotate_left
  · rintro w' ⟨s0, s1, s2, s3⟩
    go_simp
    with_reducible rfl
  rotate_left
  · simp only [Act.put, List.setIfInBounds_toArray, List.set_cons_zero, List.set_cons_succ, i64_w, i32_w]
    rfl
  refine take_ (i := 5) (N := some 12) (v := ?_) (a' := ?_) #[true, true, true, true, true, true, true, false, true, false, false, false, false] rfl rfl (take_ofW HT_.out HW_.out (by kernel_rfl)) (fun _ _ _ h => h) (Or.inl ⟨by rfl, ?_⟩) hHeld ?_ ?_
  rotate_left
  · rintro w' ⟨s0, s1, s2, s3⟩
    go_simp
    with_reducible rfl
  rotate_left
  · simp only [Act.put, List.setIfInBounds_toArray, List.set_cons_zero, List.set_cons_succ, i64_w, i32_w]
    rfl
  refine take_ (i := 7) (N := some 14) (v := ?_) (a' := ?_) #[true, true, true, true, true, true, true, true, true, false, false, false, false] rfl rfl (take_ofW HT_.out HW_.out (by kernel_rfl)) (fun _ _ _ h => h) (Or.inl ⟨by rfl, ?_⟩) hHeld ?_ ?_
  rotate_left
  · rintro w' ⟨s0, s1, s2, s3⟩
    go_simp
    with_reducible rfl
  rotate_left
  · simp only [Act.put, List.setIfInBounds_toArray, List.set_cons_zero, List.set_cons_succ, i64_w, i32_w]
    rfl
  refine take_ (i := 9) (N := some 16) (v := ?_) (a' := ?_) #[true, true, true, true, true, true, true, true, true, true, false, false, false] rfl rfl (take_ofW HT_.out HW_.out (by kernel_rfl)) (fun _ _ _ h => h) (Or.inl ⟨by rfl, ?_⟩) hHeld ?_ ?_
  rotate_left
  · rintro w' ⟨s0, s1, s2, s3⟩
    go_simp
    with_reducible rfl
  rotate_left
  · simp only [Act.put, List.setIfInBounds_toArray, List.set_cons_zero, List.set_cons_succ, i64_w, i32_w]
    rfl
  refine one_ (i := 10) (N := some 17) #[true, true, true, true, true, true, true, true, true, true, true, false, false] rfl rfl (one_of HT_.out (by kernel_rfl)) (by decide) (fun K hK => ?_)
  refine goes_ Try.func74 (by kernel_rfl) rfl #[.slice A2_3 l2_3.length c2_3] (by rfl) rfl rfl (by (try simp only [List.map_toArray, List.map_cons, List.map_nil]); first | done | rfl | (simp only [List.length_drop, List.length_take]; rfl)) ?_
  with_reducible refine (slices_Clone_string_string.calls _ _ l2_3 t379 _ ?side1 ?side2 A4.out).mono ?_
  (case side1 => repeat (first | exact (Kd.C_below HR2_3.out HB.out) | (with_reducible refine Kd.C_alloc ?_ _) | (with_reducible refine Kd.C_drewN ?_ _) | (with_reducible refine Kd.C_drew ?_)))
  (case side2 => exact HC2_3.out)
  rintro e w8 ⟨v380, rfl, ho0, hb⟩
  refine ⟨_, rfl, ?_⟩
  have n0_ := Aside0.mk (Kd.R_lower ho0 (below_size (by repeat (first | (with_reducible first | exact HB.out | apply below_alloc | apply pw_below_drewN | apply below_drew1 | refine below_set ?_ GE377.out | refine below_set ?_ GE378.out) | exact HB.out))))
  have n1_ := Aside0.mk (blk_below (g := gb377) (o := .cells #[.int .i64 a2_0, .int .i64 a2_1, .int .i64 a2_2, .slice A2_3 l2_3.length c2_3] 54 (0, 0)) (by (with_reducible repeat (first | refine blk_drewN ?_ _ | refine blk_drew ?_ | refine blk_alloc ?_ _)); exact BK377.out) hb)
  have n2_ := Aside0.mk (blk_below (g := gb378) (o := .cells #[.int .i64 0, .int .i64 0, .int .i64 0, .int .i64 0, .int .i64 0, .int .i64 0, .int .i64 0, .slice none 0 0] 29 (0, 0)) (by (with_reducible repeat (first | refine blk_drewN ?_ _ | refine blk_drew ?_ | refine blk_alloc ?_ _)); exact BK378.out) hb)
  have n3_ := Aside0.mk (below_step (by repeat (first | (with_reducible first | exact HB.out | apply below_alloc | apply pw_below_drewN | apply below_drew1 | refine below_set ?_ GE377.out | refine below_set ?_ GE378.out) | exact HB.out)) hb)
  clear BK377
  clear BK378
  clear HB
  have HO381 := n0_
  have BK377 := n1_
  have BK378 := n2_
  have HB := n3_
  clear n0_ n1_ n2_ n3_
  (try clear hb)
  (try clear hb2)
  (try clear hk)
  (try clear hi)
  (try clear ho0)
  obtain ⟨Ao9, co9, eo9⟩ := Kd.R_slice HO381.out
  (first | subst eo9 | (injection eo9 with f1_ f2_ f3_; have f4_ := f1_.symm; have f5_ := f3_.symm; clear f1_ f2_ f3_; subst f4_; subst f5_))
  refine hK.out _ _ ⟨(blk_cell BK377.out 0).trans rfl, (blk_cell BK377.out 1).trans rfl, (blk_cell BK377.out 2).trans rfl, (blk_cell BK377.out 3).trans rfl⟩ (fun hHeld => ?_)
  clear hK K
  refine norm_ (a' := ?_) ?_ ?_
  rotate_left
  · show Act.put _ (some 17) _ = _
    simp only [Act.put, List.setIfInBounds_toArray, List.set_cons_zero, List.set_cons_succ, i64_w, i32_w]
    rfl
  refine pure_ (i := 11) (N := some 18) (v := ?_) (a' := ?_) #[true, true, true, true, true, true, true, true, true, true, true, true, false] rfl rfl (any_of HT_.out (by kernel_rfl)) (fun _ _ _ h => h) (Or.inl ⟨by rfl, ?_⟩) ?_ ?_
  rotate_left
  · intro w'
    go_simp
    with_reducible rfl
  rotate_left
  · simp only [Act.put, List.setIfInBounds_toArray, List.set_cons_zero, List.set_cons_succ, i64_w, i32_w]
    rfl
  refine one_ (i := 12) (N := none) #[true, true, true, true, true, true, true, true, true, true, true, true, true] rfl rfl (one_of HT_.out (by kernel_rfl)) (by decide) (fun K hK => ?_)
  have hs10 : w8.cell? ⟨gb378, 0, none⟩ = some (.int .i64 0) := (blk_cell BK378.out 0).trans rfl
  have hfs10 := blk_frozen BK378.out 0
  have hns10_0 := NB377_378.out
  have hms10_0 := NB378_377.out
  have hs11 : w8.cell? ⟨gb378, 1, none⟩ = some (.int .i64 0) := (blk_cell BK378.out 1).trans rfl
  have hfs11 := blk_frozen BK378.out 1
  have hns11_0 := NB377_378.out
  have hms11_0 := NB378_377.out
  have hs12 : w8.cell? ⟨gb378, 2, none⟩ = some (.int .i64 0) := (blk_cell BK378.out 2).trans rfl
  have hfs12 := blk_frozen BK378.out 2
  have hns12_0 := NB377_378.out
  have hms12_0 := NB378_377.out
  have hs13 : w8.cell? ⟨gb378, 3, none⟩ = some (.int .i64 0) := (blk_cell BK378.out 3).trans rfl
  have hfs13 := blk_frozen BK378.out 3
  have hns13_0 := NB377_378.out
  have hms13_0 := NB378_377.out
  have hs14 : w8.cell? ⟨gb378, 4, none⟩ = some (.int .i64 0) := (blk_cell BK378.out 4).trans rfl
  have hfs14 := blk_frozen BK378.out 4
  have hns14_0 := NB377_378.out
  have hms14_0 := NB378_377.out
  have hs15 : w8.cell? ⟨gb378, 5, none⟩ = some (.int .i64 0) := (blk_cell BK378.out 5).trans rfl
  have hfs15 := blk_frozen BK378.out 5
  have hns15_0 := NB377_378.out
  have hms15_0 := NB378_377.out
  have hs16 : w8.cell? ⟨gb378, 6, none⟩ = some (.int .i64 0) := (blk_cell BK378.out 6).trans rfl
  have hfs16 := blk_frozen BK378.out 6
  have hns16_0 := NB377_378.out
  have hms16_0 := NB378_377.out
  have hs17 : w8.cell? ⟨gb378, 7, none⟩ = some (.slice none 0 0) := (blk_cell BK378.out 7).trans rfl
  have hfs17 := blk_frozen BK378.out 7
  have hns17_0 := NB377_378.out
  have hms17_0 := NB378_377.out
  refine skip_ (w1 := ?_) (by rfl) rfl ?_ ?_
  rotate_left
  · go_simp
    rfl
  refine hK.out _ _ ⟨((cell_far (p := ⟨gb378, _, none⟩) NB377_378.out _).trans (((cell_far (p := ⟨gb378, _, none⟩) NB377_378.out _).trans (((cell_far (p := ⟨gb378, _, none⟩) NB377_378.out _).trans (((cell_far (p := ⟨gb378, _, none⟩) NB377_378.out _).trans (((cell_far (p := ⟨gb378, _, none⟩) NB377_378.out _).trans (((cell_far (p := ⟨gb378, _, none⟩) NB377_378.out _).trans (((cell_far (p := ⟨gb378, _, none⟩) NB377_378.out _).trans (((cell_far (p := ⟨gb378, _, none⟩) NB377_378.out _).trans (hHeld.1)))))))))))))))), ((cell_far (p := ⟨gb378, _, none⟩) NB377_378.out _).trans (((cell_far (p := ⟨gb378, _, none⟩) NB377_378.out _).trans (((cell_far (p := ⟨gb378, _, none⟩) NB377_378.out _).trans (((cell_far (p := ⟨gb378, _, none⟩) NB377_378.out _).trans (((cell_far (p := ⟨gb378, _, none⟩) NB377_378.out _).trans (((cell_far (p := ⟨gb378, _, none⟩) NB377_378.out _).trans (((cell_far (p := ⟨gb378, _, none⟩) NB377_378.out _).trans (((cell_far (p := ⟨gb378, _, none⟩) NB377_378.out _).trans (hHeld.2.1)))))))))))))))), ((cell_far (p := ⟨gb378, _, none⟩) NB377_378.out _).trans (((cell_far (p := ⟨gb378, _, none⟩) NB377_378.out _).trans (((cell_far (p := ⟨gb378, _, none⟩) NB377_378.out _).trans (((cell_far (p := ⟨gb378, _, none⟩) NB377_378.out _).trans (((cell_far (p := ⟨gb378, _, none⟩) NB377_378.out _).trans (((cell_far (p := ⟨gb378, _, none⟩) NB377_378.out _).trans (((cell_far (p := ⟨gb378, _, none⟩) NB377_378.out _).trans (((cell_far (p := ⟨gb378, _, none⟩) NB377_378.out _).trans (hHeld.2.2.1)))))))))))))))), ((cell_far (p := ⟨gb378, _, none⟩) NB377_378.out _).trans (((cell_far (p := ⟨gb378, _, none⟩) NB377_378.out _).trans (((cell_far (p := ⟨gb378, _, none⟩) NB377_378.out _).trans (((cell_far (p := ⟨gb378, _, none⟩) NB377_378.out _).trans (((cell_far (p := ⟨gb378, _, none⟩) NB377_378.out _).trans (((cell_far (p := ⟨gb378, _, none⟩) NB377_378.out _).trans (((cell_far (p := ⟨gb378, _, none⟩) NB377_378.out _).trans (((cell_far (p := ⟨gb378, _, none⟩) NB377_378.out _).trans (hHeld.2.2.2))))))))))))))))⟩ (fun hHeld => ?_)
  clear hK K
  refine done_ (done_of HT_.out (by kernel_rfl)) ?_
  try go_wp2
  refine bodyPost_ret (results_cell_row rfl _ _ gb378 29 #[.int .i64 3, .int .i64 a2_0, .int .i64 a0, .int .i64 a1, .int .i64 a2_1, .int .i64 a2_2, .int .i64 0, .slice Ao9 t379.length co9] (0, 0) _ rfl (by (with_reducible repeat (first | refine blk_drewN ?_ _ | refine blk_drew ?_ | refine blk_alloc ?_ _)); refine blk_put (cs := #[.int .i64 3, .int .i64 a2_0, .int .i64 a0, .int .i64 a1, .int .i64 a2_1, .int .i64 a2_2, .int .i64 0, .slice none 0 0]) ?_ 7 _ rfl; (with_reducible repeat (first | refine blk_drewN ?_ _ | refine blk_drew ?_ | refine blk_alloc ?_ _)); refine blk_put (cs := #[.int .i64 3, .int .i64 a2_0, .int .i64 a0, .int .i64 a1, .int .i64 a2_1, .int .i64 a2_2, .int .i64 0, .slice none 0 0]) ?_ 6 _ rfl; (with_reducible repeat (first | refine blk_drewN ?_ _ | refine blk_drew ?_ | refine blk_alloc ?_ _)); refine blk_put (cs := #[.int .i64 3, .int .i64 a2_0, .int .i64 a0, .int .i64 a1, .int .i64 a2_1, .int .i64 0, .int .i64 0, .slice none 0 0]) ?_ 5 _ rfl; (with_reducible repeat (first | refine blk_drewN ?_ _ | refine blk_drew ?_ | refine blk_alloc ?_ _)); refine blk_put (cs := #[.int .i64 3, .int .i64 a2_0, .int .i64 a0, .int .i64 a1, .int .i64 0, .int .i64 0, .int .i64 0, .slice none 0 0]) ?_ 4 _ rfl; (with_reducible repeat (first | refine blk_drewN ?_ _ | refine blk_drew ?_ | refine blk_alloc ?_ _)); refine blk_put (cs := #[.int .i64 3, .int .i64 a2_0, .int .i64 a0, .int .i64 0, .int .i64 0, .int .i64 0, .int .i64 0, .slice none 0 0]) ?_ 3 _ rfl; (with_reducible repeat (first | refine blk_drewN ?_ _ | refine blk_drew ?_ | refine blk_alloc ?_ _)); refine blk_put (cs := #[.int .i64 3, .int .i64 a2_0, .int .i64 0, .int .i64 0, .int .i64 0, .int .i64 0, .int .i64 0, .slice none 0 0]) ?_ 2 _ rfl; (with_reducible repeat (first | refine blk_drewN ?_ _ | refine blk_drew ?_ | refine blk_alloc ?_ _)); refine blk_put (cs := #[.int .i64 3, .int .i64 0, .int .i64 0, .int .i64 0, .int .i64 0, .int .i64 0, .int .i64 0, .slice none 0 0]) ?_ 1 _ rfl; (with_reducible repeat (first | refine blk_drewN ?_ _ | refine blk_drew ?_ | refine blk_alloc ?_ _)); refine blk_put (cs := #[.int .i64 0, .int .i64 0, .int .i64 0, .int .i64 0, .int .i64 0, .int .i64 0, .int .i64 0, .slice none 0 0]) ?_ 0 _ rfl; (with_reducible repeat (first | refine blk_drewN ?_ _ | refine blk_drew ?_ | refine blk_alloc ?_ _)); exact BK378.out) Try.underlying29 rfl (by kernel_rfl)) rfl ?_
  exact ⟨_, by first | rfl | (simp [errW_none, errW_some] <;> rfl) | (simp [*, errW_none, errW_some] <;> rfl), by (with_reducible repeat (first | apply Kd.R_alloc | apply Kd.R_drewN | apply Kd.R_drew)); exact Kd.R_mono (Kd.R_far (p := ⟨gb378, 7, none⟩) (Kd.R_far (p := ⟨gb378, 6, none⟩) (Kd.R_far (p := ⟨gb378, 5, none⟩) (Kd.R_far (p := ⟨gb378, 4, none⟩) (Kd.R_far (p := ⟨gb378, 3, none⟩) (Kd.R_far (p := ⟨gb378, 2, none⟩) (Kd.R_far (p := ⟨gb378, 1, none⟩) (Kd.R_far (p := ⟨gb378, 0, none⟩) (Kd.R_types HO381.out BK378.out (by decide)) (fun _ hk => hk.2) (.int .i64 3)) (fun _ hk => hk.2) (.int .i64 a2_0)) (fun _ hk => hk.2) (.int .i64 a0)) (fun _ hk => hk.2) (.int .i64 a1)) (fun _ hk => hk.2) (.int .i64 a2_1)) (fun _ hk => hk.2) (.int .i64 a2_2)) (fun _ hk => hk.2) (.int .i64 0)) (fun _ hk => hk.2) (.slice Ao9 t379.length co9)) (fun _ hk => trivial), by repeat (first | (with_reducible first | exact HB.out | apply below_alloc | apply pw_below_drewN | apply below_drew1 | refine below_set ?_ GE377.out | refine below_set ?_ GE378.out) | exact HB.out)⟩

end Go.Proofs.Ytfejidinfcmfjaa.P
