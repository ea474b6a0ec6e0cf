/-
  Texts that the claims of this chapter share, joined.
-/
import Derived.Test.YtfejidinfcmfjaaPx0
import Derived.Test.YtfejidinfcmfjaaCn5eb
import Derived.Test.YtfejidinfcmfjaaCn5ec
set_option linter.unusedVariables false
set_option linter.unusedSimpArgs false
/-
  sexton/sextonlaw25.carried answers true. The print's walk, with the branches that would answer false closed.
-/
-- Written by a program of this session (xprint.py) over the kit's print.py.
namespace Go.Proofs.Ytfejidinfcmfjaa.P
open Go.RowKit Go.Proofs.YtfejidinfcmfjaaW.PrintWords Go.Proofs.YtfejidinfcmfjaaW.PrintLast Go.Proofs.YtfejidinfcmfjaaW.PrintMore
attribute [local go_sem] max2_int min2_int max_two min_two max_three min_three max_four min_four   -- for this text's walks alone
set_option linter.unusedVariables false
set_option linter.unusedSimpArgs false

/-! ### sextonlaw25_carriedP: function 29 -/
def sextonlaw25_carriedP.f (k : Nat)  : Option (Bool) := (some (([(⟨0, 0, 1, 0, 0, 0, 1, ([] : List ByteArray)⟩ : S29), (⟨0, 0, 0, 0, 0, 0, 2, ([] : List ByteArray)⟩ : S29), (⟨0, 0, 1, 0, 0, 0, 3, ([] : List ByteArray)⟩ : S29)] : List (S29)) : List (S29))).bind fun y112 => ((net_Split.f y112 2).bind fun t115 => ((net_Take.f y112 1).bind fun bt118 => ((net_Copy.f y112 0).bind fun bt133 => ((net_Put.f y112 y112).bind fun bt137 => (if 1 < (y112.length : Int) then (if 0 < (y112.length : Int) then (if 2 < (y112.length : Int) then ((sextonref25_Same.f k t115 (([(([(⟨(rd_T29 y112 1).f0, (rd_T29 y112 1).f1, (rd_T29 y112 1).f2, (rd_T29 y112 1).f3, (rd_T29 y112 1).f4, (rd_T29 y112 1).f5, (rd_T29 y112 1).f6, (rd_T29 y112 1).f7⟩ : S29)] : List (S29))), (([(⟨(rd_T29 y112 0).f0, (rd_T29 y112 0).f1, (rd_T29 y112 0).f2, (rd_T29 y112 0).f3, (rd_T29 y112 0).f4, (rd_T29 y112 0).f5, (rd_T29 y112 0).f6, (rd_T29 y112 0).f7⟩ : S29), (⟨(rd_T29 y112 2).f0, (rd_T29 y112 2).f1, (rd_T29 y112 2).f2, (rd_T29 y112 2).f3, (rd_T29 y112 2).f4, (rd_T29 y112 2).f5, (rd_T29 y112 2).f6, (rd_T29 y112 2).f7⟩ : S29)] : List (S29)))] : List (List (S29))))).bind fun t153 => (if t153 = true then (if bt118.2.2.2.2.2.2.2.2.2 = true then (if bt118.2.2.2.2.2.2.1 = 2 then (if (bt118.2.2.2.2.2.2.2.2.1.length : Int) = 2 then (if bt133.2 = true then (if (bt133.1.length : Int) = 4 then (if (bt137.1.length : Int) = 6 then (if bt137.2 = 0 then ((net_Cut.f y112 0 1).bind fun t154 => (some ((t154.length : Int) == 1))) else (some false)) else (some false)) else (some false)) else (some false)) else (some false)) else (some false)) else (some false)) else (some false))) else (none)) else (none)) else (none))))))
def sextonlaw25_carriedP.T6 : Bool × List (List Nat × List Nat) := (true, [([], []), ([], []), ([1], [1]), ([2], [2]), ([3], [3]), ([], []), ([5], [5]), ([6], [6]), ([], []), ([8], [8]), ([9], [9]), ([7, 10], [7, 10]), ([4, 11], [4, 11]), ([0, 12], [0, 12]), ([13, 13], [13]), ([14], [14]), ([14, 15], [14, 15]), ([16, 14], [16]), ([17], [17]), ([18, 17], [17, 18]), ([19, 17], [17, 19]), ([17, 20], [17, 20]), ([21, 17], [21]), ([22], [22]), ([23, 22], [22, 23]), ([24, 22], [22, 24]), ([22, 25], [22, 25]), ([26, 22], [26]), ([27], [27]), ([27, 28], [27, 28]), ([29, 27], [29]), ([30], [30]), ([31, 30], [30, 31]), ([32, 30], [30, 32]), ([30, 33], [30, 33]), ([34, 30], [34]), ([35], [35]), ([36, 35], [35, 36]), ([37, 35], [35, 37]), ([35, 38], [35, 38]), ([39, 35], [39]), ([40], [40]), ([41, 40], [40, 41]), ([40, 42], [40, 42]), ([43, 40], [43]), ([44], [44]), ([45, 44, 44], [44, 45]), ([46, 44], [44, 46]), ([47, 44], [44, 47]), ([44, 48], [44, 48]), ([49, 46, 0, 1, 2, 3, 4, 5, 6, 7, 8, 9, 10, 11, 12, 13, 14, 15, 16, 17, 18, 19, 20, 21, 22, 23, 24, 25, 26, 27, 28, 29, 30, 31, 32, 33, 34, 35, 36, 37, 38, 39, 40, 41, 42, 43, 44, 45, 46, 47, 48, 49], [49])])
def sextonlaw25_carriedP.B6 : List Nat := [0, 0, 2, 6, 14, 0, 32, 96, 0, 256, 768, 2016, 4094, 8191, 16383, 32767, 65535, 131071, 262143, 524287, 1048575, 2097151, 4194303, 8388607, 16777215, 33554431, 67108863, 134217727, 268435455, 536870911, 1073741823, 2147483647, 4294967295, 8589934591, 17179869183, 34359738367, 68719476735, 137438953471, 274877906943, 549755813887, 1099511627775, 2199023255551, 4398046511103, 8796093022207, 17592186044415, 35184372088831, 70368744177663, 140737488355327, 281474976710655, 562949953421311, 1125899906842623]
theorem sextonlaw25_carriedP.tab6 : rtab .any (opsOf Try.f29 6) = sextonlaw25_carriedP.T6 := by kernel_rfl
theorem sextonlaw25_carriedP.bits6 : waitsOk sextonlaw25_carriedP.T6.2 sextonlaw25_carriedP.B6 = true := by kernel_rfl
set_option maxHeartbeats 8000000 in
set_option maxRecDepth 100000 in
theorem sextonlaw25_carriedP.calls (k : Nat)  (r : Bool) (hrt : r = true := by rfl) (w : World) (h : sextonlaw25_carriedP.f k  = some r) :
    Calls Try.prog 29 #[] w fun e w' => e = .returned (.bool r) ∧ Below w.heap.size w w' := by
  have HRT := Aside0.mk hrt
  have hu29 := Try.underlying29
  have HB := Aside0.mk (Below.refl w.heap.size w)
  have H : ((some (([(⟨0, 0, 1, 0, 0, 0, 1, ([] : List ByteArray)⟩ : S29), (⟨0, 0, 0, 0, 0, 0, 2, ([] : List ByteArray)⟩ : S29), (⟨0, 0, 1, 0, 0, 0, 3, ([] : List ByteArray)⟩ : S29)] : List (S29)) : List (S29))).bind fun y112 => ((net_Split.f y112 2).bind fun t115 => ((net_Take.f y112 1).bind fun bt118 => ((net_Copy.f y112 0).bind fun bt133 => ((net_Put.f y112 y112).bind fun bt137 => (if 1 < (y112.length : Int) then (if 0 < (y112.length : Int) then (if 2 < (y112.length : Int) then ((sextonref25_Same.f k t115 (([(([(⟨(rd_T29 y112 1).f0, (rd_T29 y112 1).f1, (rd_T29 y112 1).f2, (rd_T29 y112 1).f3, (rd_T29 y112 1).f4, (rd_T29 y112 1).f5, (rd_T29 y112 1).f6, (rd_T29 y112 1).f7⟩ : S29)] : List (S29))), (([(⟨(rd_T29 y112 0).f0, (rd_T29 y112 0).f1, (rd_T29 y112 0).f2, (rd_T29 y112 0).f3, (rd_T29 y112 0).f4, (rd_T29 y112 0).f5, (rd_T29 y112 0).f6, (rd_T29 y112 0).f7⟩ : S29), (⟨(rd_T29 y112 2).f0, (rd_T29 y112 2).f1, (rd_T29 y112 2).f2, (rd_T29 y112 2).f3, (rd_T29 y112 2).f4, (rd_T29 y112 2).f5, (rd_T29 y112 2).f6, (rd_T29 y112 2).f7⟩ : S29)] : List (S29)))] : List (List (S29))))).bind fun t153 => (if t153 = true then (if bt118.2.2.2.2.2.2.2.2.2 = true then (if bt118.2.2.2.2.2.2.1 = 2 then (if (bt118.2.2.2.2.2.2.2.2.1.length : Int) = 2 then (if bt133.2 = true then (if (bt133.1.length : Int) = 4 then (if (bt137.1.length : Int) = 6 then (if bt137.2 = 0 then ((net_Cut.f y112 0 1).bind fun t154 => (some ((t154.length : Int) == 1))) else (some false)) else (some false)) else (some false)) else (some false)) else (some false)) else (some false)) else (some false)) else (some false))) else (none)) else (none)) else (none))))))) = some r := h
  clear h
  obtain ⟨y112, hy112⟩ : ∃ y_ : List (S29), y_ = (([(⟨0, 0, 1, 0, 0, 0, 1, ([] : List ByteArray)⟩ : S29), (⟨0, 0, 0, 0, 0, 0, 2, ([] : List ByteArray)⟩ : S29), (⟨0, 0, 1, 0, 0, 0, 3, ([] : List ByteArray)⟩ : S29)] : List (S29))) := ⟨_, rfl⟩
  replace H : ((net_Split.f y112 2).bind fun t115 => ((net_Take.f y112 1).bind fun bt118 => ((net_Copy.f y112 0).bind fun bt133 => ((net_Put.f y112 y112).bind fun bt137 => (if 1 < (y112.length : Int) then (if 0 < (y112.length : Int) then (if 2 < (y112.length : Int) then ((sextonref25_Same.f k t115 (([(([(⟨(rd_T29 y112 1).f0, (rd_T29 y112 1).f1, (rd_T29 y112 1).f2, (rd_T29 y112 1).f3, (rd_T29 y112 1).f4, (rd_T29 y112 1).f5, (rd_T29 y112 1).f6, (rd_T29 y112 1).f7⟩ : S29)] : List (S29))), (([(⟨(rd_T29 y112 0).f0, (rd_T29 y112 0).f1, (rd_T29 y112 0).f2, (rd_T29 y112 0).f3, (rd_T29 y112 0).f4, (rd_T29 y112 0).f5, (rd_T29 y112 0).f6, (rd_T29 y112 0).f7⟩ : S29), (⟨(rd_T29 y112 2).f0, (rd_T29 y112 2).f1, (rd_T29 y112 2).f2, (rd_T29 y112 2).f3, (rd_T29 y112 2).f4, (rd_T29 y112 2).f5, (rd_T29 y112 2).f6, (rd_T29 y112 2).f7⟩ : S29)] : List (S29)))] : List (List (S29))))).bind fun t153 => (if t153 = true then (if bt118.2.2.2.2.2.2.2.2.2 = true then (if bt118.2.2.2.2.2.2.1 = 2 then (if (bt118.2.2.2.2.2.2.2.2.1.length : Int) = 2 then (if bt133.2 = true then (if (bt133.1.length : Int) = 4 then (if (bt137.1.length : Int) = 6 then (if bt137.2 = 0 then ((net_Cut.f y112 0 1).bind fun t154 => (some ((t154.length : Int) == 1))) else (some false)) else (some false)) else (some false)) else (some false)) else (some false)) else (some false)) else (some false)) else (some false))) else (none)) else (none)) else (none)))))) = some r := by first | (rw [hy112]; with_reducible exact H) | (have H2_ := (Option.bind_some _ _).symm.trans H; rw [hy112]; with_reducible exact H2_) | (have H2_ := (Option.bind_some _ _).symm.trans H; with_reducible exact H2_) | with_reducible exact H | (rw [hy112]; exact H) | exact H
  have Ny112 := Aside0.mk hy112
  clear hy112
  replace H := Option.bind_eq_some_iff.mp H
  obtain ⟨t115, A10, H⟩ := H
  replace H : ((net_Take.f y112 1).bind fun bt118 => ((net_Copy.f y112 0).bind fun bt133 => ((net_Put.f y112 y112).bind fun bt137 => (if 1 < (y112.length : Int) then (if 0 < (y112.length : Int) then (if 2 < (y112.length : Int) then ((sextonref25_Same.f k t115 (([(([(⟨(rd_T29 y112 1).f0, (rd_T29 y112 1).f1, (rd_T29 y112 1).f2, (rd_T29 y112 1).f3, (rd_T29 y112 1).f4, (rd_T29 y112 1).f5, (rd_T29 y112 1).f6, (rd_T29 y112 1).f7⟩ : S29)] : List (S29))), (([(⟨(rd_T29 y112 0).f0, (rd_T29 y112 0).f1, (rd_T29 y112 0).f2, (rd_T29 y112 0).f3, (rd_T29 y112 0).f4, (rd_T29 y112 0).f5, (rd_T29 y112 0).f6, (rd_T29 y112 0).f7⟩ : S29), (⟨(rd_T29 y112 2).f0, (rd_T29 y112 2).f1, (rd_T29 y112 2).f2, (rd_T29 y112 2).f3, (rd_T29 y112 2).f4, (rd_T29 y112 2).f5, (rd_T29 y112 2).f6, (rd_T29 y112 2).f7⟩ : S29)] : List (S29)))] : List (List (S29))))).bind fun t153 => (if t153 = true then (if bt118.2.2.2.2.2.2.2.2.2 = true then (if bt118.2.2.2.2.2.2.1 = 2 then (if (bt118.2.2.2.2.2.2.2.2.1.length : Int) = 2 then (if bt133.2 = true then (if (bt133.1.length : Int) = 4 then (if (bt137.1.length : Int) = 6 then (if bt137.2 = 0 then ((net_Cut.f y112 0 1).bind fun t154 => (some ((t154.length : Int) == 1))) else (some false)) else (some false)) else (some false)) else (some false)) else (some false)) else (some false)) else (some false)) else (some false))) else (none)) else (none)) else (none))))) = some r := H
  have A1 := Aside0.mk A10
  clear A10
  replace H := Option.bind_eq_some_iff.mp H
  obtain ⟨⟨t118, t119, t120, t121, t122, t123, t124, t125, t128, t131⟩, A20, H⟩ := H
  replace H : ((net_Copy.f y112 0).bind fun bt133 => ((net_Put.f y112 y112).bind fun bt137 => (if 1 < (y112.length : Int) then (if 0 < (y112.length : Int) then (if 2 < (y112.length : Int) then ((sextonref25_Same.f k t115 (([(([(⟨(rd_T29 y112 1).f0, (rd_T29 y112 1).f1, (rd_T29 y112 1).f2, (rd_T29 y112 1).f3, (rd_T29 y112 1).f4, (rd_T29 y112 1).f5, (rd_T29 y112 1).f6, (rd_T29 y112 1).f7⟩ : S29)] : List (S29))), (([(⟨(rd_T29 y112 0).f0, (rd_T29 y112 0).f1, (rd_T29 y112 0).f2, (rd_T29 y112 0).f3, (rd_T29 y112 0).f4, (rd_T29 y112 0).f5, (rd_T29 y112 0).f6, (rd_T29 y112 0).f7⟩ : S29), (⟨(rd_T29 y112 2).f0, (rd_T29 y112 2).f1, (rd_T29 y112 2).f2, (rd_T29 y112 2).f3, (rd_T29 y112 2).f4, (rd_T29 y112 2).f5, (rd_T29 y112 2).f6, (rd_T29 y112 2).f7⟩ : S29)] : List (S29)))] : List (List (S29))))).bind fun t153 => (if t153 = true then (if t131 = true then (if t124 = 2 then (if (t128.length : Int) = 2 then (if bt133.2 = true then (if (bt133.1.length : Int) = 4 then (if (bt137.1.length : Int) = 6 then (if bt137.2 = 0 then ((net_Cut.f y112 0 1).bind fun t154 => (some ((t154.length : Int) == 1))) else (some false)) else (some false)) else (some false)) else (some false)) else (some false)) else (some false)) else (some false)) else (some false))) else (none)) else (none)) else (none)))) = some r := H
  have A2 := Aside0.mk A20
  clear A20
  replace H := Option.bind_eq_some_iff.mp H
  obtain ⟨⟨t133, t134⟩, A30, H⟩ := H
  replace H : ((net_Put.f y112 y112).bind fun bt137 => (if 1 < (y112.length : Int) then (if 0 < (y112.length : Int) then (if 2 < (y112.length : Int) then ((sextonref25_Same.f k t115 (([(([(⟨(rd_T29 y112 1).f0, (rd_T29 y112 1).f1, (rd_T29 y112 1).f2, (rd_T29 y112 1).f3, (rd_T29 y112 1).f4, (rd_T29 y112 1).f5, (rd_T29 y112 1).f6, (rd_T29 y112 1).f7⟩ : S29)] : List (S29))), (([(⟨(rd_T29 y112 0).f0, (rd_T29 y112 0).f1, (rd_T29 y112 0).f2, (rd_T29 y112 0).f3, (rd_T29 y112 0).f4, (rd_T29 y112 0).f5, (rd_T29 y112 0).f6, (rd_T29 y112 0).f7⟩ : S29), (⟨(rd_T29 y112 2).f0, (rd_T29 y112 2).f1, (rd_T29 y112 2).f2, (rd_T29 y112 2).f3, (rd_T29 y112 2).f4, (rd_T29 y112 2).f5, (rd_T29 y112 2).f6, (rd_T29 y112 2).f7⟩ : S29)] : List (S29)))] : List (List (S29))))).bind fun t153 => (if t153 = true then (if t131 = true then (if t124 = 2 then (if (t128.length : Int) = 2 then (if t134 = true then (if (t133.length : Int) = 4 then (if (bt137.1.length : Int) = 6 then (if bt137.2 = 0 then ((net_Cut.f y112 0 1).bind fun t154 => (some ((t154.length : Int) == 1))) else (some false)) else (some false)) else (some false)) else (some false)) else (some false)) else (some false)) else (some false)) else (some false))) else (none)) else (none)) else (none))) = some r := H
  have A3 := Aside0.mk A30
  clear A30
  replace H := Option.bind_eq_some_iff.mp H
  obtain ⟨⟨t137, t138⟩, A40, H⟩ := H
  replace H : (if 1 < (y112.length : Int) then (if 0 < (y112.length : Int) then (if 2 < (y112.length : Int) then ((sextonref25_Same.f k t115 (([(([(⟨(rd_T29 y112 1).f0, (rd_T29 y112 1).f1, (rd_T29 y112 1).f2, (rd_T29 y112 1).f3, (rd_T29 y112 1).f4, (rd_T29 y112 1).f5, (rd_T29 y112 1).f6, (rd_T29 y112 1).f7⟩ : S29)] : List (S29))), (([(⟨(rd_T29 y112 0).f0, (rd_T29 y112 0).f1, (rd_T29 y112 0).f2, (rd_T29 y112 0).f3, (rd_T29 y112 0).f4, (rd_T29 y112 0).f5, (rd_T29 y112 0).f6, (rd_T29 y112 0).f7⟩ : S29), (⟨(rd_T29 y112 2).f0, (rd_T29 y112 2).f1, (rd_T29 y112 2).f2, (rd_T29 y112 2).f3, (rd_T29 y112 2).f4, (rd_T29 y112 2).f5, (rd_T29 y112 2).f6, (rd_T29 y112 2).f7⟩ : S29)] : List (S29)))] : List (List (S29))))).bind fun t153 => (if t153 = true then (if t131 = true then (if t124 = 2 then (if (t128.length : Int) = 2 then (if t134 = true then (if (t133.length : Int) = 4 then (if (t137.length : Int) = 6 then (if t138 = 0 then ((net_Cut.f y112 0 1).bind fun t154 => (some ((t154.length : Int) == 1))) else (some false)) else (some false)) else (some false)) else (some false)) else (some false)) else (some false)) else (some false)) else (some false))) else (none)) else (none)) else (none)) = some r := H
  have A4 := Aside0.mk A40
  clear A40
  by_cases c5 : 1 < (y112.length : Int)
  · rw [if_pos c5] at H
    have c5b0 : decide (1 < (y112.length : Int)) = true := decide_eq_true c5
    have c5b1 : decide (1 < y112.length) = true := decide_eq_true (by omega)
    clear c5
    obtain ⟨y142, hy142⟩ : ∃ y_ : List (S29), y_ = (([(⟨(rd_T29 y112 1).f0, (rd_T29 y112 1).f1, (rd_T29 y112 1).f2, (rd_T29 y112 1).f3, (rd_T29 y112 1).f4, (rd_T29 y112 1).f5, (rd_T29 y112 1).f6, (rd_T29 y112 1).f7⟩ : S29)] : List (S29))) := ⟨_, rfl⟩
    replace H : (if 0 < (y112.length : Int) then (if 2 < (y112.length : Int) then ((sextonref25_Same.f k t115 (([y142, (([(⟨(rd_T29 y112 0).f0, (rd_T29 y112 0).f1, (rd_T29 y112 0).f2, (rd_T29 y112 0).f3, (rd_T29 y112 0).f4, (rd_T29 y112 0).f5, (rd_T29 y112 0).f6, (rd_T29 y112 0).f7⟩ : S29), (⟨(rd_T29 y112 2).f0, (rd_T29 y112 2).f1, (rd_T29 y112 2).f2, (rd_T29 y112 2).f3, (rd_T29 y112 2).f4, (rd_T29 y112 2).f5, (rd_T29 y112 2).f6, (rd_T29 y112 2).f7⟩ : S29)] : List (S29)))] : List (List (S29))))).bind fun t153 => (if t153 = true then (if t131 = true then (if t124 = 2 then (if (t128.length : Int) = 2 then (if t134 = true then (if (t133.length : Int) = 4 then (if (t137.length : Int) = 6 then (if t138 = 0 then ((net_Cut.f y112 0 1).bind fun t154 => (some ((t154.length : Int) == 1))) else (some false)) else (some false)) else (some false)) else (some false)) else (some false)) else (some false)) else (some false)) else (some false))) else (none)) else (none)) = some r := by first | (rw [hy142]; with_reducible exact H) | (have H2_ := (Option.bind_some _ _).symm.trans H; rw [hy142]; with_reducible exact H2_) | (have H2_ := (Option.bind_some _ _).symm.trans H; with_reducible exact H2_) | with_reducible exact H | (rw [hy142]; exact H) | exact H
    have Ny142 := Aside0.mk hy142
    clear hy142
    by_cases c6 : 0 < (y112.length : Int)
    · rw [if_pos c6] at H
      have c6b0 : decide (0 < (y112.length : Int)) = true := decide_eq_true c6
      have c6b1 : decide (0 < y112.length) = true := decide_eq_true (by omega)
      clear c6
      by_cases c7 : 2 < (y112.length : Int)
      · rw [if_pos c7] at H
        have c7b0 : decide (2 < (y112.length : Int)) = true := decide_eq_true c7
        have c7b1 : decide (2 < y112.length) = true := decide_eq_true (by omega)
        clear c7
        obtain ⟨y147, hy147⟩ : ∃ y_ : List (S29), y_ = (([(⟨(rd_T29 y112 0).f0, (rd_T29 y112 0).f1, (rd_T29 y112 0).f2, (rd_T29 y112 0).f3, (rd_T29 y112 0).f4, (rd_T29 y112 0).f5, (rd_T29 y112 0).f6, (rd_T29 y112 0).f7⟩ : S29), (⟨(rd_T29 y112 2).f0, (rd_T29 y112 2).f1, (rd_T29 y112 2).f2, (rd_T29 y112 2).f3, (rd_T29 y112 2).f4, (rd_T29 y112 2).f5, (rd_T29 y112 2).f6, (rd_T29 y112 2).f7⟩ : S29)] : List (S29))) := ⟨_, rfl⟩
        replace H : ((sextonref25_Same.f k t115 (([y142, y147] : List (List (S29))))).bind fun t153 => (if t153 = true then (if t131 = true then (if t124 = 2 then (if (t128.length : Int) = 2 then (if t134 = true then (if (t133.length : Int) = 4 then (if (t137.length : Int) = 6 then (if t138 = 0 then ((net_Cut.f y112 0 1).bind fun t154 => (some ((t154.length : Int) == 1))) else (some false)) else (some false)) else (some false)) else (some false)) else (some false)) else (some false)) else (some false)) else (some false))) = some r := by first | (rw [hy147]; with_reducible exact H) | (have H2_ := (Option.bind_some _ _).symm.trans H; rw [hy147]; with_reducible exact H2_) | (have H2_ := (Option.bind_some _ _).symm.trans H; with_reducible exact H2_) | with_reducible exact H | (rw [hy147]; exact H) | exact H
        have Ny147 := Aside0.mk hy147
        clear hy147
        obtain ⟨y150, hy150⟩ : ∃ y_ : List (List (S29)), y_ = (([y142, y147] : List (List (S29)))) := ⟨_, rfl⟩
        replace H : ((sextonref25_Same.f k t115 y150).bind fun t153 => (if t153 = true then (if t131 = true then (if t124 = 2 then (if (t128.length : Int) = 2 then (if t134 = true then (if (t133.length : Int) = 4 then (if (t137.length : Int) = 6 then (if t138 = 0 then ((net_Cut.f y112 0 1).bind fun t154 => (some ((t154.length : Int) == 1))) else (some false)) else (some false)) else (some false)) else (some false)) else (some false)) else (some false)) else (some false)) else (some false))) = some r := by first | (rw [hy150]; with_reducible exact H) | (have H2_ := (Option.bind_some _ _).symm.trans H; rw [hy150]; with_reducible exact H2_) | (have H2_ := (Option.bind_some _ _).symm.trans H; with_reducible exact H2_) | with_reducible exact H | (rw [hy150]; exact H) | exact H
        have Ny150 := Aside0.mk hy150
        clear hy150
        replace H := Option.bind_eq_some_iff.mp H
        obtain ⟨t153, A80, H⟩ := H
        replace H : (if t153 = true then (if t131 = true then (if t124 = 2 then (if (t128.length : Int) = 2 then (if t134 = true then (if (t133.length : Int) = 4 then (if (t137.length : Int) = 6 then (if t138 = 0 then ((net_Cut.f y112 0 1).bind fun t154 => (some ((t154.length : Int) == 1))) else (some false)) else (some false)) else (some false)) else (some false)) else (some false)) else (some false)) else (some false)) else (some false)) = some r := H
        have A8 := Aside0.mk A80
        clear A80
        by_cases c9 : t153 = true
        · subst c9
          have H1 : (if t131 = true then (if t124 = 2 then (if (t128.length : Int) = 2 then (if t134 = true then (if (t133.length : Int) = 4 then (if (t137.length : Int) = 6 then (if t138 = 0 then ((net_Cut.f y112 0 1).bind fun t154 => (some ((t154.length : Int) == 1))) else (some false)) else (some false)) else (some false)) else (some false)) else (some false)) else (some false)) else (some false)) = some r := by rw [if_pos rfl] at H; exact H
          clear H
          have H := H1
          clear H1
          by_cases c10 : t131 = true
          · subst c10
            have H1 : (if t124 = 2 then (if (t128.length : Int) = 2 then (if t134 = true then (if (t133.length : Int) = 4 then (if (t137.length : Int) = 6 then (if t138 = 0 then ((net_Cut.f y112 0 1).bind fun t154 => (some ((t154.length : Int) == 1))) else (some false)) else (some false)) else (some false)) else (some false)) else (some false)) else (some false)) = some r := by rw [if_pos rfl] at H; exact H
            clear H
            have H := H1
            clear H1
            by_cases c11 : t124 = 2
            · rw [if_pos c11] at H
              have c11b0 : (t124 == 2) = true := beq_iff_eq.mpr c11
              have c11b1 : (t124 != 2) = false := bne_eq_false_iff_eq.mpr c11
              clear c11
              by_cases c12 : (t128.length : Int) = 2
              · rw [if_pos c12] at H
                have c12b0 : ((t128.length : Int) == 2) = true := beq_iff_eq.mpr c12
                have c12b1 : ((t128.length : Int) != 2) = false := bne_eq_false_iff_eq.mpr c12
                clear c12
                by_cases c13 : t134 = true
                · subst c13
                  have H1 : (if (t133.length : Int) = 4 then (if (t137.length : Int) = 6 then (if t138 = 0 then ((net_Cut.f y112 0 1).bind fun t154 => (some ((t154.length : Int) == 1))) else (some false)) else (some false)) else (some false)) = some r := by rw [if_pos rfl] at H; exact H
                  clear H
                  have H := H1
                  clear H1
                  by_cases c14 : (t133.length : Int) = 4
                  · rw [if_pos c14] at H
                    have c14b0 : ((t133.length : Int) == 4) = true := beq_iff_eq.mpr c14
                    have c14b1 : ((t133.length : Int) != 4) = false := bne_eq_false_iff_eq.mpr c14
                    clear c14
                    by_cases c15 : (t137.length : Int) = 6
                    · rw [if_pos c15] at H
                      have c15b0 : ((t137.length : Int) == 6) = true := beq_iff_eq.mpr c15
                      have c15b1 : ((t137.length : Int) != 6) = false := bne_eq_false_iff_eq.mpr c15
                      clear c15
                      by_cases c16 : t138 = 0
                      · rw [if_pos c16] at H
                        have c16b0 : (t138 == 0) = true := beq_iff_eq.mpr c16
                        have c16b1 : (t138 != 0) = false := bne_eq_false_iff_eq.mpr c16
                        clear c16
                        replace H := Option.bind_eq_some_iff.mp H
                        obtain ⟨t154, A170, H⟩ := H
                        replace H : (some ((t154.length : Int) == 1)) = some r := H
                        have A17 := Aside0.mk A170
                        clear A170
                        obtain rfl := Option.some.inj H
                        go_enter Try.func29, Try.ntmps29
                        try go_wp2_with (first | ((with_reducible refine gate_dst (N := 13) rfl ?_); (try (refine gate_guard (by rfl) ?_; dsimp only)); refine Kd.N_lit k29 _ 29 ?hg (N' := 13) ?hd (xs := ([(⟨0, 0, 1, 0, 0, 0, 1, ([] : List ByteArray)⟩ : S29), (⟨0, 0, 0, 0, 0, 0, 2, ([] : List ByteArray)⟩ : S29), (⟨0, 0, 1, 0, 0, 0, 3, ([] : List ByteArray)⟩ : S29)] : List (S29))) (inner := [.int .i64 0, .int .i64 0, .int .i64 1, .int .i64 0, .int .i64 0, .int .i64 0, .int .i64 1, .slice none 0 0, .int .i64 0, .int .i64 0, .int .i64 0, .int .i64 0, .int .i64 0, .int .i64 0, .int .i64 2, .slice none 0 0, .int .i64 0, .int .i64 0, .int .i64 1, .int .i64 0, .int .i64 0, .int .i64 0, .int .i64 3, .slice none 0 0]) (ok := (fun _ => True)) (okp := (fun _ => True)) ?hr ?hp (fun _ hk => hk) ((show ∀ k_, w.heap.size ≤ k_ → (fun _ => True) k_ from fun k_ hk => trivial) _ (Nat.le_refl _)) (Below.refl _ _) (Nat.le_refl _) (by simp) ?_; (case hd => rfl); (case hg => rfl); (case hr => first | (go_simp; done) | (go_simp; rfl)); (case hp => exact (Reps.c8 (show Kd.FK k29 _ _ (⟨0, 0, 1, 0, 0, 0, 1, ([] : List ByteArray)⟩ : S29) [.int .i64 0, .int .i64 0, .int .i64 1, .int .i64 0, .int .i64 0, .int .i64 0, .int .i64 1, .slice none 0 0] from (k29_mkF _ _ (⟨0, 0, 1, 0, 0, 0, 1, ([] : List ByteArray)⟩ : S29) (Nat.le_refl _) (Kd.F_nil _ _ _))) (Reps.c8 (show Kd.FK k29 _ _ (⟨0, 0, 0, 0, 0, 0, 2, ([] : List ByteArray)⟩ : S29) [.int .i64 0, .int .i64 0, .int .i64 0, .int .i64 0, .int .i64 0, .int .i64 0, .int .i64 2, .slice none 0 0] from (k29_mkF _ _ (⟨0, 0, 0, 0, 0, 0, 2, ([] : List ByteArray)⟩ : S29) (Nat.le_refl _) (Kd.F_nil _ _ _))) (Reps.c8 (show Kd.FK k29 _ _ (⟨0, 0, 1, 0, 0, 0, 3, ([] : List ByteArray)⟩ : S29) [.int .i64 0, .int .i64 0, .int .i64 1, .int .i64 0, .int .i64 0, .int .i64 0, .int .i64 3, .slice none 0 0] from (k29_mkF _ _ (⟨0, 0, 1, 0, 0, 0, 3, ([] : List ByteArray)⟩ : S29) (Nat.le_refl _) (Kd.F_nil _ _ _))) (Reps.none _ _))))); intro v113 w18 ho19 hb hg_ hnew_; clear hg_ hnew_; (first | rw [← Ny112.out] at ho19 | (simp only [Int.reduceToNat] at ho19; rw [← Ny112.out] at ho19)); have n0_ := Aside0.mk (Kd.N_lower ho19 (below_size (by repeat (first | (with_reducible first | exact HB.out | apply below_alloc | apply pw_below_drewN | apply below_drew1) | exact HB.out)))); have n1_ := Aside0.mk (below_step (by repeat (first | (with_reducible first | exact HB.out | apply below_alloc | apply pw_below_drewN | apply below_drew1) | exact HB.out)) hb); clear HB; have HO114 := n0_; have HB := n1_; clear n0_ n1_; clear hb ho19; obtain ⟨Ao20, co20, eo20⟩ := Kd.N_slice HO114.out; subst eo20) | ((with_reducible refine gate_callee (f := 21) rfl ?_); refine goesL_ (some 15) rfl rfl Try.func21 (by kernel_rfl) rfl #[.slice Ao20 y112.length co20, .int .i64 2] rfl (by (try simp only [List.map_toArray, List.map_cons, List.map_nil]); first | done | rfl | (simp only [List.length_drop, List.length_take]; rfl)) ?_; (with_reducible refine (net_Split.calls _ _ y112 2 t115 _ ?side1 ?side2 A1.out).mono ?_); (case side1 => repeat (first | exact (Kd.N_reads' HO114.out).2.2 | (with_reducible refine Kd.C_alloc ?_ _) | (with_reducible refine Kd.C_drewN ?_ _) | (with_reducible refine Kd.C_drew ?_))); (case side2 => exact (Kd.N_reads' HO114.out).2.1); rintro e w21 ⟨v116, rfl, ho0, hb⟩; refine ⟨_, rfl, ?_⟩; have n0_ := Aside0.mk (Kd.N_elder' (by (with_reducible repeat (first | apply Kd.N_alloc | apply Kd.N_drewN | apply Kd.N_drew)); exact HO114.out) (Kd.R_base ho0) hb); have n1_ := Aside0.mk (Kd.N_lower (Kd.N_mono (ok' := fun k_ => some k_ ≠ (.slice Ao20 y112.length co20 : Value).ownBlock) (Kd.R_N (Kd.R_bound ho0)) (fun k_ hk_ => (Kd.fresh' (Kd.N_lt (by (with_reducible repeat (first | apply Kd.N_alloc | apply Kd.N_drewN | apply Kd.N_drew)); exact HO114.out)) k_ hk_.2.1))) (below_size (by repeat (first | (with_reducible first | exact HB.out | apply below_alloc | apply pw_below_drewN | apply below_drew1) | exact HB.out)))); have n2_ := Aside0.mk (below_step (by repeat (first | (with_reducible first | exact HB.out | apply below_alloc | apply pw_below_drewN | apply below_drew1) | exact HB.out)) hb); clear HO114; clear HB; have HO114 := n0_; have HO117 := n1_; have HB := n2_; clear n0_ n1_ n2_; (try clear hb); (try clear hb2); (try clear hk); (try clear hi); (try clear ho0)) | ((with_reducible refine gate_callee (f := 17) rfl ?_); refine goesL_ (some 18) rfl rfl Try.func17 (by kernel_rfl) rfl #[.slice Ao20 y112.length co20, .int .i64 1] rfl (by (try simp only [List.map_toArray, List.map_cons, List.map_nil]); first | done | rfl | (simp only [List.length_drop, List.length_take]; rfl)) ?_; (with_reducible refine (net_Take.calls _ _ y112 1 t118 t119 t120 t121 t122 t123 t124 t125 t128 true _ ?side1 ?side2 A2.out).mono ?_); (case side1 => repeat (first | exact (Kd.N_reads' HO114.out).2.2 | (with_reducible refine Kd.C_alloc ?_ _) | (with_reducible refine Kd.C_drewN ?_ _) | (with_reducible refine Kd.C_drew ?_))); (case side2 => exact (Kd.N_reads' HO114.out).2.1); rintro e w22 ⟨v126, v129, rfl, ho0, ho1, hb⟩; refine ⟨_, rfl, ?_⟩; have n0_ := Aside0.mk (Kd.N_mono (Kd.N_told (Kd.N_told (Kd.N_old (by (with_reducible repeat (first | apply Kd.N_alloc | apply Kd.N_drewN | apply Kd.N_drew)); exact HO114.out) hb) (Kd.R_base ho0)) (Kd.R_base ho1)) (fun _ h_ => h_.1)); have n1_ := Aside0.mk (Kd.N_mono (Kd.N_told (Kd.N_told (Kd.N_old (by (with_reducible repeat (first | apply Kd.N_alloc | apply Kd.N_drewN | apply Kd.N_drew)); exact HO117.out) hb) (Kd.R_base ho0)) (Kd.R_base ho1)) (fun _ h_ => h_.1)); have n2_ := Aside0.mk (Kd.R_lower ho0 (below_size (by repeat (first | (with_reducible first | exact HB.out | apply below_alloc | apply pw_below_drewN | apply below_drew1) | exact HB.out)))); have n3_ := Aside0.mk (Kd.N_lower (Kd.N_mono (ok' := fun k_ => some k_ ≠ (v126 : Value).ownBlock ∧ some k_ ≠ (.slice Ao20 y112.length co20 : Value).ownBlock ∧ some k_ ≠ (v116 : Value).ownBlock) (Kd.R_N (Kd.R_bound ho1)) (fun k_ hk_ => ⟨hk_.1, (Kd.fresh' (Kd.N_lt (by (with_reducible repeat (first | apply Kd.N_alloc | apply Kd.N_drewN | apply Kd.N_drew)); exact HO114.out)) k_ hk_.2.1), (Kd.fresh' (Kd.N_lt (by (with_reducible repeat (first | apply Kd.N_alloc | apply Kd.N_drewN | apply Kd.N_drew)); exact HO117.out)) k_ hk_.2.1)⟩)) (below_size (by repeat (first | (with_reducible first | exact HB.out | apply below_alloc | apply pw_below_drewN | apply below_drew1) | exact HB.out)))); have n4_ := Aside0.mk (below_step (by repeat (first | (with_reducible first | exact HB.out | apply below_alloc | apply pw_below_drewN | apply below_drew1) | exact HB.out)) hb); clear HO114; clear HO117; clear HB; have HO114 := n0_; have HO117 := n1_; have HO127 := n2_; have HO130 := n3_; have HB := n4_; clear n0_ n1_ n2_ n3_ n4_; (try clear hb); (try clear hb2); (try clear hk); (try clear hi); (try clear ho0); (try clear ho1)) | ((with_reducible refine gate_dst (N := 3) rfl ?_); (try (refine gate_guard (by rfl) ?_; dsimp only)); refine box_event ?hg (N := 3) ?hd (cs := #[.int .i64 0, .int .i64 0, .int .i64 0, .int .i64 0, .int .i64 0, .int .i64 0, .int .i64 0, .slice none 0 0]) (t := 29) ?hr ?_; (case hd => rfl); (case hg => rfl); (case hr => first | (go_simp; done) | (go_simp; rfl)); intro gb132 hg w23 hbox hb; have n0_ := Aside0.mk (Kd.N_below (Kd.N_elderB (by (with_reducible repeat (first | apply Kd.N_alloc | apply Kd.N_drewN | apply Kd.N_drew)); exact HO114.out) gb132 (Nat.le_of_eq hg.symm)) hb); have n1_ := Aside0.mk (Kd.N_below (Kd.N_elderB (by (with_reducible repeat (first | apply Kd.N_alloc | apply Kd.N_drewN | apply Kd.N_drew)); exact HO117.out) gb132 (Nat.le_of_eq hg.symm)) hb); have n2_ := Aside0.mk (Kd.R_below (by (with_reducible repeat (first | apply Kd.R_alloc | apply Kd.R_drewN | apply Kd.R_drew)); exact HO127.out) hb); have n3_ := Aside0.mk (Kd.N_below (Kd.N_elderB (by (with_reducible repeat (first | apply Kd.N_alloc | apply Kd.N_drewN | apply Kd.N_drew)); exact HO130.out) gb132 (Nat.le_of_eq hg.symm)) hb); have n4_ := Aside0.mk (below_step (by repeat (first | (with_reducible first | exact HB.out | apply below_alloc | apply pw_below_drewN | apply below_drew1) | exact HB.out)) hb); have n5_ := Aside0.mk (hbox); have n6_ := Aside0.mk ((by rw [hg]; exact (below_size (by repeat (first | (with_reducible first | exact HB.out | apply below_alloc | apply pw_below_drewN | apply below_drew1) | exact HB.out))) : w.heap.size ≤ gb132)); have n7_ := Aside0.mk ((by rw [hg]; exact (below_size (by repeat (first | (with_reducible first | exact HB.out | apply below_alloc | apply pw_below_drewN | apply below_drew1) | exact HB.out))) : w.heap.size ≤ gb132)); clear HO114; clear HO117; clear HO127; clear HO130; clear HB; have HO114 := n0_; have HO117 := n1_; have HO127 := n2_; have HO130 := n3_; have HB := n4_; have BK132 := n5_; have GW132 := n6_; have GE132 := n7_; clear n0_ n1_ n2_ n3_ n4_ n5_ n6_ n7_; clear hb hbox hg; have hcz24_0 : w23.cell? ⟨gb132, 0, none⟩ = some (.int .i64 0) := (blk_cell BK132.out 0).trans rfl; have hcz24_1 : w23.cell? ⟨gb132, 1, none⟩ = some (.int .i64 0) := (blk_cell BK132.out 1).trans rfl; have hcz24_2 : w23.cell? ⟨gb132, 2, none⟩ = some (.int .i64 0) := (blk_cell BK132.out 2).trans rfl; have hcz24_3 : w23.cell? ⟨gb132, 3, none⟩ = some (.int .i64 0) := (blk_cell BK132.out 3).trans rfl; have hcz24_4 : w23.cell? ⟨gb132, 4, none⟩ = some (.int .i64 0) := (blk_cell BK132.out 4).trans rfl; have hcz24_5 : w23.cell? ⟨gb132, 5, none⟩ = some (.int .i64 0) := (blk_cell BK132.out 5).trans rfl; have hcz24_6 : w23.cell? ⟨gb132, 6, none⟩ = some (.int .i64 0) := (blk_cell BK132.out 6).trans rfl; have hcz24_7 : w23.cell? ⟨gb132, 7, none⟩ = some (.slice none 0 0) := (blk_cell BK132.out 7).trans rfl; have hfz24_0 := blk_frozen BK132.out 0; have hfz24_1 := blk_frozen BK132.out 1; have hfz24_2 := blk_frozen BK132.out 2; have hfz24_3 := blk_frozen BK132.out 3; have hfz24_4 := blk_frozen BK132.out 4; have hfz24_5 := blk_frozen BK132.out 5; have hfz24_6 := blk_frozen BK132.out 6; have hfz24_7 := blk_frozen BK132.out 7; obtain ⟨Ao25, co25, eo25⟩ := Kd.R_slice HO127.out; subst eo25) | ((with_reducible refine gate_callee (f := 19) rfl ?_); refine goesL_ (some 24) rfl rfl Try.func19 (by kernel_rfl) rfl #[.slice Ao20 y112.length co20, .int .i64 0] rfl (by (try simp only [List.map_toArray, List.map_cons, List.map_nil]); first | done | rfl | (simp only [List.length_drop, List.length_take]; rfl)) ?_; (with_reducible refine (net_Copy.calls _ _ y112 0 t133 true _ ?side1 ?side2 A3.out).mono ?_); (case side1 => refine (Kd.N_reads' (e := 29) (base := w.heap.size) (ok := fun k_ => ((((True ∧ some k_ ≠ (v116 : Value).ownBlock) ∧ some k_ ≠ (.slice Ao25 t125.length co25 : Value).ownBlock) ∧ some k_ ≠ (v129 : Value).ownBlock) ∧ k_ ≠ gb132)) (n := y112.length) (c := co20) ?_).2.2; exact (by (with_reducible repeat (first | apply Kd.N_alloc | apply Kd.N_drewN | apply Kd.N_drew)); exact (Kd.N_mono (Kd.N_far (p := ⟨gb132, 7, none⟩) (Kd.N_far (p := ⟨gb132, 6, none⟩) (Kd.N_far (p := ⟨gb132, 5, none⟩) (Kd.N_far (p := ⟨gb132, 4, none⟩) (Kd.N_far (p := ⟨gb132, 3, none⟩) (Kd.N_far (p := ⟨gb132, 2, none⟩) (Kd.N_far (p := ⟨gb132, 1, none⟩) (Kd.N_far (p := ⟨gb132, 0, none⟩) (Kd.N_mono HO114.out (fun k_ hk => (⟨hk, hk.2⟩ : _ ∧ k_ ≠ gb132))) (fun _ hk => hk.2) (.int .i64 t118)) (fun _ hk => hk.2) (.int .i64 t119)) (fun _ hk => hk.2) (.int .i64 t120)) (fun _ hk => hk.2) (.int .i64 t121)) (fun _ hk => hk.2) (.int .i64 t122)) (fun _ hk => hk.2) (.int .i64 t123)) (fun _ hk => hk.2) (.int .i64 t124)) (fun _ hk => hk.2) (.slice Ao25 t125.length co25)) (fun _ h_ => h_.1)))); (case side2 => exact (Kd.N_reads' HO114.out).2.1); rintro e w26 ⟨v135, rfl, ho0, hb⟩; refine ⟨_, rfl, ?_⟩; have n0_ := Aside0.mk (Kd.N_elder' (by (with_reducible repeat (first | apply Kd.N_alloc | apply Kd.N_drewN | apply Kd.N_drew)); exact (Kd.N_mono (Kd.N_far (p := ⟨gb132, 7, none⟩) (Kd.N_far (p := ⟨gb132, 6, none⟩) (Kd.N_far (p := ⟨gb132, 5, none⟩) (Kd.N_far (p := ⟨gb132, 4, none⟩) (Kd.N_far (p := ⟨gb132, 3, none⟩) (Kd.N_far (p := ⟨gb132, 2, none⟩) (Kd.N_far (p := ⟨gb132, 1, none⟩) (Kd.N_far (p := ⟨gb132, 0, none⟩) (Kd.N_mono HO114.out (fun k_ hk => (⟨hk, hk.2⟩ : _ ∧ k_ ≠ gb132))) (fun _ hk => hk.2) (.int .i64 t118)) (fun _ hk => hk.2) (.int .i64 t119)) (fun _ hk => hk.2) (.int .i64 t120)) (fun _ hk => hk.2) (.int .i64 t121)) (fun _ hk => hk.2) (.int .i64 t122)) (fun _ hk => hk.2) (.int .i64 t123)) (fun _ hk => hk.2) (.int .i64 t124)) (fun _ hk => hk.2) (.slice Ao25 t125.length co25)) (fun _ h_ => h_.1))) (Kd.R_base ho0) hb); have n1_ := Aside0.mk (Kd.N_elder' (by (with_reducible repeat (first | apply Kd.N_alloc | apply Kd.N_drewN | apply Kd.N_drew)); exact (Kd.N_mono (Kd.N_far (p := ⟨gb132, 7, none⟩) (Kd.N_far (p := ⟨gb132, 6, none⟩) (Kd.N_far (p := ⟨gb132, 5, none⟩) (Kd.N_far (p := ⟨gb132, 4, none⟩) (Kd.N_far (p := ⟨gb132, 3, none⟩) (Kd.N_far (p := ⟨gb132, 2, none⟩) (Kd.N_far (p := ⟨gb132, 1, none⟩) (Kd.N_far (p := ⟨gb132, 0, none⟩) (Kd.N_mono HO117.out (fun k_ hk => (⟨hk, hk.2⟩ : _ ∧ k_ ≠ gb132))) (fun _ hk => hk.2) (.int .i64 t118)) (fun _ hk => hk.2) (.int .i64 t119)) (fun _ hk => hk.2) (.int .i64 t120)) (fun _ hk => hk.2) (.int .i64 t121)) (fun _ hk => hk.2) (.int .i64 t122)) (fun _ hk => hk.2) (.int .i64 t123)) (fun _ hk => hk.2) (.int .i64 t124)) (fun _ hk => hk.2) (.slice Ao25 t125.length co25)) (fun _ h_ => h_.1))) (Kd.R_base ho0) hb); have n2_ := Aside0.mk (Kd.R_below (by (with_reducible repeat (first | apply Kd.R_alloc | apply Kd.R_drewN | apply Kd.R_drew)); exact (Kd.R_mono (Kd.R_far (p := ⟨gb132, 7, none⟩) (Kd.R_far (p := ⟨gb132, 6, none⟩) (Kd.R_far (p := ⟨gb132, 5, none⟩) (Kd.R_far (p := ⟨gb132, 4, none⟩) (Kd.R_far (p := ⟨gb132, 3, none⟩) (Kd.R_far (p := ⟨gb132, 2, none⟩) (Kd.R_far (p := ⟨gb132, 1, none⟩) (Kd.R_far (p := ⟨gb132, 0, none⟩) (Kd.R_types HO127.out BK132.out (by decide)) (fun _ hk => hk.2) (.int .i64 t118)) (fun _ hk => hk.2) (.int .i64 t119)) (fun _ hk => hk.2) (.int .i64 t120)) (fun _ hk => hk.2) (.int .i64 t121)) (fun _ hk => hk.2) (.int .i64 t122)) (fun _ hk => hk.2) (.int .i64 t123)) (fun _ hk => hk.2) (.int .i64 t124)) (fun _ hk => hk.2) (.slice Ao25 t125.length co25)) (fun _ h_ => h_.1))) hb); have n3_ := Aside0.mk (Kd.N_elder' (by (with_reducible repeat (first | apply Kd.N_alloc | apply Kd.N_drewN | apply Kd.N_drew)); exact (Kd.N_mono (Kd.N_far (p := ⟨gb132, 7, none⟩) (Kd.N_far (p := ⟨gb132, 6, none⟩) (Kd.N_far (p := ⟨gb132, 5, none⟩) (Kd.N_far (p := ⟨gb132, 4, none⟩) (Kd.N_far (p := ⟨gb132, 3, none⟩) (Kd.N_far (p := ⟨gb132, 2, none⟩) (Kd.N_far (p := ⟨gb132, 1, none⟩) (Kd.N_far (p := ⟨gb132, 0, none⟩) (Kd.N_mono HO130.out (fun k_ hk => (⟨hk, hk.2⟩ : _ ∧ k_ ≠ gb132))) (fun _ hk => hk.2) (.int .i64 t118)) (fun _ hk => hk.2) (.int .i64 t119)) (fun _ hk => hk.2) (.int .i64 t120)) (fun _ hk => hk.2) (.int .i64 t121)) (fun _ hk => hk.2) (.int .i64 t122)) (fun _ hk => hk.2) (.int .i64 t123)) (fun _ hk => hk.2) (.int .i64 t124)) (fun _ hk => hk.2) (.slice Ao25 t125.length co25)) (fun _ h_ => h_.1))) (Kd.R_base ho0) hb); have n4_ := Aside0.mk (Kd.N_lower (Kd.N_mono (ok' := fun k_ => some k_ ≠ (.slice Ao20 y112.length co20 : Value).ownBlock ∧ some k_ ≠ (v116 : Value).ownBlock ∧ some k_ ≠ (.slice Ao25 t125.length co25 : Value).ownBlock ∧ some k_ ≠ (v129 : Value).ownBlock ∧ k_ ≠ gb132) (Kd.R_N (Kd.R_bound ho0)) (fun k_ hk_ => ⟨(Kd.fresh' (Kd.N_lt (by (with_reducible repeat (first | apply Kd.N_alloc | apply Kd.N_drewN | apply Kd.N_drew)); exact (Kd.N_mono (Kd.N_far (p := ⟨gb132, 7, none⟩) (Kd.N_far (p := ⟨gb132, 6, none⟩) (Kd.N_far (p := ⟨gb132, 5, none⟩) (Kd.N_far (p := ⟨gb132, 4, none⟩) (Kd.N_far (p := ⟨gb132, 3, none⟩) (Kd.N_far (p := ⟨gb132, 2, none⟩) (Kd.N_far (p := ⟨gb132, 1, none⟩) (Kd.N_far (p := ⟨gb132, 0, none⟩) (Kd.N_mono HO114.out (fun k_ hk => (⟨hk, hk.2⟩ : _ ∧ k_ ≠ gb132))) (fun _ hk => hk.2) (.int .i64 t118)) (fun _ hk => hk.2) (.int .i64 t119)) (fun _ hk => hk.2) (.int .i64 t120)) (fun _ hk => hk.2) (.int .i64 t121)) (fun _ hk => hk.2) (.int .i64 t122)) (fun _ hk => hk.2) (.int .i64 t123)) (fun _ hk => hk.2) (.int .i64 t124)) (fun _ hk => hk.2) (.slice Ao25 t125.length co25)) (fun _ h_ => h_.1)))) k_ hk_.2.1), (Kd.fresh' (Kd.N_lt (by (with_reducible repeat (first | apply Kd.N_alloc | apply Kd.N_drewN | apply Kd.N_drew)); exact (Kd.N_mono (Kd.N_far (p := ⟨gb132, 7, none⟩) (Kd.N_far (p := ⟨gb132, 6, none⟩) (Kd.N_far (p := ⟨gb132, 5, none⟩) (Kd.N_far (p := ⟨gb132, 4, none⟩) (Kd.N_far (p := ⟨gb132, 3, none⟩) (Kd.N_far (p := ⟨gb132, 2, none⟩) (Kd.N_far (p := ⟨gb132, 1, none⟩) (Kd.N_far (p := ⟨gb132, 0, none⟩) (Kd.N_mono HO117.out (fun k_ hk => (⟨hk, hk.2⟩ : _ ∧ k_ ≠ gb132))) (fun _ hk => hk.2) (.int .i64 t118)) (fun _ hk => hk.2) (.int .i64 t119)) (fun _ hk => hk.2) (.int .i64 t120)) (fun _ hk => hk.2) (.int .i64 t121)) (fun _ hk => hk.2) (.int .i64 t122)) (fun _ hk => hk.2) (.int .i64 t123)) (fun _ hk => hk.2) (.int .i64 t124)) (fun _ hk => hk.2) (.slice Ao25 t125.length co25)) (fun _ h_ => h_.1)))) k_ hk_.2.1), (Kd.fresh' (Kd.R_lt (by (with_reducible repeat (first | apply Kd.R_alloc | apply Kd.R_drewN | apply Kd.R_drew)); exact (Kd.R_mono (Kd.R_far (p := ⟨gb132, 7, none⟩) (Kd.R_far (p := ⟨gb132, 6, none⟩) (Kd.R_far (p := ⟨gb132, 5, none⟩) (Kd.R_far (p := ⟨gb132, 4, none⟩) (Kd.R_far (p := ⟨gb132, 3, none⟩) (Kd.R_far (p := ⟨gb132, 2, none⟩) (Kd.R_far (p := ⟨gb132, 1, none⟩) (Kd.R_far (p := ⟨gb132, 0, none⟩) (Kd.R_types HO127.out BK132.out (by decide)) (fun _ hk => hk.2) (.int .i64 t118)) (fun _ hk => hk.2) (.int .i64 t119)) (fun _ hk => hk.2) (.int .i64 t120)) (fun _ hk => hk.2) (.int .i64 t121)) (fun _ hk => hk.2) (.int .i64 t122)) (fun _ hk => hk.2) (.int .i64 t123)) (fun _ hk => hk.2) (.int .i64 t124)) (fun _ hk => hk.2) (.slice Ao25 t125.length co25)) (fun _ h_ => h_.1)))) k_ hk_.2.1), (Kd.fresh' (Kd.N_lt (by (with_reducible repeat (first | apply Kd.N_alloc | apply Kd.N_drewN | apply Kd.N_drew)); exact (Kd.N_mono (Kd.N_far (p := ⟨gb132, 7, none⟩) (Kd.N_far (p := ⟨gb132, 6, none⟩) (Kd.N_far (p := ⟨gb132, 5, none⟩) (Kd.N_far (p := ⟨gb132, 4, none⟩) (Kd.N_far (p := ⟨gb132, 3, none⟩) (Kd.N_far (p := ⟨gb132, 2, none⟩) (Kd.N_far (p := ⟨gb132, 1, none⟩) (Kd.N_far (p := ⟨gb132, 0, none⟩) (Kd.N_mono HO130.out (fun k_ hk => (⟨hk, hk.2⟩ : _ ∧ k_ ≠ gb132))) (fun _ hk => hk.2) (.int .i64 t118)) (fun _ hk => hk.2) (.int .i64 t119)) (fun _ hk => hk.2) (.int .i64 t120)) (fun _ hk => hk.2) (.int .i64 t121)) (fun _ hk => hk.2) (.int .i64 t122)) (fun _ hk => hk.2) (.int .i64 t123)) (fun _ hk => hk.2) (.int .i64 t124)) (fun _ hk => hk.2) (.slice Ao25 t125.length co25)) (fun _ h_ => h_.1)))) k_ hk_.2.1), (Kd.freshB (g := gb132) (o := .cells #[.int .i64 t118, .int .i64 t119, .int .i64 t120, .int .i64 t121, .int .i64 t122, .int .i64 t123, .int .i64 t124, .slice Ao25 t125.length co25] 29 (0, 0)) (by (with_reducible repeat (first | refine blk_drewN ?_ _ | refine blk_drew ?_ | refine blk_alloc ?_ _)); refine blk_put (cs := #[.int .i64 t118, .int .i64 t119, .int .i64 t120, .int .i64 t121, .int .i64 t122, .int .i64 t123, .int .i64 t124, .slice none 0 0]) ?_ 7 _ rfl; (with_reducible repeat (first | refine blk_drewN ?_ _ | refine blk_drew ?_ | refine blk_alloc ?_ _)); refine blk_put (cs := #[.int .i64 t118, .int .i64 t119, .int .i64 t120, .int .i64 t121, .int .i64 t122, .int .i64 t123, .int .i64 0, .slice none 0 0]) ?_ 6 _ rfl; (with_reducible repeat (first | refine blk_drewN ?_ _ | refine blk_drew ?_ | refine blk_alloc ?_ _)); refine blk_put (cs := #[.int .i64 t118, .int .i64 t119, .int .i64 t120, .int .i64 t121, .int .i64 t122, .int .i64 0, .int .i64 0, .slice none 0 0]) ?_ 5 _ rfl; (with_reducible repeat (first | refine blk_drewN ?_ _ | refine blk_drew ?_ | refine blk_alloc ?_ _)); refine blk_put (cs := #[.int .i64 t118, .int .i64 t119, .int .i64 t120, .int .i64 t121, .int .i64 0, .int .i64 0, .int .i64 0, .slice none 0 0]) ?_ 4 _ rfl; (with_reducible repeat (first | refine blk_drewN ?_ _ | refine blk_drew ?_ | refine blk_alloc ?_ _)); refine blk_put (cs := #[.int .i64 t118, .int .i64 t119, .int .i64 t120, .int .i64 0, .int .i64 0, .int .i64 0, .int .i64 0, .slice none 0 0]) ?_ 3 _ rfl; (with_reducible repeat (first | refine blk_drewN ?_ _ | refine blk_drew ?_ | refine blk_alloc ?_ _)); refine blk_put (cs := #[.int .i64 t118, .int .i64 t119, .int .i64 0, .int .i64 0, .int .i64 0, .int .i64 0, .int .i64 0, .slice none 0 0]) ?_ 2 _ rfl; (with_reducible repeat (first | refine blk_drewN ?_ _ | refine blk_drew ?_ | refine blk_alloc ?_ _)); refine blk_put (cs := #[.int .i64 t118, .int .i64 0, .int .i64 0, .int .i64 0, .int .i64 0, .int .i64 0, .int .i64 0, .slice none 0 0]) ?_ 1 _ rfl; (with_reducible repeat (first | refine blk_drewN ?_ _ | refine blk_drew ?_ | refine blk_alloc ?_ _)); refine blk_put (cs := #[.int .i64 0, .int .i64 0, .int .i64 0, .int .i64 0, .int .i64 0, .int .i64 0, .int .i64 0, .slice none 0 0]) ?_ 0 _ rfl; (with_reducible repeat (first | refine blk_drewN ?_ _ | refine blk_drew ?_ | refine blk_alloc ?_ _)); exact BK132.out) k_ hk_.2.1)⟩)) (below_size (by repeat (first | (with_reducible first | exact HB.out | apply below_alloc | apply pw_below_drewN | apply below_drew1 | refine below_set ?_ GE132.out) | exact HB.out)))); have n5_ := Aside0.mk (blk_below (g := gb132) (o := .cells #[.int .i64 t118, .int .i64 t119, .int .i64 t120, .int .i64 t121, .int .i64 t122, .int .i64 t123, .int .i64 t124, .slice Ao25 t125.length co25] 29 (0, 0)) (by (with_reducible repeat (first | refine blk_drewN ?_ _ | refine blk_drew ?_ | refine blk_alloc ?_ _)); refine blk_put (cs := #[.int .i64 t118, .int .i64 t119, .int .i64 t120, .int .i64 t121, .int .i64 t122, .int .i64 t123, .int .i64 t124, .slice none 0 0]) ?_ 7 _ rfl; (with_reducible repeat (first | refine blk_drewN ?_ _ | refine blk_drew ?_ | refine blk_alloc ?_ _)); refine blk_put (cs := #[.int .i64 t118, .int .i64 t119, .int .i64 t120, .int .i64 t121, .int .i64 t122, .int .i64 t123, .int .i64 0, .slice none 0 0]) ?_ 6 _ rfl; (with_reducible repeat (first | refine blk_drewN ?_ _ | refine blk_drew ?_ | refine blk_alloc ?_ _)); refine blk_put (cs := #[.int .i64 t118, .int .i64 t119, .int .i64 t120, .int .i64 t121, .int .i64 t122, .int .i64 0, .int .i64 0, .slice none 0 0]) ?_ 5 _ rfl; (with_reducible repeat (first | refine blk_drewN ?_ _ | refine blk_drew ?_ | refine blk_alloc ?_ _)); refine blk_put (cs := #[.int .i64 t118, .int .i64 t119, .int .i64 t120, .int .i64 t121, .int .i64 0, .int .i64 0, .int .i64 0, .slice none 0 0]) ?_ 4 _ rfl; (with_reducible repeat (first | refine blk_drewN ?_ _ | refine blk_drew ?_ | refine blk_alloc ?_ _)); refine blk_put (cs := #[.int .i64 t118, .int .i64 t119, .int .i64 t120, .int .i64 0, .int .i64 0, .int .i64 0, .int .i64 0, .slice none 0 0]) ?_ 3 _ rfl; (with_reducible repeat (first | refine blk_drewN ?_ _ | refine blk_drew ?_ | refine blk_alloc ?_ _)); refine blk_put (cs := #[.int .i64 t118, .int .i64 t119, .int .i64 0, .int .i64 0, .int .i64 0, .int .i64 0, .int .i64 0, .slice none 0 0]) ?_ 2 _ rfl; (with_reducible repeat (first | refine blk_drewN ?_ _ | refine blk_drew ?_ | refine blk_alloc ?_ _)); refine blk_put (cs := #[.int .i64 t118, .int .i64 0, .int .i64 0, .int .i64 0, .int .i64 0, .int .i64 0, .int .i64 0, .slice none 0 0]) ?_ 1 _ rfl; (with_reducible repeat (first | refine blk_drewN ?_ _ | refine blk_drew ?_ | refine blk_alloc ?_ _)); refine blk_put (cs := #[.int .i64 0, .int .i64 0, .int .i64 0, .int .i64 0, .int .i64 0, .int .i64 0, .int .i64 0, .slice none 0 0]) ?_ 0 _ rfl; (with_reducible repeat (first | refine blk_drewN ?_ _ | refine blk_drew ?_ | refine blk_alloc ?_ _)); exact BK132.out) hb); have n6_ := Aside0.mk (below_step (by repeat (first | (with_reducible first | exact HB.out | apply below_alloc | apply pw_below_drewN | apply below_drew1 | refine below_set ?_ GE132.out) | exact HB.out)) hb); clear HO114; clear HO117; clear HO127; clear HO130; clear BK132; clear HB; have HO114 := n0_; have HO117 := n1_; have HO127 := n2_; have HO130 := n3_; have HO136 := n4_; have BK132 := n5_; have HB := n6_; clear n0_ n1_ n2_ n3_ n4_ n5_ n6_; (try clear hb); (try clear hb2); (try clear hk); (try clear hi); (try clear ho0)) | ((with_reducible refine gate_callee (f := 15) rfl ?_); refine goesL_ (some 30) rfl rfl Try.func15 (by kernel_rfl) rfl #[.slice Ao20 y112.length co20, .slice Ao20 y112.length co20] rfl (by (try simp only [List.map_toArray, List.map_cons, List.map_nil]); first | done | rfl | (simp only [List.length_drop, List.length_take]; rfl)) ?_; (with_reducible refine (net_Put.calls _ _ y112 _ _ y112 t137 t138 _ ?side1 ?side2 ?side3 ?side4 A4.out).mono ?_); (case side1 => repeat (first | exact (Kd.N_reads' HO114.out).2.2 | (with_reducible refine Kd.C_alloc ?_ _) | (with_reducible refine Kd.C_drewN ?_ _) | (with_reducible refine Kd.C_drew ?_))); (case side2 => exact (Kd.N_reads' HO114.out).2.1); (case side3 => repeat (first | exact (Kd.N_reads' HO114.out).2.2 | (with_reducible refine Kd.C_alloc ?_ _) | (with_reducible refine Kd.C_drewN ?_ _) | (with_reducible refine Kd.C_drew ?_))); (case side4 => exact (Kd.N_reads' HO114.out).2.1); rintro e w27 ⟨v139, rfl, ho0, hb⟩; refine ⟨_, rfl, ?_⟩; have n0_ := Aside0.mk (Kd.N_elder' (by (with_reducible repeat (first | apply Kd.N_alloc | apply Kd.N_drewN | apply Kd.N_drew)); exact HO114.out) (Kd.R_base ho0) hb); have n1_ := Aside0.mk (Kd.N_elder' (by (with_reducible repeat (first | apply Kd.N_alloc | apply Kd.N_drewN | apply Kd.N_drew)); exact HO117.out) (Kd.R_base ho0) hb); have n2_ := Aside0.mk (Kd.R_below (by (with_reducible repeat (first | apply Kd.R_alloc | apply Kd.R_drewN | apply Kd.R_drew)); exact HO127.out) hb); have n3_ := Aside0.mk (Kd.N_elder' (by (with_reducible repeat (first | apply Kd.N_alloc | apply Kd.N_drewN | apply Kd.N_drew)); exact HO130.out) (Kd.R_base ho0) hb); have n4_ := Aside0.mk (Kd.N_elder' (by (with_reducible repeat (first | apply Kd.N_alloc | apply Kd.N_drewN | apply Kd.N_drew)); exact HO136.out) (Kd.R_base ho0) hb); have n5_ := Aside0.mk (Kd.N_lower (Kd.N_mono (ok' := fun k_ => some k_ ≠ (.slice Ao20 y112.length co20 : Value).ownBlock ∧ some k_ ≠ (v116 : Value).ownBlock ∧ some k_ ≠ (.slice Ao25 t125.length co25 : Value).ownBlock ∧ some k_ ≠ (v129 : Value).ownBlock ∧ some k_ ≠ (v135 : Value).ownBlock ∧ k_ ≠ gb132) (Kd.R_N (Kd.R_bound ho0)) (fun k_ hk_ => ⟨(Kd.fresh' (Kd.N_lt (by (with_reducible repeat (first | apply Kd.N_alloc | apply Kd.N_drewN | apply Kd.N_drew)); exact HO114.out)) k_ hk_.2.1), (Kd.fresh' (Kd.N_lt (by (with_reducible repeat (first | apply Kd.N_alloc | apply Kd.N_drewN | apply Kd.N_drew)); exact HO117.out)) k_ hk_.2.1), (Kd.fresh' (Kd.R_lt (by (with_reducible repeat (first | apply Kd.R_alloc | apply Kd.R_drewN | apply Kd.R_drew)); exact HO127.out)) k_ hk_.2.1), (Kd.fresh' (Kd.N_lt (by (with_reducible repeat (first | apply Kd.N_alloc | apply Kd.N_drewN | apply Kd.N_drew)); exact HO130.out)) k_ hk_.2.1), (Kd.fresh' (Kd.N_lt (by (with_reducible repeat (first | apply Kd.N_alloc | apply Kd.N_drewN | apply Kd.N_drew)); exact HO136.out)) k_ hk_.2.1), (Kd.freshB (g := gb132) (o := .cells #[.int .i64 t118, .int .i64 t119, .int .i64 t120, .int .i64 t121, .int .i64 t122, .int .i64 t123, .int .i64 t124, .slice Ao25 t125.length co25] 29 (0, 0)) (by (with_reducible repeat (first | refine blk_drewN ?_ _ | refine blk_drew ?_ | refine blk_alloc ?_ _)); exact BK132.out) k_ hk_.2.1)⟩)) (below_size (by repeat (first | (with_reducible first | exact HB.out | apply below_alloc | apply pw_below_drewN | apply below_drew1 | refine below_set ?_ GE132.out) | exact HB.out)))); have n6_ := Aside0.mk (blk_below (g := gb132) (o := .cells #[.int .i64 t118, .int .i64 t119, .int .i64 t120, .int .i64 t121, .int .i64 t122, .int .i64 t123, .int .i64 t124, .slice Ao25 t125.length co25] 29 (0, 0)) (by (with_reducible repeat (first | refine blk_drewN ?_ _ | refine blk_drew ?_ | refine blk_alloc ?_ _)); exact BK132.out) hb); have n7_ := Aside0.mk (below_step (by repeat (first | (with_reducible first | exact HB.out | apply below_alloc | apply pw_below_drewN | apply below_drew1 | refine below_set ?_ GE132.out) | exact HB.out)) hb); clear HO114; clear HO117; clear HO127; clear HO130; clear HO136; clear BK132; clear HB; have HO114 := n0_; have HO117 := n1_; have HO127 := n2_; have HO130 := n3_; have HO136 := n4_; have HO140 := n5_; have BK132 := n6_; have HB := n7_; clear n0_ n1_ n2_ n3_ n4_ n5_ n6_ n7_; (try clear hb); (try clear hb2); (try clear hk); (try clear hi); (try clear ho0); obtain ⟨Ao28, co28, eo28⟩ := Kd.N_slice HO117.out; subst eo28))
                        have n0_ := Aside0.mk (Kd.N_drew HO114.out)
                        have n1_ := Aside0.mk (Kd.N_drew HO117.out)
                        have n2_ := Aside0.mk (Kd.R_drew HO127.out)
                        have n3_ := Aside0.mk (Kd.N_drew HO130.out)
                        have n4_ := Aside0.mk (Kd.N_drew HO136.out)
                        have n5_ := Aside0.mk (Kd.N_drew HO140.out)
                        have n6_ := Aside0.mk (blk_drew BK132.out)
                        have n7_ := Aside0.mk (below_drew1 HB.out)
                        clear HO114
                        clear HO117
                        clear HO127
                        clear HO130
                        clear HO136
                        clear HO140
                        clear BK132
                        clear HB
                        have HO114 := n0_
                        have HO117 := n1_
                        have HO127 := n2_
                        have HO130 := n3_
                        have HO136 := n4_
                        have HO140 := n5_
                        have BK132 := n6_
                        have HB := n7_
                        clear n0_ n1_ n2_ n3_ n4_ n5_ n6_ n7_
                        have p141 : 0 ≤ (1 : Int) := (by omega)
                        have q141 : 1 < (y112.length : Int) := of_decide_eq_true (by first | (with_reducible assumption) | assumption)
                        obtain ⟨ad141, A141_7, c141_7, e141, hx141_0, hx141_1, hx141_2, hx141_3, hx141_4, hx141_5, hx141_6, hx141_7, hl141_7, hi141_7⟩ := at_T29 (Kd.N_reads' HO114.out).2.2 1 p141 q141
                        cases e141
                        obtain ⟨ce141, hce141, hMe141, hcc141⟩ := Kd.N_get HO114.out z29 1 p141 (by first | exact q141 | exact of_decide_eq_true (by first | (with_reducible assumption) | assumption) | (have e_ := (Kd.N_reads' HO114.out).1; omega))
                        obtain ⟨ua141_7, uc141_7, rfl, ul141_7, ge141_7⟩ := k29_openF hMe141
                        have hv141_7 := hcc141 7 _ rfl
                        rw [add_field _ _ 7 (by omega)] at hv141_7
                        replace hv141_7 := Option.some.inj (hv141_7.symm.trans hx141_7)
                        injection hv141_7 with hva_ hvn_ hvc_
                        rw [hva_] at ge141_7
                        rw [hvc_] at ul141_7
                        have HL141_7 := Aside0.mk (show Kd.V Kd.string 9 _ w.heap.size _ _ ((rd_T29 y112 1).f7) from Kd.V_mk ul141_7 ge141_7)
                        clear hva_ hvn_ hvc_ ge141_7 ul141_7
                        clear hcc141 hce141
                        (try simp only [show (1 : Int).toNat = 1 from rfl, Nat.reduceMul, Nat.reduceEqDiff, Go.Addr.add, ↓reduceIte] at hx141_0)
                        (try simp only [show (1 : Int).toNat = 1 from rfl, Nat.reduceMul, Nat.reduceEqDiff, Go.Addr.add, ↓reduceIte] at hx141_1)
                        (try simp only [show (1 : Int).toNat = 1 from rfl, Nat.reduceMul, Nat.reduceEqDiff, Go.Addr.add, ↓reduceIte] at hx141_2)
                        (try simp only [show (1 : Int).toNat = 1 from rfl, Nat.reduceMul, Nat.reduceEqDiff, Go.Addr.add, ↓reduceIte] at hx141_3)
                        (try simp only [show (1 : Int).toNat = 1 from rfl, Nat.reduceMul, Nat.reduceEqDiff, Go.Addr.add, ↓reduceIte] at hx141_4)
                        (try simp only [show (1 : Int).toNat = 1 from rfl, Nat.reduceMul, Nat.reduceEqDiff, Go.Addr.add, ↓reduceIte] at hx141_5)
                        (try simp only [show (1 : Int).toNat = 1 from rfl, Nat.reduceMul, Nat.reduceEqDiff, Go.Addr.add, ↓reduceIte] at hx141_6)
                        (try simp only [show (1 : Int).toNat = 1 from rfl, Nat.reduceMul, Nat.reduceEqDiff, Go.Addr.add, ↓reduceIte] at hx141_7)
                        have qi141 : (1 < y112.length) = True := eq_true (by omega)
                        (try rw [show ((1 : Int)).toNat = 1 from rfl] at hx141_0)
                        (try rw [show 1 * 8 = 8 from rfl] at hx141_0)
                        (try rw [show ((1 : Int)).toNat = 1 from rfl] at hx141_1)
                        (try rw [show 1 * 8 = 8 from rfl] at hx141_1)
                        (try rw [show ((1 : Int)).toNat = 1 from rfl] at hx141_2)
                        (try rw [show 1 * 8 = 8 from rfl] at hx141_2)
                        (try rw [show ((1 : Int)).toNat = 1 from rfl] at hx141_3)
                        (try rw [show 1 * 8 = 8 from rfl] at hx141_3)
                        (try rw [show ((1 : Int)).toNat = 1 from rfl] at hx141_4)
                        (try rw [show 1 * 8 = 8 from rfl] at hx141_4)
                        (try rw [show ((1 : Int)).toNat = 1 from rfl] at hx141_5)
                        (try rw [show 1 * 8 = 8 from rfl] at hx141_5)
                        (try rw [show ((1 : Int)).toNat = 1 from rfl] at hx141_6)
                        (try rw [show 1 * 8 = 8 from rfl] at hx141_6)
                        (try rw [show ((1 : Int)).toNat = 1 from rfl] at hx141_7)
                        (try rw [show 1 * 8 = 8 from rfl] at hx141_7)
                        have HR141_7 := Aside0.mk hi141_7
                        have HC141_7 := Aside0.mk hl141_7
                        clear hi141_7 hl141_7
                        replace p141 := eq_true p141
                        replace q141 := eq_true q141
                        have p145 : 0 ≤ (0 : Int) := (by omega)
                        have q145 : 0 < (y112.length : Int) := of_decide_eq_true (by first | (with_reducible assumption) | assumption)
                        obtain ⟨ad145, A145_7, c145_7, e145, hx145_0, hx145_1, hx145_2, hx145_3, hx145_4, hx145_5, hx145_6, hx145_7, hl145_7, hi145_7⟩ := at_T29 (Kd.N_reads' HO114.out).2.2 0 p145 q145
                        obtain rfl : ad141 = ad145 := (by injection e145)
                        obtain ⟨ce145, hce145, hMe145, hcc145⟩ := Kd.N_get HO114.out z29 0 p145 (by first | exact q145 | exact of_decide_eq_true (by first | (with_reducible assumption) | assumption) | (have e_ := (Kd.N_reads' HO114.out).1; omega))
                        obtain ⟨ua145_7, uc145_7, rfl, ul145_7, ge145_7⟩ := k29_openF hMe145
                        have hv145_7 := hcc145 7 _ rfl
                        rw [add_field _ _ 7 (by omega)] at hv145_7
                        replace hv145_7 := Option.some.inj (hv145_7.symm.trans hx145_7)
                        injection hv145_7 with hva_ hvn_ hvc_
                        rw [hva_] at ge145_7
                        rw [hvc_] at ul145_7
                        have HL145_7 := Aside0.mk (show Kd.V Kd.string 9 _ w.heap.size _ _ ((rd_T29 y112 0).f7) from Kd.V_mk ul145_7 ge145_7)
                        clear hva_ hvn_ hvc_ ge145_7 ul145_7
                        clear hcc145 hce145
                        have qi145 : (0 < y112.length) = True := eq_true (by omega)
                        (try rw [show ((0 : Int)).toNat = 0 from rfl] at hx145_0)
                        (try rw [show 0 * 8 = 0 from rfl] at hx145_0)
                        (try rw [Addr.add_zero'] at hx145_0)
                        (try rw [show ((0 : Int)).toNat = 0 from rfl] at hx145_1)
                        (try rw [show 0 * 8 = 0 from rfl] at hx145_1)
                        (try rw [Addr.add_zero'] at hx145_1)
                        (try rw [show ((0 : Int)).toNat = 0 from rfl] at hx145_2)
                        (try rw [show 0 * 8 = 0 from rfl] at hx145_2)
                        (try rw [Addr.add_zero'] at hx145_2)
                        (try rw [show ((0 : Int)).toNat = 0 from rfl] at hx145_3)
                        (try rw [show 0 * 8 = 0 from rfl] at hx145_3)
                        (try rw [Addr.add_zero'] at hx145_3)
                        (try rw [show ((0 : Int)).toNat = 0 from rfl] at hx145_4)
                        (try rw [show 0 * 8 = 0 from rfl] at hx145_4)
                        (try rw [Addr.add_zero'] at hx145_4)
                        (try rw [show ((0 : Int)).toNat = 0 from rfl] at hx145_5)
                        (try rw [show 0 * 8 = 0 from rfl] at hx145_5)
                        (try rw [Addr.add_zero'] at hx145_5)
                        (try rw [show ((0 : Int)).toNat = 0 from rfl] at hx145_6)
                        (try rw [show 0 * 8 = 0 from rfl] at hx145_6)
                        (try rw [Addr.add_zero'] at hx145_6)
                        (try rw [show ((0 : Int)).toNat = 0 from rfl] at hx145_7)
                        (try rw [show 0 * 8 = 0 from rfl] at hx145_7)
                        (try rw [Addr.add_zero'] at hx145_7)
                        have HR145_7 := Aside0.mk hi145_7
                        have HC145_7 := Aside0.mk hl145_7
                        clear hi145_7 hl145_7
                        replace p145 := eq_true p145
                        replace q145 := eq_true q145
                        have p146 : 0 ≤ (2 : Int) := (by omega)
                        have q146 : 2 < (y112.length : Int) := of_decide_eq_true (by first | (with_reducible assumption) | assumption)
                        obtain ⟨ad146, A146_7, c146_7, e146, hx146_0, hx146_1, hx146_2, hx146_3, hx146_4, hx146_5, hx146_6, hx146_7, hl146_7, hi146_7⟩ := at_T29 (Kd.N_reads' HO114.out).2.2 2 p146 q146
                        obtain rfl : ad141 = ad146 := (by injection e146)
                        obtain ⟨ce146, hce146, hMe146, hcc146⟩ := Kd.N_get HO114.out z29 2 p146 (by first | exact q146 | exact of_decide_eq_true (by first | (with_reducible assumption) | assumption) | (have e_ := (Kd.N_reads' HO114.out).1; omega))
                        obtain ⟨ua146_7, uc146_7, rfl, ul146_7, ge146_7⟩ := k29_openF hMe146
                        have hv146_7 := hcc146 7 _ rfl
                        rw [add_field _ _ 7 (by omega)] at hv146_7
                        replace hv146_7 := Option.some.inj (hv146_7.symm.trans hx146_7)
                        injection hv146_7 with hva_ hvn_ hvc_
                        rw [hva_] at ge146_7
                        rw [hvc_] at ul146_7
                        have HL146_7 := Aside0.mk (show Kd.V Kd.string 9 _ w.heap.size _ _ ((rd_T29 y112 2).f7) from Kd.V_mk ul146_7 ge146_7)
                        clear hva_ hvn_ hvc_ ge146_7 ul146_7
                        clear hcc146 hce146
                        (try simp only [show (2 : Int).toNat = 2 from rfl, Nat.reduceMul, Nat.reduceEqDiff, Go.Addr.add, ↓reduceIte] at hx146_0)
                        (try simp only [show (2 : Int).toNat = 2 from rfl, Nat.reduceMul, Nat.reduceEqDiff, Go.Addr.add, ↓reduceIte] at hx146_1)
                        (try simp only [show (2 : Int).toNat = 2 from rfl, Nat.reduceMul, Nat.reduceEqDiff, Go.Addr.add, ↓reduceIte] at hx146_2)
                        (try simp only [show (2 : Int).toNat = 2 from rfl, Nat.reduceMul, Nat.reduceEqDiff, Go.Addr.add, ↓reduceIte] at hx146_3)
                        (try simp only [show (2 : Int).toNat = 2 from rfl, Nat.reduceMul, Nat.reduceEqDiff, Go.Addr.add, ↓reduceIte] at hx146_4)
                        (try simp only [show (2 : Int).toNat = 2 from rfl, Nat.reduceMul, Nat.reduceEqDiff, Go.Addr.add, ↓reduceIte] at hx146_5)
                        (try simp only [show (2 : Int).toNat = 2 from rfl, Nat.reduceMul, Nat.reduceEqDiff, Go.Addr.add, ↓reduceIte] at hx146_6)
                        (try simp only [show (2 : Int).toNat = 2 from rfl, Nat.reduceMul, Nat.reduceEqDiff, Go.Addr.add, ↓reduceIte] at hx146_7)
                        have qi146 : (2 < y112.length) = True := eq_true (by omega)
                        (try rw [show ((2 : Int)).toNat = 2 from rfl] at hx146_0)
                        (try rw [show 2 * 8 = 16 from rfl] at hx146_0)
                        (try rw [show ((2 : Int)).toNat = 2 from rfl] at hx146_1)
                        (try rw [show 2 * 8 = 16 from rfl] at hx146_1)
                        (try rw [show ((2 : Int)).toNat = 2 from rfl] at hx146_2)
                        (try rw [show 2 * 8 = 16 from rfl] at hx146_2)
                        (try rw [show ((2 : Int)).toNat = 2 from rfl] at hx146_3)
                        (try rw [show 2 * 8 = 16 from rfl] at hx146_3)
                        (try rw [show ((2 : Int)).toNat = 2 from rfl] at hx146_4)
                        (try rw [show 2 * 8 = 16 from rfl] at hx146_4)
                        (try rw [show ((2 : Int)).toNat = 2 from rfl] at hx146_5)
                        (try rw [show 2 * 8 = 16 from rfl] at hx146_5)
                        (try rw [show ((2 : Int)).toNat = 2 from rfl] at hx146_6)
                        (try rw [show 2 * 8 = 16 from rfl] at hx146_6)
                        (try rw [show ((2 : Int)).toNat = 2 from rfl] at hx146_7)
                        (try rw [show 2 * 8 = 16 from rfl] at hx146_7)
                        have HR146_7 := Aside0.mk hi146_7
                        have HC146_7 := Aside0.mk hl146_7
                        clear hi146_7 hl146_7
                        replace p146 := eq_true p146
                        replace q146 := eq_true q146
                        refine start_ (n := 51) (S := fun w' => w'.cell? ⟨gb132, 0, none⟩ = some (.int .i64 t118) ∧ w'.cell? ⟨gb132, 1, none⟩ = some (.int .i64 t119) ∧ w'.cell? ⟨gb132, 2, none⟩ = some (.int .i64 t120) ∧ w'.cell? ⟨gb132, 3, none⟩ = some (.int .i64 t121) ∧ w'.cell? ⟨gb132, 4, none⟩ = some (.int .i64 t122) ∧ w'.cell? ⟨gb132, 5, none⟩ = some (.int .i64 t123) ∧ w'.cell? ⟨gb132, 6, none⟩ = some (.int .i64 t124) ∧ w'.cell? ⟨gb132, 7, none⟩ = some (.slice Ao25 t125.length co25) ∧ w'.cell? ⟨ad141.block, ad141.off + 8, none⟩ = some (.int .i64 ((rd_T29 y112 1).f0)) ∧ w'.cell? ⟨ad141.block, ad141.off + 8 + 1, none⟩ = some (.int .i64 ((rd_T29 y112 1).f1)) ∧ w'.cell? ⟨ad141.block, ad141.off + 8 + 2, none⟩ = some (.int .i64 ((rd_T29 y112 1).f2)) ∧ w'.cell? ⟨ad141.block, ad141.off + 8 + 3, none⟩ = some (.int .i64 ((rd_T29 y112 1).f3)) ∧ w'.cell? ⟨ad141.block, ad141.off + 8 + 4, none⟩ = some (.int .i64 ((rd_T29 y112 1).f4)) ∧ w'.cell? ⟨ad141.block, ad141.off + 8 + 5, none⟩ = some (.int .i64 ((rd_T29 y112 1).f5)) ∧ w'.cell? ⟨ad141.block, ad141.off + 8 + 6, none⟩ = some (.int .i64 ((rd_T29 y112 1).f6)) ∧ w'.cell? ⟨ad141.block, ad141.off + 8 + 7, none⟩ = some (.slice A141_7 ((rd_T29 y112 1).f7).length c141_7) ∧ w'.cell? ad141 = some (.int .i64 ((rd_T29 y112 0).f0)) ∧ w'.cell? ⟨ad141.block, ad141.off + 1, none⟩ = some (.int .i64 ((rd_T29 y112 0).f1)) ∧ w'.cell? ⟨ad141.block, ad141.off + 2, none⟩ = some (.int .i64 ((rd_T29 y112 0).f2)) ∧ w'.cell? ⟨ad141.block, ad141.off + 3, none⟩ = some (.int .i64 ((rd_T29 y112 0).f3)) ∧ w'.cell? ⟨ad141.block, ad141.off + 4, none⟩ = some (.int .i64 ((rd_T29 y112 0).f4)) ∧ w'.cell? ⟨ad141.block, ad141.off + 5, none⟩ = some (.int .i64 ((rd_T29 y112 0).f5)) ∧ w'.cell? ⟨ad141.block, ad141.off + 6, none⟩ = some (.int .i64 ((rd_T29 y112 0).f6)) ∧ w'.cell? ⟨ad141.block, ad141.off + 7, none⟩ = some (.slice A145_7 ((rd_T29 y112 0).f7).length c145_7) ∧ w'.cell? ⟨ad141.block, ad141.off + 16, none⟩ = some (.int .i64 ((rd_T29 y112 2).f0)) ∧ w'.cell? ⟨ad141.block, ad141.off + 16 + 1, none⟩ = some (.int .i64 ((rd_T29 y112 2).f1)) ∧ w'.cell? ⟨ad141.block, ad141.off + 16 + 2, none⟩ = some (.int .i64 ((rd_T29 y112 2).f2)) ∧ w'.cell? ⟨ad141.block, ad141.off + 16 + 3, none⟩ = some (.int .i64 ((rd_T29 y112 2).f3)) ∧ w'.cell? ⟨ad141.block, ad141.off + 16 + 4, none⟩ = some (.int .i64 ((rd_T29 y112 2).f4)) ∧ w'.cell? ⟨ad141.block, ad141.off + 16 + 5, none⟩ = some (.int .i64 ((rd_T29 y112 2).f5)) ∧ w'.cell? ⟨ad141.block, ad141.off + 16 + 6, none⟩ = some (.int .i64 ((rd_T29 y112 2).f6)) ∧ w'.cell? ⟨ad141.block, ad141.off + 16 + 7, none⟩ = some (.slice A146_7 ((rd_T29 y112 2).f7).length c146_7)) (ds := []) #[false, false, false, false, false, false, false, false, false, false, false, false, false, false, false, false, false, false, false, false, false, false, false, false, false, false, false, false, false, false, false, false, false, false, false, false, false, false, false, false, false, false, false, false, false, false, false, false, false, false, false] (by kernel_rfl) rfl rfl ⟨(blk_cell BK132.out 0).trans rfl, (blk_cell BK132.out 1).trans rfl, (blk_cell BK132.out 2).trans rfl, (blk_cell BK132.out 3).trans rfl, (blk_cell BK132.out 4).trans rfl, (blk_cell BK132.out 5).trans rfl, (blk_cell BK132.out 6).trans rfl, (blk_cell BK132.out 7).trans rfl, hx141_0, hx141_1, hx141_2, hx141_3, hx141_4, hx141_5, hx141_6, hx141_7, hx145_0, hx145_1, hx145_2, hx145_3, hx145_4, hx145_5, hx145_6, hx145_7, hx146_0, hx146_1, hx146_2, hx146_3, hx146_4, hx146_5, hx146_6, hx146_7⟩ (fun hHeld => ?_); refine with_tabW sextonlaw25_carriedP.tab6 sextonlaw25_carriedP.bits6 (fun HT_ HW_ => ?_)
                        generalize w27.drew = w29 at HO114 HO117 HO127 HO130 HO136 HO140 BK132 HB HL141_7 HL145_7 HL146_7 HR141_7 HR145_7 HR146_7 hx141_0 hx141_1 hx141_2 hx141_3 hx141_4 hx141_5 hx141_6 hx141_7 hx145_0 hx145_1 hx145_2 hx145_3 hx145_4 hx145_5 hx145_6 hx145_7 hx146_0 hx146_1 hx146_2 hx146_3 hx146_4 hx146_5 hx146_6 hx146_7 hHeld ⊢
                        refine pure_ (i := 0) (N := some 33) (v := ?_) (a' := ?_) #[true, false, false, false, false, false, false, false, false, false, false, false, false, false, false, false, false, false, false, false, false, false, false, false, false, false, false, false, false, false, false, false, false, false, false, false, false, false, false, false, false, false, false, false, false, false, false, false, false, false, false] rfl rfl (any_of HT_.out (by kernel_rfl)) (fun _ _ _ h => h) (Or.inl ⟨by rfl, ?_⟩) ?_ ?_
                        rotate_left
                        · intro w'
                          go_simp
                          with_reducible rfl
                        rotate_left
                        · simp only [Act.put, List.setIfInBounds_toArray, List.set_cons_zero, List.set_cons_succ, i64_w, i32_w]
                          rfl
                        refine pure_ (i := 1) (N := some 34) (v := ?_) (a' := ?_) #[true, true, false, false, false, false, false, false, false, false, false, false, false, false, false, false, false, false, false, false, false, false, false, false, false, false, false, false, false, false, false, false, false, false, false, false, false, false, false, false, false, false, false, false, false, false, false, false, false, false, false] rfl rfl (any_of HT_.out (by kernel_rfl)) (fun _ _ _ h => h) (Or.inl ⟨by rfl, ?_⟩) ?_ ?_
                        rotate_left
                        · intro w'
                          go_simp
                          with_reducible rfl
                        rotate_left
                        · simp only [Act.put, List.setIfInBounds_toArray, List.set_cons_zero, List.set_cons_succ, i64_w, i32_w]
                          rfl
                        refine pure_ (i := 2) (N := some 35) (v := ?_) (a' := ?_) #[true, true, true, false, false, false, false, false, false, false, false, false, false, false, false, false, false, false, false, false, false, false, false, false, false, false, false, false, false, false, false, false, false, false, false, false, false, false, false, false, false, false, false, false, false, false, false, false, false, false, false] rfl rfl (any_of HT_.out (by kernel_rfl)) (fun _ _ _ h => h) (Or.inl ⟨by rfl, ?_⟩) ?_ ?_
                        rotate_left
                        · intro w'
                          go_simp
                          with_reducible rfl
                        rotate_left
                        · simp only [Act.put, List.setIfInBounds_toArray, List.set_cons_zero, List.set_cons_succ, i64_w, i32_w]
                          rfl
                        refine pure_ (i := 5) (N := some 38) (v := ?_) (a' := ?_) #[true, true, true, false, false, true, false, false, false, false, false, false, false, false, false, false, false, false, false, false, false, false, false, false, false, false, false, false, false, false, false, false, false, false, false, false, false, false, false, false, false, false, false, false, false, false, false, false, false, false, false] rfl rfl (any_of HT_.out (by kernel_rfl)) (fun _ _ _ h => h) (Or.inl ⟨by rfl, ?_⟩) ?_ ?_
                        rotate_left
                        · intro w'
                          go_simp
                          with_reducible rfl
                        rotate_left
                        · simp only [Act.put, List.setIfInBounds_toArray, List.set_cons_zero, List.set_cons_succ, i64_w, i32_w]
                          rfl
                        refine pure_ (i := 6) (N := some 39) (v := ?_) (a' := ?_) #[true, true, true, false, false, true, true, false, false, false, false, false, false, false, false, false, false, false, false, false, false, false, false, false, false, false, false, false, false, false, false, false, false, false, false, false, false, false, false, false, false, false, false, false, false, false, false, false, false, false, false] rfl rfl (any_of HT_.out (by kernel_rfl)) (fun _ _ _ h => h) (Or.inl ⟨by rfl, ?_⟩) ?_ ?_
                        rotate_left
                        · intro w'
                          go_simp
                          with_reducible rfl
                        rotate_left
                        · simp only [Act.put, List.setIfInBounds_toArray, List.set_cons_zero, List.set_cons_succ, i64_w, i32_w]
                          rfl
                        refine pure_ (i := 8) (N := some 41) (v := ?_) (a' := ?_) #[true, true, true, false, false, true, true, false, true, false, false, false, false, false, false, false, false, false, false, false, false, false, false, false, false, false, false, false, false, false, false, false, false, false, false, false, false, false, false, false, false, false, false, false, false, false, false, false, false, false, false] rfl rfl (any_of HT_.out (by kernel_rfl)) (fun _ _ _ h => h) (Or.inl ⟨by rfl, ?_⟩) ?_ ?_
                        rotate_left
                        · intro w'
                          go_simp
                          with_reducible rfl
                        rotate_left
                        · simp only [Act.put, List.setIfInBounds_toArray, List.set_cons_zero, List.set_cons_succ, i64_w, i32_w]
                          rfl
                        refine pure_ (i := 9) (N := some 42) (v := ?_) (a' := ?_) #[true, true, true, false, false, true, true, false, true, true, false, false, false, false, false, false, false, false, false, false, false, false, false, false, false, false, false, false, false, false, false, false, false, false, false, false, false, false, false, false, false, false, false, false, false, false, false, false, false, false, false] rfl rfl (any_of HT_.out (by kernel_rfl)) (fun _ _ _ h => h) (Or.inl ⟨by rfl, ?_⟩) ?_ ?_
                        rotate_left
                        · intro w'
                          go_simp
                          with_reducible rfl
                        rotate_left
                        · simp only [Act.put, List.setIfInBounds_toArray, List.set_cons_zero, List.set_cons_succ, i64_w, i32_w]
                          rfl
                        refine take_ (i := 3) (N := some 36) (v := ?_) (a' := ?_) #[true, true, true, true, false, true, true, false, true, true, false, false, false, false, false, false, false, false, false, false, false, false, false, false, false, false, false, false, false, false, false, false, false, false, false, false, false, false, false, false, false, false, false, false, false, false, false, false, false, false, false] rfl rfl (take_ofW HT_.out HW_.out (by kernel_rfl)) (fun _ _ _ h => h) (Or.inl ⟨by rfl, ?_⟩) hHeld ?_ ?_
                        rotate_left
                        · rintro w' ⟨s0, s1, s2, s3, s4, s5, s6, s7, s8, s9, s10, s11, s12, s13, s14, s15, s16, s17, s18, s19, s20, s21, s22, s23, s24, s25, s26, s27, s28, s29, s30, s31⟩
                          go_simp
                          with_reducible rfl
                        rotate_left
                        · simp only [Act.put, List.setIfInBounds_toArray, List.set_cons_zero, List.set_cons_succ, i64_w, i32_w]
                          rfl
                        refine take_ (i := 7) (N := some 40) (v := ?_) (a' := ?_) #[true, true, true, true, false, true, true, true, true, true, false, false, false, false, false, false, false, false, false, false, false, false, false, false, false, false, false, false, false, false, false, false, false, false, false, false, false, false, false, false, false, false, false, false, false, false, false, false, false, false, false] rfl rfl (take_ofW HT_.out HW_.out (by kernel_rfl)) (fun _ _ _ h => h) (Or.inl ⟨by rfl, ?_⟩) hHeld ?_ ?_
                        rotate_left
                        · rintro w' ⟨s0, s1, s2, s3, s4, s5, s6, s7, s8, s9, s10, s11, s12, s13, s14, s15, s16, s17, s18, s19, s20, s21, s22, s23, s24, s25, s26, s27, s28, s29, s30, s31⟩
                          go_simp
                          with_reducible rfl
                        rotate_left
                        · simp only [Act.put, List.setIfInBounds_toArray, List.set_cons_zero, List.set_cons_succ, i64_w, i32_w]
                          rfl
                        refine take_ (i := 10) (N := some 43) (v := ?_) (a' := ?_) #[true, true, true, true, false, true, true, true, true, true, true, false, false, false, false, false, false, false, false, false, false, false, false, false, false, false, false, false, false, false, false, false, false, false, false, false, false, false, false, false, false, false, false, false, false, false, false, false, false, false, false] rfl rfl (take_ofW HT_.out HW_.out (by kernel_rfl)) (fun _ _ _ h => h) (Or.inl ⟨by rfl, ?_⟩) hHeld ?_ ?_
                        rotate_left
                        · rintro w' ⟨s0, s1, s2, s3, s4, s5, s6, s7, s8, s9, s10, s11, s12, s13, s14, s15, s16, s17, s18, s19, s20, s21, s22, s23, s24, s25, s26, s27, s28, s29, s30, s31⟩
                          go_simp
                          with_reducible rfl
                        rotate_left
                        · simp only [Act.put, List.setIfInBounds_toArray, List.set_cons_zero, List.set_cons_succ, i64_w, i32_w]
                          rfl
                        refine join_ (σ := Value × Value) 39 #[true, true, true, true, true, true, true, true, true, true, true, true, false, false, false, false, false, false, false, false, false, false, false, false, false, false, false, false, false, false, false, false, false, false, false, false, false, false, false, false, false, false, false, false, false, false, false, false, false, false, false] (fun s_ => [(37, s_.1), (44, s_.2)]) (fun s_ w' => (w'.cell? ⟨gb132, 0, none⟩ = some (.int .i64 t118) ∧ w'.cell? ⟨gb132, 1, none⟩ = some (.int .i64 t119) ∧ w'.cell? ⟨gb132, 2, none⟩ = some (.int .i64 t120) ∧ w'.cell? ⟨gb132, 3, none⟩ = some (.int .i64 t121) ∧ w'.cell? ⟨gb132, 4, none⟩ = some (.int .i64 t122) ∧ w'.cell? ⟨gb132, 5, none⟩ = some (.int .i64 t123) ∧ w'.cell? ⟨gb132, 6, none⟩ = some (.int .i64 t124) ∧ w'.cell? ⟨gb132, 7, none⟩ = some (.slice Ao25 t125.length co25) ∧ w'.cell? ⟨ad141.block, ad141.off + 8, none⟩ = some (.int .i64 ((rd_T29 y112 1).f0)) ∧ w'.cell? ⟨ad141.block, ad141.off + 8 + 1, none⟩ = some (.int .i64 ((rd_T29 y112 1).f1)) ∧ w'.cell? ⟨ad141.block, ad141.off + 8 + 2, none⟩ = some (.int .i64 ((rd_T29 y112 1).f2)) ∧ w'.cell? ⟨ad141.block, ad141.off + 8 + 3, none⟩ = some (.int .i64 ((rd_T29 y112 1).f3)) ∧ w'.cell? ⟨ad141.block, ad141.off + 8 + 4, none⟩ = some (.int .i64 ((rd_T29 y112 1).f4)) ∧ w'.cell? ⟨ad141.block, ad141.off + 8 + 5, none⟩ = some (.int .i64 ((rd_T29 y112 1).f5)) ∧ w'.cell? ⟨ad141.block, ad141.off + 8 + 6, none⟩ = some (.int .i64 ((rd_T29 y112 1).f6)) ∧ w'.cell? ⟨ad141.block, ad141.off + 8 + 7, none⟩ = some (.slice A141_7 ((rd_T29 y112 1).f7).length c141_7) ∧ w'.cell? ad141 = some (.int .i64 ((rd_T29 y112 0).f0)) ∧ w'.cell? ⟨ad141.block, ad141.off + 1, none⟩ = some (.int .i64 ((rd_T29 y112 0).f1)) ∧ w'.cell? ⟨ad141.block, ad141.off + 2, none⟩ = some (.int .i64 ((rd_T29 y112 0).f2)) ∧ w'.cell? ⟨ad141.block, ad141.off + 3, none⟩ = some (.int .i64 ((rd_T29 y112 0).f3)) ∧ w'.cell? ⟨ad141.block, ad141.off + 4, none⟩ = some (.int .i64 ((rd_T29 y112 0).f4)) ∧ w'.cell? ⟨ad141.block, ad141.off + 5, none⟩ = some (.int .i64 ((rd_T29 y112 0).f5)) ∧ w'.cell? ⟨ad141.block, ad141.off + 6, none⟩ = some (.int .i64 ((rd_T29 y112 0).f6)) ∧ w'.cell? ⟨ad141.block, ad141.off + 7, none⟩ = some (.slice A145_7 ((rd_T29 y112 0).f7).length c145_7) ∧ w'.cell? ⟨ad141.block, ad141.off + 16, none⟩ = some (.int .i64 ((rd_T29 y112 2).f0)) ∧ w'.cell? ⟨ad141.block, ad141.off + 16 + 1, none⟩ = some (.int .i64 ((rd_T29 y112 2).f1)) ∧ w'.cell? ⟨ad141.block, ad141.off + 16 + 2, none⟩ = some (.int .i64 ((rd_T29 y112 2).f2)) ∧ w'.cell? ⟨ad141.block, ad141.off + 16 + 3, none⟩ = some (.int .i64 ((rd_T29 y112 2).f3)) ∧ w'.cell? ⟨ad141.block, ad141.off + 16 + 4, none⟩ = some (.int .i64 ((rd_T29 y112 2).f4)) ∧ w'.cell? ⟨ad141.block, ad141.off + 16 + 5, none⟩ = some (.int .i64 ((rd_T29 y112 2).f5)) ∧ w'.cell? ⟨ad141.block, ad141.off + 16 + 6, none⟩ = some (.int .i64 ((rd_T29 y112 2).f6)) ∧ w'.cell? ⟨ad141.block, ad141.off + 16 + 7, none⟩ = some (.slice A146_7 ((rd_T29 y112 2).f7).length c146_7)) ∧ (Kd.V Kd.string 9 w' w.heap.size (fun k_ => some k_ ≠ (.slice (some ad141) y112.length co20 : Value).ownBlock ∧ some k_ ≠ (.slice Ao28 t115.length co28 : Value).ownBlock ∧ some k_ ≠ (.slice Ao25 t125.length co25 : Value).ownBlock ∧ some k_ ≠ (v129 : Value).ownBlock ∧ some k_ ≠ (v135 : Value).ownBlock ∧ some k_ ≠ (v139 : Value).ownBlock ∧ some k_ ≠ (s_.1 : Value).ownBlock ∧ some k_ ≠ (s_.2 : Value).ownBlock ∧ k_ ≠ gb132) (.slice A141_7 ((rd_T29 y112 1).f7).length c141_7) ((rd_T29 y112 1).f7)) ∧ (Kd.V Kd.string 9 w' w.heap.size (fun k_ => some k_ ≠ (.slice (some ad141) y112.length co20 : Value).ownBlock ∧ some k_ ≠ (.slice Ao28 t115.length co28 : Value).ownBlock ∧ some k_ ≠ (.slice Ao25 t125.length co25 : Value).ownBlock ∧ some k_ ≠ (v129 : Value).ownBlock ∧ some k_ ≠ (v135 : Value).ownBlock ∧ some k_ ≠ (v139 : Value).ownBlock ∧ some k_ ≠ (s_.1 : Value).ownBlock ∧ some k_ ≠ (s_.2 : Value).ownBlock ∧ k_ ≠ gb132) (.slice A145_7 ((rd_T29 y112 0).f7).length c145_7) ((rd_T29 y112 0).f7)) ∧ (Kd.V Kd.string 9 w' w.heap.size (fun k_ => some k_ ≠ (.slice (some ad141) y112.length co20 : Value).ownBlock ∧ some k_ ≠ (.slice Ao28 t115.length co28 : Value).ownBlock ∧ some k_ ≠ (.slice Ao25 t125.length co25 : Value).ownBlock ∧ some k_ ≠ (v129 : Value).ownBlock ∧ some k_ ≠ (v135 : Value).ownBlock ∧ some k_ ≠ (v139 : Value).ownBlock ∧ some k_ ≠ (s_.1 : Value).ownBlock ∧ some k_ ≠ (s_.2 : Value).ownBlock ∧ k_ ≠ gb132) (.slice A146_7 ((rd_T29 y112 2).f7).length c146_7) ((rd_T29 y112 2).f7)) ∧ (Kd.N k29 29 w' w.heap.size (fun k_ => some k_ ≠ (.slice Ao28 t115.length co28 : Value).ownBlock ∧ some k_ ≠ (.slice Ao25 t125.length co25 : Value).ownBlock ∧ some k_ ≠ (v129 : Value).ownBlock ∧ some k_ ≠ (v135 : Value).ownBlock ∧ some k_ ≠ (v139 : Value).ownBlock ∧ some k_ ≠ (s_.1 : Value).ownBlock ∧ some k_ ≠ (s_.2 : Value).ownBlock ∧ k_ ≠ gb132) (.slice (some ad141) y112.length co20) y112) ∧ (Kd.N (Kd.slice 29 k29) 22 w' w.heap.size (fun k_ => some k_ ≠ (.slice (some ad141) y112.length co20 : Value).ownBlock ∧ some k_ ≠ (.slice Ao25 t125.length co25 : Value).ownBlock ∧ some k_ ≠ (v129 : Value).ownBlock ∧ some k_ ≠ (v135 : Value).ownBlock ∧ some k_ ≠ (v139 : Value).ownBlock ∧ some k_ ≠ (s_.1 : Value).ownBlock ∧ some k_ ≠ (s_.2 : Value).ownBlock ∧ k_ ≠ gb132) (.slice Ao28 t115.length co28) t115) ∧ (Kd.R Kd.string 9 w' w.heap.size (fun _ => True) (.slice Ao25 t125.length co25) t125) ∧ (Kd.N k29 29 w' w.heap.size (fun k_ => some k_ ≠ (.slice (some ad141) y112.length co20 : Value).ownBlock ∧ some k_ ≠ (.slice Ao28 t115.length co28 : Value).ownBlock ∧ some k_ ≠ (.slice Ao25 t125.length co25 : Value).ownBlock ∧ some k_ ≠ (v135 : Value).ownBlock ∧ some k_ ≠ (v139 : Value).ownBlock ∧ some k_ ≠ (s_.1 : Value).ownBlock ∧ some k_ ≠ (s_.2 : Value).ownBlock ∧ k_ ≠ gb132) v129 t128) ∧ (Kd.N k29 29 w' w.heap.size (fun k_ => some k_ ≠ (.slice (some ad141) y112.length co20 : Value).ownBlock ∧ some k_ ≠ (.slice Ao28 t115.length co28 : Value).ownBlock ∧ some k_ ≠ (.slice Ao25 t125.length co25 : Value).ownBlock ∧ some k_ ≠ (v129 : Value).ownBlock ∧ some k_ ≠ (v139 : Value).ownBlock ∧ some k_ ≠ (s_.1 : Value).ownBlock ∧ some k_ ≠ (s_.2 : Value).ownBlock ∧ k_ ≠ gb132) v135 t133) ∧ (Kd.N k29 29 w' w.heap.size (fun k_ => some k_ ≠ (.slice (some ad141) y112.length co20 : Value).ownBlock ∧ some k_ ≠ (.slice Ao28 t115.length co28 : Value).ownBlock ∧ some k_ ≠ (.slice Ao25 t125.length co25 : Value).ownBlock ∧ some k_ ≠ (v129 : Value).ownBlock ∧ some k_ ≠ (v135 : Value).ownBlock ∧ some k_ ≠ (s_.1 : Value).ownBlock ∧ some k_ ≠ (s_.2 : Value).ownBlock ∧ k_ ≠ gb132) v139 t137) ∧ (Kd.N k29 29 w' w.heap.size (fun k_ => some k_ ≠ (.slice (some ad141) y112.length co20 : Value).ownBlock ∧ some k_ ≠ (.slice Ao28 t115.length co28 : Value).ownBlock ∧ some k_ ≠ (.slice Ao25 t125.length co25 : Value).ownBlock ∧ some k_ ≠ (v129 : Value).ownBlock ∧ some k_ ≠ (v135 : Value).ownBlock ∧ some k_ ≠ (v139 : Value).ownBlock ∧ some k_ ≠ (s_.2 : Value).ownBlock ∧ k_ ≠ gb132) s_.1 y142) ∧ (Kd.N k29 29 w' w.heap.size (fun k_ => some k_ ≠ (.slice (some ad141) y112.length co20 : Value).ownBlock ∧ some k_ ≠ (.slice Ao28 t115.length co28 : Value).ownBlock ∧ some k_ ≠ (.slice Ao25 t125.length co25 : Value).ownBlock ∧ some k_ ≠ (v129 : Value).ownBlock ∧ some k_ ≠ (v135 : Value).ownBlock ∧ some k_ ≠ (v139 : Value).ownBlock ∧ some k_ ≠ (s_.1 : Value).ownBlock ∧ k_ ≠ gb132) s_.2 y147) ∧ (w'.heap[gb132]? = some (.cells #[.int .i64 t118, .int .i64 t119, .int .i64 t120, .int .i64 t121, .int .i64 t122, .int .i64 t123, .int .i64 t124, .slice Ao25 t125.length co25] 29 (0, 0))) ∧ (Below w.heap.size w w')) ?_ ?_
                        rotate_left
                        · intro hCont
                          refine two_ (i := 4) (j := 11) (Ni := some 37) (Nj := some 44) #[true, true, true, true, true, true, true, true, true, true, true, false, false, false, false, false, false, false, false, false, false, false, false, false, false, false, false, false, false, false, false, false, false, false, false, false, false, false, false, false, false, false, false, false, false, false, false, false, false, false, false] #[true, true, true, true, false, true, true, true, true, true, true, true, false, false, false, false, false, false, false, false, false, false, false, false, false, false, false, false, false, false, false, false, false, false, false, false, false, false, false, false, false, false, false, false, false, false, false, false, false, false, false] rfl rfl rfl rfl (two_of HT_.out (by kernel_rfl)) (by decide) (by decide) (fun K hK => ?_) (fun K hK => ?_)
                          · skip
                            refine Kd.N_lit_step k29 _ 29 ?hg (N' := 37) ?hd (xs := ([(⟨(rd_T29 y112 1).f0, (rd_T29 y112 1).f1, (rd_T29 y112 1).f2, (rd_T29 y112 1).f3, (rd_T29 y112 1).f4, (rd_T29 y112 1).f5, (rd_T29 y112 1).f6, (rd_T29 y112 1).f7⟩ : S29)] : List (S29))) (inner := [.int .i64 ((rd_T29 y112 1).f0), .int .i64 ((rd_T29 y112 1).f1), .int .i64 ((rd_T29 y112 1).f2), .int .i64 ((rd_T29 y112 1).f3), .int .i64 ((rd_T29 y112 1).f4), .int .i64 ((rd_T29 y112 1).f5), .int .i64 ((rd_T29 y112 1).f6), .slice A141_7 ((rd_T29 y112 1).f7).length c141_7]) (ok := (fun k_ => some k_ ≠ (.slice (some ad141) y112.length co20 : Value).ownBlock ∧ some k_ ≠ (.slice Ao28 t115.length co28 : Value).ownBlock ∧ some k_ ≠ (.slice Ao25 t125.length co25 : Value).ownBlock ∧ some k_ ≠ (v129 : Value).ownBlock ∧ some k_ ≠ (v135 : Value).ownBlock ∧ some k_ ≠ (v139 : Value).ownBlock ∧ k_ ≠ gb132)) (okp := (fun k_ => some k_ ≠ (.slice (some ad141) y112.length co20 : Value).ownBlock ∧ some k_ ≠ (.slice Ao28 t115.length co28 : Value).ownBlock ∧ some k_ ≠ (.slice Ao25 t125.length co25 : Value).ownBlock ∧ some k_ ≠ (v129 : Value).ownBlock ∧ some k_ ≠ (v135 : Value).ownBlock ∧ some k_ ≠ (v139 : Value).ownBlock ∧ k_ ≠ gb132)) ?hr ?hp (fun _ hk => hk) ((show ∀ k_, w29.heap.size ≤ k_ → (fun k_ => some k_ ≠ (.slice (some ad141) y112.length co20 : Value).ownBlock ∧ some k_ ≠ (.slice Ao28 t115.length co28 : Value).ownBlock ∧ some k_ ≠ (.slice Ao25 t125.length co25 : Value).ownBlock ∧ some k_ ≠ (v129 : Value).ownBlock ∧ some k_ ≠ (v135 : Value).ownBlock ∧ some k_ ≠ (v139 : Value).ownBlock ∧ k_ ≠ gb132) k_ from fun k_ hk => ⟨Kd.fresh' (Kd.N_lt (by (with_reducible repeat (first | apply Kd.N_alloc | apply Kd.N_drewN | apply Kd.N_drew)); exact HO114.out)) k_ hk, Kd.fresh' (Kd.N_lt (by (with_reducible repeat (first | apply Kd.N_alloc | apply Kd.N_drewN | apply Kd.N_drew)); exact HO117.out)) k_ hk, Kd.fresh' (Kd.R_lt (by (with_reducible repeat (first | apply Kd.R_alloc | apply Kd.R_drewN | apply Kd.R_drew)); exact HO127.out)) k_ hk, Kd.fresh' (Kd.N_lt (by (with_reducible repeat (first | apply Kd.N_alloc | apply Kd.N_drewN | apply Kd.N_drew)); exact HO130.out)) k_ hk, Kd.fresh' (Kd.N_lt (by (with_reducible repeat (first | apply Kd.N_alloc | apply Kd.N_drewN | apply Kd.N_drew)); exact HO136.out)) k_ hk, Kd.fresh' (Kd.N_lt (by (with_reducible repeat (first | apply Kd.N_alloc | apply Kd.N_drewN | apply Kd.N_drew)); exact HO140.out)) k_ hk, Kd.freshB (g := gb132) (o := .cells #[.int .i64 t118, .int .i64 t119, .int .i64 t120, .int .i64 t121, .int .i64 t122, .int .i64 t123, .int .i64 t124, .slice Ao25 t125.length co25] 29 (0, 0)) (by (with_reducible repeat (first | refine blk_drewN ?_ _ | refine blk_drew ?_ | refine blk_alloc ?_ _)); exact BK132.out) k_ hk⟩) _ (Nat.le_refl _)) (Below.refl _ _) (Nat.le_refl _) (by simp) ?_; (case hd => rfl); (case hg => rfl); (case hr => first | (go_simp; done) | (go_simp; rfl)); (case hp => exact (Reps.c8 (show Kd.FK k29 _ _ (⟨(rd_T29 y112 1).f0, (rd_T29 y112 1).f1, (rd_T29 y112 1).f2, (rd_T29 y112 1).f3, (rd_T29 y112 1).f4, (rd_T29 y112 1).f5, (rd_T29 y112 1).f6, (rd_T29 y112 1).f7⟩ : S29) [.int .i64 ((rd_T29 y112 1).f0), .int .i64 ((rd_T29 y112 1).f1), .int .i64 ((rd_T29 y112 1).f2), .int .i64 ((rd_T29 y112 1).f3), .int .i64 ((rd_T29 y112 1).f4), .int .i64 ((rd_T29 y112 1).f5), .int .i64 ((rd_T29 y112 1).f6), .slice A141_7 ((rd_T29 y112 1).f7).length c141_7] from (k29_mkF _ _ (⟨(rd_T29 y112 1).f0, (rd_T29 y112 1).f1, (rd_T29 y112 1).f2, (rd_T29 y112 1).f3, (rd_T29 y112 1).f4, (rd_T29 y112 1).f5, (rd_T29 y112 1).f6, (rd_T29 y112 1).f7⟩ : S29) (Kd.V_reads' (Kd.V_mono (ok' := (fun k_ => some k_ ≠ (.slice (some ad141) y112.length co20 : Value).ownBlock ∧ some k_ ≠ (.slice Ao28 t115.length co28 : Value).ownBlock ∧ some k_ ≠ (.slice Ao25 t125.length co25 : Value).ownBlock ∧ some k_ ≠ (v129 : Value).ownBlock ∧ some k_ ≠ (v135 : Value).ownBlock ∧ some k_ ≠ (v139 : Value).ownBlock ∧ k_ ≠ gb132)) (HL141_7.out) (fun k_ hk => ⟨hk.2, ⟨hk.1.1.1.1.1.1.2, ⟨hk.1.1.1.1.1.2, ⟨hk.1.1.1.1.2, ⟨hk.1.1.2, ⟨hk.1.2, hk.1.1.1.2⟩⟩⟩⟩⟩⟩))).2.1 (Kd.V_F (Kd.V_mono (ok' := (fun k_ => some k_ ≠ (.slice (some ad141) y112.length co20 : Value).ownBlock ∧ some k_ ≠ (.slice Ao28 t115.length co28 : Value).ownBlock ∧ some k_ ≠ (.slice Ao25 t125.length co25 : Value).ownBlock ∧ some k_ ≠ (v129 : Value).ownBlock ∧ some k_ ≠ (v135 : Value).ownBlock ∧ some k_ ≠ (v139 : Value).ownBlock ∧ k_ ≠ gb132)) (HL141_7.out) (fun k_ hk => ⟨hk.2, ⟨hk.1.1.1.1.1.1.2, ⟨hk.1.1.1.1.1.2, ⟨hk.1.1.1.1.2, ⟨hk.1.1.2, ⟨hk.1.2, hk.1.1.1.2⟩⟩⟩⟩⟩⟩))))) (Reps.none _ _)))
                            intro v143 w30 ho31 hb hg_ hnew_
                            have HS8_ := (hb.cell (World.block_lt_of_cell? _ _ (hHeld.2.2.2.2.2.2.2.2.1))).trans (hHeld.2.2.2.2.2.2.2.2.1)
                            have HS9_ := (hb.cell (World.block_lt_of_cell? _ _ (hHeld.2.2.2.2.2.2.2.2.2.1))).trans (hHeld.2.2.2.2.2.2.2.2.2.1)
                            have HS10_ := (hb.cell (World.block_lt_of_cell? _ _ (hHeld.2.2.2.2.2.2.2.2.2.2.1))).trans (hHeld.2.2.2.2.2.2.2.2.2.2.1)
                            have HS11_ := (hb.cell (World.block_lt_of_cell? _ _ (hHeld.2.2.2.2.2.2.2.2.2.2.2.1))).trans (hHeld.2.2.2.2.2.2.2.2.2.2.2.1)
                            have HS12_ := (hb.cell (World.block_lt_of_cell? _ _ (hHeld.2.2.2.2.2.2.2.2.2.2.2.2.1))).trans (hHeld.2.2.2.2.2.2.2.2.2.2.2.2.1)
                            have HS13_ := (hb.cell (World.block_lt_of_cell? _ _ (hHeld.2.2.2.2.2.2.2.2.2.2.2.2.2.1))).trans (hHeld.2.2.2.2.2.2.2.2.2.2.2.2.2.1)
                            have HS14_ := (hb.cell (World.block_lt_of_cell? _ _ (hHeld.2.2.2.2.2.2.2.2.2.2.2.2.2.2.1))).trans (hHeld.2.2.2.2.2.2.2.2.2.2.2.2.2.2.1)
                            have HS15_ := (hb.cell (World.block_lt_of_cell? _ _ (hHeld.2.2.2.2.2.2.2.2.2.2.2.2.2.2.2.1))).trans (hHeld.2.2.2.2.2.2.2.2.2.2.2.2.2.2.2.1)
                            have HS16_ := (hb.cell (World.block_lt_of_cell? _ _ (hHeld.2.2.2.2.2.2.2.2.2.2.2.2.2.2.2.2.1))).trans (hHeld.2.2.2.2.2.2.2.2.2.2.2.2.2.2.2.2.1)
                            have HS17_ := (hb.cell (World.block_lt_of_cell? _ _ (hHeld.2.2.2.2.2.2.2.2.2.2.2.2.2.2.2.2.2.1))).trans (hHeld.2.2.2.2.2.2.2.2.2.2.2.2.2.2.2.2.2.1)
                            have HS18_ := (hb.cell (World.block_lt_of_cell? _ _ (hHeld.2.2.2.2.2.2.2.2.2.2.2.2.2.2.2.2.2.2.1))).trans (hHeld.2.2.2.2.2.2.2.2.2.2.2.2.2.2.2.2.2.2.1)
                            have HS19_ := (hb.cell (World.block_lt_of_cell? _ _ (hHeld.2.2.2.2.2.2.2.2.2.2.2.2.2.2.2.2.2.2.2.1))).trans (hHeld.2.2.2.2.2.2.2.2.2.2.2.2.2.2.2.2.2.2.2.1)
                            have HS20_ := (hb.cell (World.block_lt_of_cell? _ _ (hHeld.2.2.2.2.2.2.2.2.2.2.2.2.2.2.2.2.2.2.2.2.1))).trans (hHeld.2.2.2.2.2.2.2.2.2.2.2.2.2.2.2.2.2.2.2.2.1)
                            have HS21_ := (hb.cell (World.block_lt_of_cell? _ _ (hHeld.2.2.2.2.2.2.2.2.2.2.2.2.2.2.2.2.2.2.2.2.2.1))).trans (hHeld.2.2.2.2.2.2.2.2.2.2.2.2.2.2.2.2.2.2.2.2.2.1)
                            have HS22_ := (hb.cell (World.block_lt_of_cell? _ _ (hHeld.2.2.2.2.2.2.2.2.2.2.2.2.2.2.2.2.2.2.2.2.2.2.1))).trans (hHeld.2.2.2.2.2.2.2.2.2.2.2.2.2.2.2.2.2.2.2.2.2.2.1)
                            have HS23_ := (hb.cell (World.block_lt_of_cell? _ _ (hHeld.2.2.2.2.2.2.2.2.2.2.2.2.2.2.2.2.2.2.2.2.2.2.2.1))).trans (hHeld.2.2.2.2.2.2.2.2.2.2.2.2.2.2.2.2.2.2.2.2.2.2.2.1)
                            have HS24_ := (hb.cell (World.block_lt_of_cell? _ _ (hHeld.2.2.2.2.2.2.2.2.2.2.2.2.2.2.2.2.2.2.2.2.2.2.2.2.1))).trans (hHeld.2.2.2.2.2.2.2.2.2.2.2.2.2.2.2.2.2.2.2.2.2.2.2.2.1)
                            have HS25_ := (hb.cell (World.block_lt_of_cell? _ _ (hHeld.2.2.2.2.2.2.2.2.2.2.2.2.2.2.2.2.2.2.2.2.2.2.2.2.2.1))).trans (hHeld.2.2.2.2.2.2.2.2.2.2.2.2.2.2.2.2.2.2.2.2.2.2.2.2.2.1)
                            have HS26_ := (hb.cell (World.block_lt_of_cell? _ _ (hHeld.2.2.2.2.2.2.2.2.2.2.2.2.2.2.2.2.2.2.2.2.2.2.2.2.2.2.1))).trans (hHeld.2.2.2.2.2.2.2.2.2.2.2.2.2.2.2.2.2.2.2.2.2.2.2.2.2.2.1)
                            have HS27_ := (hb.cell (World.block_lt_of_cell? _ _ (hHeld.2.2.2.2.2.2.2.2.2.2.2.2.2.2.2.2.2.2.2.2.2.2.2.2.2.2.2.1))).trans (hHeld.2.2.2.2.2.2.2.2.2.2.2.2.2.2.2.2.2.2.2.2.2.2.2.2.2.2.2.1)
                            have HS28_ := (hb.cell (World.block_lt_of_cell? _ _ (hHeld.2.2.2.2.2.2.2.2.2.2.2.2.2.2.2.2.2.2.2.2.2.2.2.2.2.2.2.2.1))).trans (hHeld.2.2.2.2.2.2.2.2.2.2.2.2.2.2.2.2.2.2.2.2.2.2.2.2.2.2.2.2.1)
                            have HS29_ := (hb.cell (World.block_lt_of_cell? _ _ (hHeld.2.2.2.2.2.2.2.2.2.2.2.2.2.2.2.2.2.2.2.2.2.2.2.2.2.2.2.2.2.1))).trans (hHeld.2.2.2.2.2.2.2.2.2.2.2.2.2.2.2.2.2.2.2.2.2.2.2.2.2.2.2.2.2.1)
                            have HS30_ := (hb.cell (World.block_lt_of_cell? _ _ (hHeld.2.2.2.2.2.2.2.2.2.2.2.2.2.2.2.2.2.2.2.2.2.2.2.2.2.2.2.2.2.2.1))).trans (hHeld.2.2.2.2.2.2.2.2.2.2.2.2.2.2.2.2.2.2.2.2.2.2.2.2.2.2.2.2.2.2.1)
                            have HS31_ := (hb.cell (World.block_lt_of_cell? _ _ (hHeld.2.2.2.2.2.2.2.2.2.2.2.2.2.2.2.2.2.2.2.2.2.2.2.2.2.2.2.2.2.2.2))).trans (hHeld.2.2.2.2.2.2.2.2.2.2.2.2.2.2.2.2.2.2.2.2.2.2.2.2.2.2.2.2.2.2.2)
                            clear hg_ hnew_
                            (first | rw [← Ny142.out] at ho31 | (simp only [Int.reduceToNat] at ho31; rw [← Ny142.out] at ho31))
                            have n0_ := Aside0.mk (Kd.N_elder' (by (with_reducible repeat (first | apply Kd.N_alloc | apply Kd.N_drewN | apply Kd.N_drew)); exact HO114.out) (Kd.N_base ho31) hb)
                            have n1_ := Aside0.mk (Kd.N_elder' (by (with_reducible repeat (first | apply Kd.N_alloc | apply Kd.N_drewN | apply Kd.N_drew)); exact HO117.out) (Kd.N_base ho31) hb)
                            have n2_ := Aside0.mk (Kd.R_below (by (with_reducible repeat (first | apply Kd.R_alloc | apply Kd.R_drewN | apply Kd.R_drew)); exact HO127.out) hb)
                            have n3_ := Aside0.mk (Kd.N_elder' (by (with_reducible repeat (first | apply Kd.N_alloc | apply Kd.N_drewN | apply Kd.N_drew)); exact HO130.out) (Kd.N_base ho31) hb)
                            have n4_ := Aside0.mk (Kd.N_elder' (by (with_reducible repeat (first | apply Kd.N_alloc | apply Kd.N_drewN | apply Kd.N_drew)); exact HO136.out) (Kd.N_base ho31) hb)
                            have n5_ := Aside0.mk (Kd.N_elder' (by (with_reducible repeat (first | apply Kd.N_alloc | apply Kd.N_drewN | apply Kd.N_drew)); exact HO140.out) (Kd.N_base ho31) hb)
                            have n6_ := Aside0.mk (Kd.V_elder' (by (with_reducible repeat (first | apply Kd.V_alloc | apply Kd.V_drewN | apply Kd.V_drew)); exact HL141_7.out) (Kd.N_base ho31) hb)
                            have n7_ := Aside0.mk (Kd.V_elder' (by (with_reducible repeat (first | apply Kd.V_alloc | apply Kd.V_drewN | apply Kd.V_drew)); exact HL145_7.out) (Kd.N_base ho31) hb)
                            have n8_ := Aside0.mk (Kd.V_elder' (by (with_reducible repeat (first | apply Kd.V_alloc | apply Kd.V_drewN | apply Kd.V_drew)); exact HL146_7.out) (Kd.N_base ho31) hb)
                            have n9_ := Aside0.mk (Kd.N_lower ho31 (below_size (by repeat (first | (with_reducible first | exact HB.out | apply below_alloc | apply pw_below_drewN | apply below_drew1 | refine below_set ?_ GE132.out) | exact HB.out))))
                            have n10_ := Aside0.mk (blk_below (g := gb132) (o := .cells #[.int .i64 t118, .int .i64 t119, .int .i64 t120, .int .i64 t121, .int .i64 t122, .int .i64 t123, .int .i64 t124, .slice Ao25 t125.length co25] 29 (0, 0)) (by (with_reducible repeat (first | refine blk_drewN ?_ _ | refine blk_drew ?_ | refine blk_alloc ?_ _)); exact BK132.out) hb)
                            have n11_ := Aside0.mk (Kd.C_below (by repeat (first | (with_reducible exact HR141_7.out) | (with_reducible refine Kd.C_alloc ?_ _) | (with_reducible refine Kd.C_drewN ?_ _) | (with_reducible refine Kd.C_drew ?_) | exact HR141_7.out)) hb)
                            have n12_ := Aside0.mk (Kd.C_below (by repeat (first | (with_reducible exact HR145_7.out) | (with_reducible refine Kd.C_alloc ?_ _) | (with_reducible refine Kd.C_drewN ?_ _) | (with_reducible refine Kd.C_drew ?_) | exact HR145_7.out)) hb)
                            have n13_ := Aside0.mk (Kd.C_below (by repeat (first | (with_reducible exact HR146_7.out) | (with_reducible refine Kd.C_alloc ?_ _) | (with_reducible refine Kd.C_drewN ?_ _) | (with_reducible refine Kd.C_drew ?_) | exact HR146_7.out)) hb)
                            have n14_ := Aside0.mk (below_step (by repeat (first | (with_reducible first | exact HB.out | apply below_alloc | apply pw_below_drewN | apply below_drew1 | refine below_set ?_ GE132.out) | exact HB.out)) hb)
                            clear HO114
                            clear HO117
                            clear HO127
                            clear HO130
                            clear HO136
                            clear HO140
                            clear HL141_7
                            clear HL145_7
                            clear HL146_7
                            clear BK132
                            clear HR141_7
                            clear HR145_7
                            clear HR146_7
                            clear HB
                            have HO114 := n0_
                            have HO117 := n1_
                            have HO127 := n2_
                            have HO130 := n3_
                            have HO136 := n4_
                            have HO140 := n5_
                            have HL141_7 := n6_
                            have HL145_7 := n7_
                            have HL146_7 := n8_
                            have HO144 := n9_
                            have BK132 := n10_
                            have HR141_7 := n11_
                            have HR145_7 := n12_
                            have HR146_7 := n13_
                            have HB := n14_
                            clear n0_ n1_ n2_ n3_ n4_ n5_ n6_ n7_ n8_ n9_ n10_ n11_ n12_ n13_ n14_
                            clear hb ho31
                            refine hK.out _ _ ⟨(blk_cell BK132.out 0).trans rfl, (blk_cell BK132.out 1).trans rfl, (blk_cell BK132.out 2).trans rfl, (blk_cell BK132.out 3).trans rfl, (blk_cell BK132.out 4).trans rfl, (blk_cell BK132.out 5).trans rfl, (blk_cell BK132.out 6).trans rfl, (blk_cell BK132.out 7).trans rfl, HS8_, HS9_, HS10_, HS11_, HS12_, HS13_, HS14_, HS15_, HS16_, HS17_, HS18_, HS19_, HS20_, HS21_, HS22_, HS23_, HS24_, HS25_, HS26_, HS27_, HS28_, HS29_, HS30_, HS31_⟩ (fun hHeld => ?_)
                            clear hK K
                            refine norm_ (a' := ?_) ?_ ?_
                            rotate_left
                            · show Act.put _ (some 37) _ = _
                              simp only [Act.put, List.setIfInBounds_toArray, List.set_cons_zero, List.set_cons_succ, i64_w, i32_w]
                              rfl
                            refine one_ (i := 11) (N := some 44) #[true, true, true, true, true, true, true, true, true, true, true, true, false, false, false, false, false, false, false, false, false, false, false, false, false, false, false, false, false, false, false, false, false, false, false, false, false, false, false, false, false, false, false, false, false, false, false, false, false, false, false] rfl rfl (one_of HT_.out (by kernel_rfl)) (by decide) (fun K hK => ?_)
                            refine Kd.N_lit_step k29 _ 29 ?hg (N' := 44) ?hd (xs := ([(⟨(rd_T29 y112 0).f0, (rd_T29 y112 0).f1, (rd_T29 y112 0).f2, (rd_T29 y112 0).f3, (rd_T29 y112 0).f4, (rd_T29 y112 0).f5, (rd_T29 y112 0).f6, (rd_T29 y112 0).f7⟩ : S29), (⟨(rd_T29 y112 2).f0, (rd_T29 y112 2).f1, (rd_T29 y112 2).f2, (rd_T29 y112 2).f3, (rd_T29 y112 2).f4, (rd_T29 y112 2).f5, (rd_T29 y112 2).f6, (rd_T29 y112 2).f7⟩ : S29)] : List (S29))) (inner := [.int .i64 ((rd_T29 y112 0).f0), .int .i64 ((rd_T29 y112 0).f1), .int .i64 ((rd_T29 y112 0).f2), .int .i64 ((rd_T29 y112 0).f3), .int .i64 ((rd_T29 y112 0).f4), .int .i64 ((rd_T29 y112 0).f5), .int .i64 ((rd_T29 y112 0).f6), .slice A145_7 ((rd_T29 y112 0).f7).length c145_7, .int .i64 ((rd_T29 y112 2).f0), .int .i64 ((rd_T29 y112 2).f1), .int .i64 ((rd_T29 y112 2).f2), .int .i64 ((rd_T29 y112 2).f3), .int .i64 ((rd_T29 y112 2).f4), .int .i64 ((rd_T29 y112 2).f5), .int .i64 ((rd_T29 y112 2).f6), .slice A146_7 ((rd_T29 y112 2).f7).length c146_7]) (ok := (fun k_ => some k_ ≠ (.slice (some ad141) y112.length co20 : Value).ownBlock ∧ some k_ ≠ (.slice Ao28 t115.length co28 : Value).ownBlock ∧ some k_ ≠ (.slice Ao25 t125.length co25 : Value).ownBlock ∧ some k_ ≠ (v129 : Value).ownBlock ∧ some k_ ≠ (v135 : Value).ownBlock ∧ some k_ ≠ (v139 : Value).ownBlock ∧ some k_ ≠ (v143 : Value).ownBlock ∧ k_ ≠ gb132)) (okp := (fun k_ => some k_ ≠ (.slice (some ad141) y112.length co20 : Value).ownBlock ∧ some k_ ≠ (.slice Ao28 t115.length co28 : Value).ownBlock ∧ some k_ ≠ (.slice Ao25 t125.length co25 : Value).ownBlock ∧ some k_ ≠ (v129 : Value).ownBlock ∧ some k_ ≠ (v135 : Value).ownBlock ∧ some k_ ≠ (v139 : Value).ownBlock ∧ some k_ ≠ (v143 : Value).ownBlock ∧ k_ ≠ gb132)) ?hr ?hp (fun _ hk => hk) ((show ∀ k_, w30.heap.size ≤ k_ → (fun k_ => some k_ ≠ (.slice (some ad141) y112.length co20 : Value).ownBlock ∧ some k_ ≠ (.slice Ao28 t115.length co28 : Value).ownBlock ∧ some k_ ≠ (.slice Ao25 t125.length co25 : Value).ownBlock ∧ some k_ ≠ (v129 : Value).ownBlock ∧ some k_ ≠ (v135 : Value).ownBlock ∧ some k_ ≠ (v139 : Value).ownBlock ∧ some k_ ≠ (v143 : Value).ownBlock ∧ k_ ≠ gb132) k_ from fun k_ hk => ⟨Kd.fresh' (Kd.N_lt (by (with_reducible repeat (first | apply Kd.N_alloc | apply Kd.N_drewN | apply Kd.N_drew)); exact HO114.out)) k_ hk, Kd.fresh' (Kd.N_lt (by (with_reducible repeat (first | apply Kd.N_alloc | apply Kd.N_drewN | apply Kd.N_drew)); exact HO117.out)) k_ hk, Kd.fresh' (Kd.R_lt (by (with_reducible repeat (first | apply Kd.R_alloc | apply Kd.R_drewN | apply Kd.R_drew)); exact HO127.out)) k_ hk, Kd.fresh' (Kd.N_lt (by (with_reducible repeat (first | apply Kd.N_alloc | apply Kd.N_drewN | apply Kd.N_drew)); exact HO130.out)) k_ hk, Kd.fresh' (Kd.N_lt (by (with_reducible repeat (first | apply Kd.N_alloc | apply Kd.N_drewN | apply Kd.N_drew)); exact HO136.out)) k_ hk, Kd.fresh' (Kd.N_lt (by (with_reducible repeat (first | apply Kd.N_alloc | apply Kd.N_drewN | apply Kd.N_drew)); exact HO140.out)) k_ hk, Kd.fresh' (Kd.N_lt (by (with_reducible repeat (first | apply Kd.N_alloc | apply Kd.N_drewN | apply Kd.N_drew)); exact HO144.out)) k_ hk, Kd.freshB (g := gb132) (o := .cells #[.int .i64 t118, .int .i64 t119, .int .i64 t120, .int .i64 t121, .int .i64 t122, .int .i64 t123, .int .i64 t124, .slice Ao25 t125.length co25] 29 (0, 0)) (by (with_reducible repeat (first | refine blk_drewN ?_ _ | refine blk_drew ?_ | refine blk_alloc ?_ _)); exact BK132.out) k_ hk⟩) _ (Nat.le_refl _)) (Below.refl _ _) (Nat.le_refl _) (by simp) ?_; (case hd => rfl); (case hg => rfl); (case hr => first | (go_simp; done) | (go_simp; rfl)); (case hp => exact (Reps.c8 (show Kd.FK k29 _ _ (⟨(rd_T29 y112 0).f0, (rd_T29 y112 0).f1, (rd_T29 y112 0).f2, (rd_T29 y112 0).f3, (rd_T29 y112 0).f4, (rd_T29 y112 0).f5, (rd_T29 y112 0).f6, (rd_T29 y112 0).f7⟩ : S29) [.int .i64 ((rd_T29 y112 0).f0), .int .i64 ((rd_T29 y112 0).f1), .int .i64 ((rd_T29 y112 0).f2), .int .i64 ((rd_T29 y112 0).f3), .int .i64 ((rd_T29 y112 0).f4), .int .i64 ((rd_T29 y112 0).f5), .int .i64 ((rd_T29 y112 0).f6), .slice A145_7 ((rd_T29 y112 0).f7).length c145_7] from (k29_mkF _ _ (⟨(rd_T29 y112 0).f0, (rd_T29 y112 0).f1, (rd_T29 y112 0).f2, (rd_T29 y112 0).f3, (rd_T29 y112 0).f4, (rd_T29 y112 0).f5, (rd_T29 y112 0).f6, (rd_T29 y112 0).f7⟩ : S29) (Kd.V_reads' (Kd.V_mono (ok' := (fun k_ => some k_ ≠ (.slice (some ad141) y112.length co20 : Value).ownBlock ∧ some k_ ≠ (.slice Ao28 t115.length co28 : Value).ownBlock ∧ some k_ ≠ (.slice Ao25 t125.length co25 : Value).ownBlock ∧ some k_ ≠ (v129 : Value).ownBlock ∧ some k_ ≠ (v135 : Value).ownBlock ∧ some k_ ≠ (v139 : Value).ownBlock ∧ some k_ ≠ (v143 : Value).ownBlock ∧ k_ ≠ gb132)) (HL145_7.out) (fun k_ hk => ⟨hk.1.2, ⟨hk.1.1.1.1.1.1.1.2, ⟨hk.1.1.1.1.1.1.2, ⟨hk.1.1.1.1.1.2, ⟨hk.1.1.1.2, ⟨hk.1.1.2, ⟨hk.2, hk.1.1.1.1.2⟩⟩⟩⟩⟩⟩⟩))).2.1 (Kd.V_F (Kd.V_mono (ok' := (fun k_ => some k_ ≠ (.slice (some ad141) y112.length co20 : Value).ownBlock ∧ some k_ ≠ (.slice Ao28 t115.length co28 : Value).ownBlock ∧ some k_ ≠ (.slice Ao25 t125.length co25 : Value).ownBlock ∧ some k_ ≠ (v129 : Value).ownBlock ∧ some k_ ≠ (v135 : Value).ownBlock ∧ some k_ ≠ (v139 : Value).ownBlock ∧ some k_ ≠ (v143 : Value).ownBlock ∧ k_ ≠ gb132)) (HL145_7.out) (fun k_ hk => ⟨hk.1.2, ⟨hk.1.1.1.1.1.1.1.2, ⟨hk.1.1.1.1.1.1.2, ⟨hk.1.1.1.1.1.2, ⟨hk.1.1.1.2, ⟨hk.1.1.2, ⟨hk.2, hk.1.1.1.1.2⟩⟩⟩⟩⟩⟩⟩))))) (Reps.c8 (show Kd.FK k29 _ _ (⟨(rd_T29 y112 2).f0, (rd_T29 y112 2).f1, (rd_T29 y112 2).f2, (rd_T29 y112 2).f3, (rd_T29 y112 2).f4, (rd_T29 y112 2).f5, (rd_T29 y112 2).f6, (rd_T29 y112 2).f7⟩ : S29) [.int .i64 ((rd_T29 y112 2).f0), .int .i64 ((rd_T29 y112 2).f1), .int .i64 ((rd_T29 y112 2).f2), .int .i64 ((rd_T29 y112 2).f3), .int .i64 ((rd_T29 y112 2).f4), .int .i64 ((rd_T29 y112 2).f5), .int .i64 ((rd_T29 y112 2).f6), .slice A146_7 ((rd_T29 y112 2).f7).length c146_7] from (k29_mkF _ _ (⟨(rd_T29 y112 2).f0, (rd_T29 y112 2).f1, (rd_T29 y112 2).f2, (rd_T29 y112 2).f3, (rd_T29 y112 2).f4, (rd_T29 y112 2).f5, (rd_T29 y112 2).f6, (rd_T29 y112 2).f7⟩ : S29) (Kd.V_reads' (Kd.V_mono (ok' := (fun k_ => some k_ ≠ (.slice (some ad141) y112.length co20 : Value).ownBlock ∧ some k_ ≠ (.slice Ao28 t115.length co28 : Value).ownBlock ∧ some k_ ≠ (.slice Ao25 t125.length co25 : Value).ownBlock ∧ some k_ ≠ (v129 : Value).ownBlock ∧ some k_ ≠ (v135 : Value).ownBlock ∧ some k_ ≠ (v139 : Value).ownBlock ∧ some k_ ≠ (v143 : Value).ownBlock ∧ k_ ≠ gb132)) (HL146_7.out) (fun k_ hk => ⟨hk.1.2, ⟨hk.1.1.1.1.1.1.1.2, ⟨hk.1.1.1.1.1.1.2, ⟨hk.1.1.1.1.1.2, ⟨hk.1.1.1.2, ⟨hk.1.1.2, ⟨hk.2, hk.1.1.1.1.2⟩⟩⟩⟩⟩⟩⟩))).2.1 (Kd.V_F (Kd.V_mono (ok' := (fun k_ => some k_ ≠ (.slice (some ad141) y112.length co20 : Value).ownBlock ∧ some k_ ≠ (.slice Ao28 t115.length co28 : Value).ownBlock ∧ some k_ ≠ (.slice Ao25 t125.length co25 : Value).ownBlock ∧ some k_ ≠ (v129 : Value).ownBlock ∧ some k_ ≠ (v135 : Value).ownBlock ∧ some k_ ≠ (v139 : Value).ownBlock ∧ some k_ ≠ (v143 : Value).ownBlock ∧ k_ ≠ gb132)) (HL146_7.out) (fun k_ hk => ⟨hk.1.2, ⟨hk.1.1.1.1.1.1.1.2, ⟨hk.1.1.1.1.1.1.2, ⟨hk.1.1.1.1.1.2, ⟨hk.1.1.1.2, ⟨hk.1.1.2, ⟨hk.2, hk.1.1.1.1.2⟩⟩⟩⟩⟩⟩⟩))))) (Reps.none _ _))))
                            intro v148 w32 ho33 hb hg_ hnew_
                            have HS8_ := (hb.cell (World.block_lt_of_cell? _ _ (hHeld.2.2.2.2.2.2.2.2.1))).trans (hHeld.2.2.2.2.2.2.2.2.1)
                            have HS9_ := (hb.cell (World.block_lt_of_cell? _ _ (hHeld.2.2.2.2.2.2.2.2.2.1))).trans (hHeld.2.2.2.2.2.2.2.2.2.1)
                            have HS10_ := (hb.cell (World.block_lt_of_cell? _ _ (hHeld.2.2.2.2.2.2.2.2.2.2.1))).trans (hHeld.2.2.2.2.2.2.2.2.2.2.1)
                            have HS11_ := (hb.cell (World.block_lt_of_cell? _ _ (hHeld.2.2.2.2.2.2.2.2.2.2.2.1))).trans (hHeld.2.2.2.2.2.2.2.2.2.2.2.1)
                            have HS12_ := (hb.cell (World.block_lt_of_cell? _ _ (hHeld.2.2.2.2.2.2.2.2.2.2.2.2.1))).trans (hHeld.2.2.2.2.2.2.2.2.2.2.2.2.1)
                            have HS13_ := (hb.cell (World.block_lt_of_cell? _ _ (hHeld.2.2.2.2.2.2.2.2.2.2.2.2.2.1))).trans (hHeld.2.2.2.2.2.2.2.2.2.2.2.2.2.1)
                            have HS14_ := (hb.cell (World.block_lt_of_cell? _ _ (hHeld.2.2.2.2.2.2.2.2.2.2.2.2.2.2.1))).trans (hHeld.2.2.2.2.2.2.2.2.2.2.2.2.2.2.1)
                            have HS15_ := (hb.cell (World.block_lt_of_cell? _ _ (hHeld.2.2.2.2.2.2.2.2.2.2.2.2.2.2.2.1))).trans (hHeld.2.2.2.2.2.2.2.2.2.2.2.2.2.2.2.1)
                            have HS16_ := (hb.cell (World.block_lt_of_cell? _ _ (hHeld.2.2.2.2.2.2.2.2.2.2.2.2.2.2.2.2.1))).trans (hHeld.2.2.2.2.2.2.2.2.2.2.2.2.2.2.2.2.1)
                            have HS17_ := (hb.cell (World.block_lt_of_cell? _ _ (hHeld.2.2.2.2.2.2.2.2.2.2.2.2.2.2.2.2.2.1))).trans (hHeld.2.2.2.2.2.2.2.2.2.2.2.2.2.2.2.2.2.1)
                            have HS18_ := (hb.cell (World.block_lt_of_cell? _ _ (hHeld.2.2.2.2.2.2.2.2.2.2.2.2.2.2.2.2.2.2.1))).trans (hHeld.2.2.2.2.2.2.2.2.2.2.2.2.2.2.2.2.2.2.1)
                            have HS19_ := (hb.cell (World.block_lt_of_cell? _ _ (hHeld.2.2.2.2.2.2.2.2.2.2.2.2.2.2.2.2.2.2.2.1))).trans (hHeld.2.2.2.2.2.2.2.2.2.2.2.2.2.2.2.2.2.2.2.1)
                            have HS20_ := (hb.cell (World.block_lt_of_cell? _ _ (hHeld.2.2.2.2.2.2.2.2.2.2.2.2.2.2.2.2.2.2.2.2.1))).trans (hHeld.2.2.2.2.2.2.2.2.2.2.2.2.2.2.2.2.2.2.2.2.1)
                            have HS21_ := (hb.cell (World.block_lt_of_cell? _ _ (hHeld.2.2.2.2.2.2.2.2.2.2.2.2.2.2.2.2.2.2.2.2.2.1))).trans (hHeld.2.2.2.2.2.2.2.2.2.2.2.2.2.2.2.2.2.2.2.2.2.1)
                            have HS22_ := (hb.cell (World.block_lt_of_cell? _ _ (hHeld.2.2.2.2.2.2.2.2.2.2.2.2.2.2.2.2.2.2.2.2.2.2.1))).trans (hHeld.2.2.2.2.2.2.2.2.2.2.2.2.2.2.2.2.2.2.2.2.2.2.1)
                            have HS23_ := (hb.cell (World.block_lt_of_cell? _ _ (hHeld.2.2.2.2.2.2.2.2.2.2.2.2.2.2.2.2.2.2.2.2.2.2.2.1))).trans (hHeld.2.2.2.2.2.2.2.2.2.2.2.2.2.2.2.2.2.2.2.2.2.2.2.1)
                            have HS24_ := (hb.cell (World.block_lt_of_cell? _ _ (hHeld.2.2.2.2.2.2.2.2.2.2.2.2.2.2.2.2.2.2.2.2.2.2.2.2.1))).trans (hHeld.2.2.2.2.2.2.2.2.2.2.2.2.2.2.2.2.2.2.2.2.2.2.2.2.1)
                            have HS25_ := (hb.cell (World.block_lt_of_cell? _ _ (hHeld.2.2.2.2.2.2.2.2.2.2.2.2.2.2.2.2.2.2.2.2.2.2.2.2.2.1))).trans (hHeld.2.2.2.2.2.2.2.2.2.2.2.2.2.2.2.2.2.2.2.2.2.2.2.2.2.1)
                            have HS26_ := (hb.cell (World.block_lt_of_cell? _ _ (hHeld.2.2.2.2.2.2.2.2.2.2.2.2.2.2.2.2.2.2.2.2.2.2.2.2.2.2.1))).trans (hHeld.2.2.2.2.2.2.2.2.2.2.2.2.2.2.2.2.2.2.2.2.2.2.2.2.2.2.1)
                            have HS27_ := (hb.cell (World.block_lt_of_cell? _ _ (hHeld.2.2.2.2.2.2.2.2.2.2.2.2.2.2.2.2.2.2.2.2.2.2.2.2.2.2.2.1))).trans (hHeld.2.2.2.2.2.2.2.2.2.2.2.2.2.2.2.2.2.2.2.2.2.2.2.2.2.2.2.1)
                            have HS28_ := (hb.cell (World.block_lt_of_cell? _ _ (hHeld.2.2.2.2.2.2.2.2.2.2.2.2.2.2.2.2.2.2.2.2.2.2.2.2.2.2.2.2.1))).trans (hHeld.2.2.2.2.2.2.2.2.2.2.2.2.2.2.2.2.2.2.2.2.2.2.2.2.2.2.2.2.1)
                            have HS29_ := (hb.cell (World.block_lt_of_cell? _ _ (hHeld.2.2.2.2.2.2.2.2.2.2.2.2.2.2.2.2.2.2.2.2.2.2.2.2.2.2.2.2.2.1))).trans (hHeld.2.2.2.2.2.2.2.2.2.2.2.2.2.2.2.2.2.2.2.2.2.2.2.2.2.2.2.2.2.1)
                            have HS30_ := (hb.cell (World.block_lt_of_cell? _ _ (hHeld.2.2.2.2.2.2.2.2.2.2.2.2.2.2.2.2.2.2.2.2.2.2.2.2.2.2.2.2.2.2.1))).trans (hHeld.2.2.2.2.2.2.2.2.2.2.2.2.2.2.2.2.2.2.2.2.2.2.2.2.2.2.2.2.2.2.1)
                            have HS31_ := (hb.cell (World.block_lt_of_cell? _ _ (hHeld.2.2.2.2.2.2.2.2.2.2.2.2.2.2.2.2.2.2.2.2.2.2.2.2.2.2.2.2.2.2.2))).trans (hHeld.2.2.2.2.2.2.2.2.2.2.2.2.2.2.2.2.2.2.2.2.2.2.2.2.2.2.2.2.2.2.2)
                            clear hg_ hnew_
                            (first | rw [← Ny147.out] at ho33 | (simp only [Int.reduceToNat] at ho33; rw [← Ny147.out] at ho33))
                            have n0_ := Aside0.mk (Kd.N_elder' (by (with_reducible repeat (first | apply Kd.N_alloc | apply Kd.N_drewN | apply Kd.N_drew)); exact HO114.out) (Kd.N_base ho33) hb)
                            have n1_ := Aside0.mk (Kd.N_elder' (by (with_reducible repeat (first | apply Kd.N_alloc | apply Kd.N_drewN | apply Kd.N_drew)); exact HO117.out) (Kd.N_base ho33) hb)
                            have n2_ := Aside0.mk (Kd.R_below (by (with_reducible repeat (first | apply Kd.R_alloc | apply Kd.R_drewN | apply Kd.R_drew)); exact HO127.out) hb)
                            have n3_ := Aside0.mk (Kd.N_elder' (by (with_reducible repeat (first | apply Kd.N_alloc | apply Kd.N_drewN | apply Kd.N_drew)); exact HO130.out) (Kd.N_base ho33) hb)
                            have n4_ := Aside0.mk (Kd.N_elder' (by (with_reducible repeat (first | apply Kd.N_alloc | apply Kd.N_drewN | apply Kd.N_drew)); exact HO136.out) (Kd.N_base ho33) hb)
                            have n5_ := Aside0.mk (Kd.N_elder' (by (with_reducible repeat (first | apply Kd.N_alloc | apply Kd.N_drewN | apply Kd.N_drew)); exact HO140.out) (Kd.N_base ho33) hb)
                            have n6_ := Aside0.mk (Kd.V_elder' (by (with_reducible repeat (first | apply Kd.V_alloc | apply Kd.V_drewN | apply Kd.V_drew)); exact HL141_7.out) (Kd.N_base ho33) hb)
                            have n7_ := Aside0.mk (Kd.V_elder' (by (with_reducible repeat (first | apply Kd.V_alloc | apply Kd.V_drewN | apply Kd.V_drew)); exact HL145_7.out) (Kd.N_base ho33) hb)
                            have n8_ := Aside0.mk (Kd.V_elder' (by (with_reducible repeat (first | apply Kd.V_alloc | apply Kd.V_drewN | apply Kd.V_drew)); exact HL146_7.out) (Kd.N_base ho33) hb)
                            have n9_ := Aside0.mk (Kd.N_elder' (by (with_reducible repeat (first | apply Kd.N_alloc | apply Kd.N_drewN | apply Kd.N_drew)); exact HO144.out) (Kd.N_base ho33) hb)
                            have n10_ := Aside0.mk (Kd.N_lower ho33 (below_size (by repeat (first | (with_reducible first | exact HB.out | apply below_alloc | apply pw_below_drewN | apply below_drew1 | refine below_set ?_ GE132.out) | exact HB.out))))
                            have n11_ := Aside0.mk (blk_below (g := gb132) (o := .cells #[.int .i64 t118, .int .i64 t119, .int .i64 t120, .int .i64 t121, .int .i64 t122, .int .i64 t123, .int .i64 t124, .slice Ao25 t125.length co25] 29 (0, 0)) (by (with_reducible repeat (first | refine blk_drewN ?_ _ | refine blk_drew ?_ | refine blk_alloc ?_ _)); exact BK132.out) hb)
                            have n12_ := Aside0.mk (Kd.C_below (by repeat (first | (with_reducible exact HR141_7.out) | (with_reducible refine Kd.C_alloc ?_ _) | (with_reducible refine Kd.C_drewN ?_ _) | (with_reducible refine Kd.C_drew ?_) | exact HR141_7.out)) hb)
                            have n13_ := Aside0.mk (Kd.C_below (by repeat (first | (with_reducible exact HR145_7.out) | (with_reducible refine Kd.C_alloc ?_ _) | (with_reducible refine Kd.C_drewN ?_ _) | (with_reducible refine Kd.C_drew ?_) | exact HR145_7.out)) hb)
                            have n14_ := Aside0.mk (Kd.C_below (by repeat (first | (with_reducible exact HR146_7.out) | (with_reducible refine Kd.C_alloc ?_ _) | (with_reducible refine Kd.C_drewN ?_ _) | (with_reducible refine Kd.C_drew ?_) | exact HR146_7.out)) hb)
                            have n15_ := Aside0.mk (below_step (by repeat (first | (with_reducible first | exact HB.out | apply below_alloc | apply pw_below_drewN | apply below_drew1 | refine below_set ?_ GE132.out) | exact HB.out)) hb)
                            clear HO114
                            clear HO117
                            clear HO127
                            clear HO130
                            clear HO136
                            clear HO140
                            clear HL141_7
                            clear HL145_7
                            clear HL146_7
                            clear HO144
                            clear BK132
                            clear HR141_7
                            clear HR145_7
                            clear HR146_7
                            clear HB
                            have HO114 := n0_
                            have HO117 := n1_
                            have HO127 := n2_
                            have HO130 := n3_
                            have HO136 := n4_
                            have HO140 := n5_
                            have HL141_7 := n6_
                            have HL145_7 := n7_
                            have HL146_7 := n8_
                            have HO144 := n9_
                            have HO149 := n10_
                            have BK132 := n11_
                            have HR141_7 := n12_
                            have HR145_7 := n13_
                            have HR146_7 := n14_
                            have HB := n15_
                            clear n0_ n1_ n2_ n3_ n4_ n5_ n6_ n7_ n8_ n9_ n10_ n11_ n12_ n13_ n14_ n15_
                            clear hb ho33
                            refine hK.out _ _ ⟨(blk_cell BK132.out 0).trans rfl, (blk_cell BK132.out 1).trans rfl, (blk_cell BK132.out 2).trans rfl, (blk_cell BK132.out 3).trans rfl, (blk_cell BK132.out 4).trans rfl, (blk_cell BK132.out 5).trans rfl, (blk_cell BK132.out 6).trans rfl, (blk_cell BK132.out 7).trans rfl, HS8_, HS9_, HS10_, HS11_, HS12_, HS13_, HS14_, HS15_, HS16_, HS17_, HS18_, HS19_, HS20_, HS21_, HS22_, HS23_, HS24_, HS25_, HS26_, HS27_, HS28_, HS29_, HS30_, HS31_⟩ (fun hHeld => ?_)
                            clear hK K
                            refine norm_ (a' := ?_) ?_ ?_
                            rotate_left
                            · show Act.put _ (some 44) _ = _
                              simp only [Act.put, List.setIfInBounds_toArray, List.set_cons_zero, List.set_cons_succ, i64_w, i32_w]
                              rfl
                            exact norm_ (by simp only [putAll, Act.put, List.setIfInBounds_toArray, List.set_cons_zero, List.set_cons_succ]) (hCont (v143, v148) _ ⟨hHeld, (by (with_reducible repeat (first | apply Kd.V_alloc | apply Kd.V_drewN | apply Kd.V_drew)); exact Kd.V_mono HL141_7.out (fun _ hk => ⟨hk.1.1.2, ⟨hk.1.1.1.1.1.1.1.1.2, ⟨hk.1.1.1.1.1.1.1.2, ⟨hk.1.1.1.1.1.1.2, ⟨hk.1.1.1.1.2, ⟨hk.1.1.1.2, ⟨hk.1.2, ⟨hk.2, hk.1.1.1.1.1.2⟩⟩⟩⟩⟩⟩⟩⟩)), (by (with_reducible repeat (first | apply Kd.V_alloc | apply Kd.V_drewN | apply Kd.V_drew)); exact Kd.V_mono HL145_7.out (fun _ hk => ⟨hk.1.1.2, ⟨hk.1.1.1.1.1.1.1.1.2, ⟨hk.1.1.1.1.1.1.1.2, ⟨hk.1.1.1.1.1.1.2, ⟨hk.1.1.1.1.2, ⟨hk.1.1.1.2, ⟨hk.1.2, ⟨hk.2, hk.1.1.1.1.1.2⟩⟩⟩⟩⟩⟩⟩⟩)), (by (with_reducible repeat (first | apply Kd.V_alloc | apply Kd.V_drewN | apply Kd.V_drew)); exact Kd.V_mono HL146_7.out (fun _ hk => ⟨hk.1.1.2, ⟨hk.1.1.1.1.1.1.1.1.2, ⟨hk.1.1.1.1.1.1.1.2, ⟨hk.1.1.1.1.1.1.2, ⟨hk.1.1.1.1.2, ⟨hk.1.1.1.2, ⟨hk.1.2, ⟨hk.2, hk.1.1.1.1.1.2⟩⟩⟩⟩⟩⟩⟩⟩)), (by (with_reducible repeat (first | apply Kd.N_alloc | apply Kd.N_drewN | apply Kd.N_drew)); exact Kd.N_mono HO114.out (fun _ hk => ⟨hk.1.1.1.1.1.1.1.2, ⟨hk.1.1.1.1.1.1.2, ⟨hk.1.1.1.1.1.2, ⟨hk.1.1.1.2, ⟨hk.1.1.2, ⟨hk.1.2, ⟨hk.2, hk.1.1.1.1.2⟩⟩⟩⟩⟩⟩⟩)), (by (with_reducible repeat (first | apply Kd.N_alloc | apply Kd.N_drewN | apply Kd.N_drew)); exact Kd.N_mono HO117.out (fun _ hk => ⟨hk.1.1.1.1.1.1.1, ⟨hk.1.1.1.1.1.1.2, ⟨hk.1.1.1.1.1.2, ⟨hk.1.1.1.2, ⟨hk.1.1.2, ⟨hk.1.2, ⟨hk.2, hk.1.1.1.1.2⟩⟩⟩⟩⟩⟩⟩)), (by (with_reducible repeat (first | apply Kd.R_alloc | apply Kd.R_drewN | apply Kd.R_drew)); exact HO127.out), (by (with_reducible repeat (first | apply Kd.N_alloc | apply Kd.N_drewN | apply Kd.N_drew)); exact Kd.N_mono HO130.out (fun _ hk => ⟨hk.1.1.1.1.1.2.1, ⟨hk.1.1.1.1.1.2.2, ⟨hk.1.1.1.1.1.1, ⟨hk.1.1.1.2, ⟨hk.1.1.2, ⟨hk.1.2, ⟨hk.2, hk.1.1.1.1.2⟩⟩⟩⟩⟩⟩⟩)), (by (with_reducible repeat (first | apply Kd.N_alloc | apply Kd.N_drewN | apply Kd.N_drew)); exact Kd.N_mono HO136.out (fun _ hk => ⟨hk.1.1.1.1, ⟨hk.1.1.1.2.1, ⟨hk.1.1.1.2.2.1, ⟨hk.1.1.1.2.2.2.1, ⟨hk.1.1.2, ⟨hk.1.2, ⟨hk.2, hk.1.1.1.2.2.2.2⟩⟩⟩⟩⟩⟩⟩)), (by (with_reducible repeat (first | apply Kd.N_alloc | apply Kd.N_drewN | apply Kd.N_drew)); exact Kd.N_mono HO140.out (fun _ hk => ⟨hk.1.1.1, ⟨hk.1.1.2.1, ⟨hk.1.1.2.2.1, ⟨hk.1.1.2.2.2.1, ⟨hk.1.1.2.2.2.2.1, ⟨hk.1.2, ⟨hk.2, hk.1.1.2.2.2.2.2⟩⟩⟩⟩⟩⟩⟩)), (by (with_reducible repeat (first | apply Kd.N_alloc | apply Kd.N_drewN | apply Kd.N_drew)); exact Kd.N_mono HO144.out (fun _ hk => ⟨hk.1.1, ⟨hk.1.2.1, ⟨hk.1.2.2.1, ⟨hk.1.2.2.2.1, ⟨hk.1.2.2.2.2.1, ⟨hk.1.2.2.2.2.2.1, ⟨hk.2, hk.1.2.2.2.2.2.2⟩⟩⟩⟩⟩⟩⟩)), (by (with_reducible repeat (first | apply Kd.N_alloc | apply Kd.N_drewN | apply Kd.N_drew)); exact HO149.out), (by (with_reducible repeat (first | refine blk_drewN ?_ _ | refine blk_drew ?_ | refine blk_alloc ?_ _)); exact BK132.out), (by repeat (first | (with_reducible first | exact HB.out | apply below_alloc | apply pw_below_drewN | apply below_drew1 | refine below_set ?_ GE132.out) | exact HB.out))⟩)
                          · skip
                            refine Kd.N_lit_step k29 _ 29 ?hg (N' := 44) ?hd (xs := ([(⟨(rd_T29 y112 0).f0, (rd_T29 y112 0).f1, (rd_T29 y112 0).f2, (rd_T29 y112 0).f3, (rd_T29 y112 0).f4, (rd_T29 y112 0).f5, (rd_T29 y112 0).f6, (rd_T29 y112 0).f7⟩ : S29), (⟨(rd_T29 y112 2).f0, (rd_T29 y112 2).f1, (rd_T29 y112 2).f2, (rd_T29 y112 2).f3, (rd_T29 y112 2).f4, (rd_T29 y112 2).f5, (rd_T29 y112 2).f6, (rd_T29 y112 2).f7⟩ : S29)] : List (S29))) (inner := [.int .i64 ((rd_T29 y112 0).f0), .int .i64 ((rd_T29 y112 0).f1), .int .i64 ((rd_T29 y112 0).f2), .int .i64 ((rd_T29 y112 0).f3), .int .i64 ((rd_T29 y112 0).f4), .int .i64 ((rd_T29 y112 0).f5), .int .i64 ((rd_T29 y112 0).f6), .slice A145_7 ((rd_T29 y112 0).f7).length c145_7, .int .i64 ((rd_T29 y112 2).f0), .int .i64 ((rd_T29 y112 2).f1), .int .i64 ((rd_T29 y112 2).f2), .int .i64 ((rd_T29 y112 2).f3), .int .i64 ((rd_T29 y112 2).f4), .int .i64 ((rd_T29 y112 2).f5), .int .i64 ((rd_T29 y112 2).f6), .slice A146_7 ((rd_T29 y112 2).f7).length c146_7]) (ok := (fun k_ => some k_ ≠ (.slice (some ad141) y112.length co20 : Value).ownBlock ∧ some k_ ≠ (.slice Ao28 t115.length co28 : Value).ownBlock ∧ some k_ ≠ (.slice Ao25 t125.length co25 : Value).ownBlock ∧ some k_ ≠ (v129 : Value).ownBlock ∧ some k_ ≠ (v135 : Value).ownBlock ∧ some k_ ≠ (v139 : Value).ownBlock ∧ k_ ≠ gb132)) (okp := (fun k_ => some k_ ≠ (.slice (some ad141) y112.length co20 : Value).ownBlock ∧ some k_ ≠ (.slice Ao28 t115.length co28 : Value).ownBlock ∧ some k_ ≠ (.slice Ao25 t125.length co25 : Value).ownBlock ∧ some k_ ≠ (v129 : Value).ownBlock ∧ some k_ ≠ (v135 : Value).ownBlock ∧ some k_ ≠ (v139 : Value).ownBlock ∧ k_ ≠ gb132)) ?hr ?hp (fun _ hk => hk) ((show ∀ k_, w29.heap.size ≤ k_ → (fun k_ => some k_ ≠ (.slice (some ad141) y112.length co20 : Value).ownBlock ∧ some k_ ≠ (.slice Ao28 t115.length co28 : Value).ownBlock ∧ some k_ ≠ (.slice Ao25 t125.length co25 : Value).ownBlock ∧ some k_ ≠ (v129 : Value).ownBlock ∧ some k_ ≠ (v135 : Value).ownBlock ∧ some k_ ≠ (v139 : Value).ownBlock ∧ k_ ≠ gb132) k_ from fun k_ hk => ⟨Kd.fresh' (Kd.N_lt (by (with_reducible repeat (first | apply Kd.N_alloc | apply Kd.N_drewN | apply Kd.N_drew)); exact HO114.out)) k_ hk, Kd.fresh' (Kd.N_lt (by (with_reducible repeat (first | apply Kd.N_alloc | apply Kd.N_drewN | apply Kd.N_drew)); exact HO117.out)) k_ hk, Kd.fresh' (Kd.R_lt (by (with_reducible repeat (first | apply Kd.R_alloc | apply Kd.R_drewN | apply Kd.R_drew)); exact HO127.out)) k_ hk, Kd.fresh' (Kd.N_lt (by (with_reducible repeat (first | apply Kd.N_alloc | apply Kd.N_drewN | apply Kd.N_drew)); exact HO130.out)) k_ hk, Kd.fresh' (Kd.N_lt (by (with_reducible repeat (first | apply Kd.N_alloc | apply Kd.N_drewN | apply Kd.N_drew)); exact HO136.out)) k_ hk, Kd.fresh' (Kd.N_lt (by (with_reducible repeat (first | apply Kd.N_alloc | apply Kd.N_drewN | apply Kd.N_drew)); exact HO140.out)) k_ hk, Kd.freshB (g := gb132) (o := .cells #[.int .i64 t118, .int .i64 t119, .int .i64 t120, .int .i64 t121, .int .i64 t122, .int .i64 t123, .int .i64 t124, .slice Ao25 t125.length co25] 29 (0, 0)) (by (with_reducible repeat (first | refine blk_drewN ?_ _ | refine blk_drew ?_ | refine blk_alloc ?_ _)); exact BK132.out) k_ hk⟩) _ (Nat.le_refl _)) (Below.refl _ _) (Nat.le_refl _) (by simp) ?_; (case hd => rfl); (case hg => rfl); (case hr => first | (go_simp; done) | (go_simp; rfl)); (case hp => exact (Reps.c8 (show Kd.FK k29 _ _ (⟨(rd_T29 y112 0).f0, (rd_T29 y112 0).f1, (rd_T29 y112 0).f2, (rd_T29 y112 0).f3, (rd_T29 y112 0).f4, (rd_T29 y112 0).f5, (rd_T29 y112 0).f6, (rd_T29 y112 0).f7⟩ : S29) [.int .i64 ((rd_T29 y112 0).f0), .int .i64 ((rd_T29 y112 0).f1), .int .i64 ((rd_T29 y112 0).f2), .int .i64 ((rd_T29 y112 0).f3), .int .i64 ((rd_T29 y112 0).f4), .int .i64 ((rd_T29 y112 0).f5), .int .i64 ((rd_T29 y112 0).f6), .slice A145_7 ((rd_T29 y112 0).f7).length c145_7] from (k29_mkF _ _ (⟨(rd_T29 y112 0).f0, (rd_T29 y112 0).f1, (rd_T29 y112 0).f2, (rd_T29 y112 0).f3, (rd_T29 y112 0).f4, (rd_T29 y112 0).f5, (rd_T29 y112 0).f6, (rd_T29 y112 0).f7⟩ : S29) (Kd.V_reads' (Kd.V_mono (ok' := (fun k_ => some k_ ≠ (.slice (some ad141) y112.length co20 : Value).ownBlock ∧ some k_ ≠ (.slice Ao28 t115.length co28 : Value).ownBlock ∧ some k_ ≠ (.slice Ao25 t125.length co25 : Value).ownBlock ∧ some k_ ≠ (v129 : Value).ownBlock ∧ some k_ ≠ (v135 : Value).ownBlock ∧ some k_ ≠ (v139 : Value).ownBlock ∧ k_ ≠ gb132)) (HL145_7.out) (fun k_ hk => ⟨hk.2, ⟨hk.1.1.1.1.1.1.2, ⟨hk.1.1.1.1.1.2, ⟨hk.1.1.1.1.2, ⟨hk.1.1.2, ⟨hk.1.2, hk.1.1.1.2⟩⟩⟩⟩⟩⟩))).2.1 (Kd.V_F (Kd.V_mono (ok' := (fun k_ => some k_ ≠ (.slice (some ad141) y112.length co20 : Value).ownBlock ∧ some k_ ≠ (.slice Ao28 t115.length co28 : Value).ownBlock ∧ some k_ ≠ (.slice Ao25 t125.length co25 : Value).ownBlock ∧ some k_ ≠ (v129 : Value).ownBlock ∧ some k_ ≠ (v135 : Value).ownBlock ∧ some k_ ≠ (v139 : Value).ownBlock ∧ k_ ≠ gb132)) (HL145_7.out) (fun k_ hk => ⟨hk.2, ⟨hk.1.1.1.1.1.1.2, ⟨hk.1.1.1.1.1.2, ⟨hk.1.1.1.1.2, ⟨hk.1.1.2, ⟨hk.1.2, hk.1.1.1.2⟩⟩⟩⟩⟩⟩))))) (Reps.c8 (show Kd.FK k29 _ _ (⟨(rd_T29 y112 2).f0, (rd_T29 y112 2).f1, (rd_T29 y112 2).f2, (rd_T29 y112 2).f3, (rd_T29 y112 2).f4, (rd_T29 y112 2).f5, (rd_T29 y112 2).f6, (rd_T29 y112 2).f7⟩ : S29) [.int .i64 ((rd_T29 y112 2).f0), .int .i64 ((rd_T29 y112 2).f1), .int .i64 ((rd_T29 y112 2).f2), .int .i64 ((rd_T29 y112 2).f3), .int .i64 ((rd_T29 y112 2).f4), .int .i64 ((rd_T29 y112 2).f5), .int .i64 ((rd_T29 y112 2).f6), .slice A146_7 ((rd_T29 y112 2).f7).length c146_7] from (k29_mkF _ _ (⟨(rd_T29 y112 2).f0, (rd_T29 y112 2).f1, (rd_T29 y112 2).f2, (rd_T29 y112 2).f3, (rd_T29 y112 2).f4, (rd_T29 y112 2).f5, (rd_T29 y112 2).f6, (rd_T29 y112 2).f7⟩ : S29) (Kd.V_reads' (Kd.V_mono (ok' := (fun k_ => some k_ ≠ (.slice (some ad141) y112.length co20 : Value).ownBlock ∧ some k_ ≠ (.slice Ao28 t115.length co28 : Value).ownBlock ∧ some k_ ≠ (.slice Ao25 t125.length co25 : Value).ownBlock ∧ some k_ ≠ (v129 : Value).ownBlock ∧ some k_ ≠ (v135 : Value).ownBlock ∧ some k_ ≠ (v139 : Value).ownBlock ∧ k_ ≠ gb132)) (HL146_7.out) (fun k_ hk => ⟨hk.2, ⟨hk.1.1.1.1.1.1.2, ⟨hk.1.1.1.1.1.2, ⟨hk.1.1.1.1.2, ⟨hk.1.1.2, ⟨hk.1.2, hk.1.1.1.2⟩⟩⟩⟩⟩⟩))).2.1 (Kd.V_F (Kd.V_mono (ok' := (fun k_ => some k_ ≠ (.slice (some ad141) y112.length co20 : Value).ownBlock ∧ some k_ ≠ (.slice Ao28 t115.length co28 : Value).ownBlock ∧ some k_ ≠ (.slice Ao25 t125.length co25 : Value).ownBlock ∧ some k_ ≠ (v129 : Value).ownBlock ∧ some k_ ≠ (v135 : Value).ownBlock ∧ some k_ ≠ (v139 : Value).ownBlock ∧ k_ ≠ gb132)) (HL146_7.out) (fun k_ hk => ⟨hk.2, ⟨hk.1.1.1.1.1.1.2, ⟨hk.1.1.1.1.1.2, ⟨hk.1.1.1.1.2, ⟨hk.1.1.2, ⟨hk.1.2, hk.1.1.1.2⟩⟩⟩⟩⟩⟩))))) (Reps.none _ _))))
                            intro v148 w30 ho31 hb hg_ hnew_
                            have HS8_ := (hb.cell (World.block_lt_of_cell? _ _ (hHeld.2.2.2.2.2.2.2.2.1))).trans (hHeld.2.2.2.2.2.2.2.2.1)
                            have HS9_ := (hb.cell (World.block_lt_of_cell? _ _ (hHeld.2.2.2.2.2.2.2.2.2.1))).trans (hHeld.2.2.2.2.2.2.2.2.2.1)
                            have HS10_ := (hb.cell (World.block_lt_of_cell? _ _ (hHeld.2.2.2.2.2.2.2.2.2.2.1))).trans (hHeld.2.2.2.2.2.2.2.2.2.2.1)
                            have HS11_ := (hb.cell (World.block_lt_of_cell? _ _ (hHeld.2.2.2.2.2.2.2.2.2.2.2.1))).trans (hHeld.2.2.2.2.2.2.2.2.2.2.2.1)
                            have HS12_ := (hb.cell (World.block_lt_of_cell? _ _ (hHeld.2.2.2.2.2.2.2.2.2.2.2.2.1))).trans (hHeld.2.2.2.2.2.2.2.2.2.2.2.2.1)
                            have HS13_ := (hb.cell (World.block_lt_of_cell? _ _ (hHeld.2.2.2.2.2.2.2.2.2.2.2.2.2.1))).trans (hHeld.2.2.2.2.2.2.2.2.2.2.2.2.2.1)
                            have HS14_ := (hb.cell (World.block_lt_of_cell? _ _ (hHeld.2.2.2.2.2.2.2.2.2.2.2.2.2.2.1))).trans (hHeld.2.2.2.2.2.2.2.2.2.2.2.2.2.2.1)
                            have HS15_ := (hb.cell (World.block_lt_of_cell? _ _ (hHeld.2.2.2.2.2.2.2.2.2.2.2.2.2.2.2.1))).trans (hHeld.2.2.2.2.2.2.2.2.2.2.2.2.2.2.2.1)
                            have HS16_ := (hb.cell (World.block_lt_of_cell? _ _ (hHeld.2.2.2.2.2.2.2.2.2.2.2.2.2.2.2.2.1))).trans (hHeld.2.2.2.2.2.2.2.2.2.2.2.2.2.2.2.2.1)
                            have HS17_ := (hb.cell (World.block_lt_of_cell? _ _ (hHeld.2.2.2.2.2.2.2.2.2.2.2.2.2.2.2.2.2.1))).trans (hHeld.2.2.2.2.2.2.2.2.2.2.2.2.2.2.2.2.2.1)
                            have HS18_ := (hb.cell (World.block_lt_of_cell? _ _ (hHeld.2.2.2.2.2.2.2.2.2.2.2.2.2.2.2.2.2.2.1))).trans (hHeld.2.2.2.2.2.2.2.2.2.2.2.2.2.2.2.2.2.2.1)
                            have HS19_ := (hb.cell (World.block_lt_of_cell? _ _ (hHeld.2.2.2.2.2.2.2.2.2.2.2.2.2.2.2.2.2.2.2.1))).trans (hHeld.2.2.2.2.2.2.2.2.2.2.2.2.2.2.2.2.2.2.2.1)
                            have HS20_ := (hb.cell (World.block_lt_of_cell? _ _ (hHeld.2.2.2.2.2.2.2.2.2.2.2.2.2.2.2.2.2.2.2.2.1))).trans (hHeld.2.2.2.2.2.2.2.2.2.2.2.2.2.2.2.2.2.2.2.2.1)
                            have HS21_ := (hb.cell (World.block_lt_of_cell? _ _ (hHeld.2.2.2.2.2.2.2.2.2.2.2.2.2.2.2.2.2.2.2.2.2.1))).trans (hHeld.2.2.2.2.2.2.2.2.2.2.2.2.2.2.2.2.2.2.2.2.2.1)
                            have HS22_ := (hb.cell (World.block_lt_of_cell? _ _ (hHeld.2.2.2.2.2.2.2.2.2.2.2.2.2.2.2.2.2.2.2.2.2.2.1))).trans (hHeld.2.2.2.2.2.2.2.2.2.2.2.2.2.2.2.2.2.2.2.2.2.2.1)
                            have HS23_ := (hb.cell (World.block_lt_of_cell? _ _ (hHeld.2.2.2.2.2.2.2.2.2.2.2.2.2.2.2.2.2.2.2.2.2.2.2.1))).trans (hHeld.2.2.2.2.2.2.2.2.2.2.2.2.2.2.2.2.2.2.2.2.2.2.2.1)
                            have HS24_ := (hb.cell (World.block_lt_of_cell? _ _ (hHeld.2.2.2.2.2.2.2.2.2.2.2.2.2.2.2.2.2.2.2.2.2.2.2.2.1))).trans (hHeld.2.2.2.2.2.2.2.2.2.2.2.2.2.2.2.2.2.2.2.2.2.2.2.2.1)
                            have HS25_ := (hb.cell (World.block_lt_of_cell? _ _ (hHeld.2.2.2.2.2.2.2.2.2.2.2.2.2.2.2.2.2.2.2.2.2.2.2.2.2.1))).trans (hHeld.2.2.2.2.2.2.2.2.2.2.2.2.2.2.2.2.2.2.2.2.2.2.2.2.2.1)
                            have HS26_ := (hb.cell (World.block_lt_of_cell? _ _ (hHeld.2.2.2.2.2.2.2.2.2.2.2.2.2.2.2.2.2.2.2.2.2.2.2.2.2.2.1))).trans (hHeld.2.2.2.2.2.2.2.2.2.2.2.2.2.2.2.2.2.2.2.2.2.2.2.2.2.2.1)
                            have HS27_ := (hb.cell (World.block_lt_of_cell? _ _ (hHeld.2.2.2.2.2.2.2.2.2.2.2.2.2.2.2.2.2.2.2.2.2.2.2.2.2.2.2.1))).trans (hHeld.2.2.2.2.2.2.2.2.2.2.2.2.2.2.2.2.2.2.2.2.2.2.2.2.2.2.2.1)
                            have HS28_ := (hb.cell (World.block_lt_of_cell? _ _ (hHeld.2.2.2.2.2.2.2.2.2.2.2.2.2.2.2.2.2.2.2.2.2.2.2.2.2.2.2.2.1))).trans (hHeld.2.2.2.2.2.2.2.2.2.2.2.2.2.2.2.2.2.2.2.2.2.2.2.2.2.2.2.2.1)
                            have HS29_ := (hb.cell (World.block_lt_of_cell? _ _ (hHeld.2.2.2.2.2.2.2.2.2.2.2.2.2.2.2.2.2.2.2.2.2.2.2.2.2.2.2.2.2.1))).trans (hHeld.2.2.2.2.2.2.2.2.2.2.2.2.2.2.2.2.2.2.2.2.2.2.2.2.2.2.2.2.2.1)
                            have HS30_ := (hb.cell (World.block_lt_of_cell? _ _ (hHeld.2.2.2.2.2.2.2.2.2.2.2.2.2.2.2.2.2.2.2.2.2.2.2.2.2.2.2.2.2.2.1))).trans (hHeld.2.2.2.2.2.2.2.2.2.2.2.2.2.2.2.2.2.2.2.2.2.2.2.2.2.2.2.2.2.2.1)
                            have HS31_ := (hb.cell (World.block_lt_of_cell? _ _ (hHeld.2.2.2.2.2.2.2.2.2.2.2.2.2.2.2.2.2.2.2.2.2.2.2.2.2.2.2.2.2.2.2))).trans (hHeld.2.2.2.2.2.2.2.2.2.2.2.2.2.2.2.2.2.2.2.2.2.2.2.2.2.2.2.2.2.2.2)
                            clear hg_ hnew_
                            (first | rw [← Ny147.out] at ho31 | (simp only [Int.reduceToNat] at ho31; rw [← Ny147.out] at ho31))
                            have n0_ := Aside0.mk (Kd.N_elder' (by (with_reducible repeat (first | apply Kd.N_alloc | apply Kd.N_drewN | apply Kd.N_drew)); exact HO114.out) (Kd.N_base ho31) hb)
                            have n1_ := Aside0.mk (Kd.N_elder' (by (with_reducible repeat (first | apply Kd.N_alloc | apply Kd.N_drewN | apply Kd.N_drew)); exact HO117.out) (Kd.N_base ho31) hb)
                            have n2_ := Aside0.mk (Kd.R_below (by (with_reducible repeat (first | apply Kd.R_alloc | apply Kd.R_drewN | apply Kd.R_drew)); exact HO127.out) hb)
                            have n3_ := Aside0.mk (Kd.N_elder' (by (with_reducible repeat (first | apply Kd.N_alloc | apply Kd.N_drewN | apply Kd.N_drew)); exact HO130.out) (Kd.N_base ho31) hb)
                            have n4_ := Aside0.mk (Kd.N_elder' (by (with_reducible repeat (first | apply Kd.N_alloc | apply Kd.N_drewN | apply Kd.N_drew)); exact HO136.out) (Kd.N_base ho31) hb)
                            have n5_ := Aside0.mk (Kd.N_elder' (by (with_reducible repeat (first | apply Kd.N_alloc | apply Kd.N_drewN | apply Kd.N_drew)); exact HO140.out) (Kd.N_base ho31) hb)
                            have n6_ := Aside0.mk (Kd.V_elder' (by (with_reducible repeat (first | apply Kd.V_alloc | apply Kd.V_drewN | apply Kd.V_drew)); exact HL141_7.out) (Kd.N_base ho31) hb)
                            have n7_ := Aside0.mk (Kd.V_elder' (by (with_reducible repeat (first | apply Kd.V_alloc | apply Kd.V_drewN | apply Kd.V_drew)); exact HL145_7.out) (Kd.N_base ho31) hb)
                            have n8_ := Aside0.mk (Kd.V_elder' (by (with_reducible repeat (first | apply Kd.V_alloc | apply Kd.V_drewN | apply Kd.V_drew)); exact HL146_7.out) (Kd.N_base ho31) hb)
                            have n9_ := Aside0.mk (Kd.N_lower ho31 (below_size (by repeat (first | (with_reducible first | exact HB.out | apply below_alloc | apply pw_below_drewN | apply below_drew1 | refine below_set ?_ GE132.out) | exact HB.out))))
                            have n10_ := Aside0.mk (blk_below (g := gb132) (o := .cells #[.int .i64 t118, .int .i64 t119, .int .i64 t120, .int .i64 t121, .int .i64 t122, .int .i64 t123, .int .i64 t124, .slice Ao25 t125.length co25] 29 (0, 0)) (by (with_reducible repeat (first | refine blk_drewN ?_ _ | refine blk_drew ?_ | refine blk_alloc ?_ _)); exact BK132.out) hb)
                            have n11_ := Aside0.mk (Kd.C_below (by repeat (first | (with_reducible exact HR141_7.out) | (with_reducible refine Kd.C_alloc ?_ _) | (with_reducible refine Kd.C_drewN ?_ _) | (with_reducible refine Kd.C_drew ?_) | exact HR141_7.out)) hb)
                            have n12_ := Aside0.mk (Kd.C_below (by repeat (first | (with_reducible exact HR145_7.out) | (with_reducible refine Kd.C_alloc ?_ _) | (with_reducible refine Kd.C_drewN ?_ _) | (with_reducible refine Kd.C_drew ?_) | exact HR145_7.out)) hb)
                            have n13_ := Aside0.mk (Kd.C_below (by repeat (first | (with_reducible exact HR146_7.out) | (with_reducible refine Kd.C_alloc ?_ _) | (with_reducible refine Kd.C_drewN ?_ _) | (with_reducible refine Kd.C_drew ?_) | exact HR146_7.out)) hb)
                            have n14_ := Aside0.mk (below_step (by repeat (first | (with_reducible first | exact HB.out | apply below_alloc | apply pw_below_drewN | apply below_drew1 | refine below_set ?_ GE132.out) | exact HB.out)) hb)
                            clear HO114
                            clear HO117
                            clear HO127
                            clear HO130
                            clear HO136
                            clear HO140
                            clear HL141_7
                            clear HL145_7
                            clear HL146_7
                            clear BK132
                            clear HR141_7
                            clear HR145_7
                            clear HR146_7
                            clear HB
                            have HO114 := n0_
                            have HO117 := n1_
                            have HO127 := n2_
                            have HO130 := n3_
                            have HO136 := n4_
                            have HO140 := n5_
                            have HL141_7 := n6_
                            have HL145_7 := n7_
                            have HL146_7 := n8_
                            have HO149 := n9_
                            have BK132 := n10_
                            have HR141_7 := n11_
                            have HR145_7 := n12_
                            have HR146_7 := n13_
                            have HB := n14_
                            clear n0_ n1_ n2_ n3_ n4_ n5_ n6_ n7_ n8_ n9_ n10_ n11_ n12_ n13_ n14_
                            clear hb ho31
                            refine hK.out _ _ ⟨(blk_cell BK132.out 0).trans rfl, (blk_cell BK132.out 1).trans rfl, (blk_cell BK132.out 2).trans rfl, (blk_cell BK132.out 3).trans rfl, (blk_cell BK132.out 4).trans rfl, (blk_cell BK132.out 5).trans rfl, (blk_cell BK132.out 6).trans rfl, (blk_cell BK132.out 7).trans rfl, HS8_, HS9_, HS10_, HS11_, HS12_, HS13_, HS14_, HS15_, HS16_, HS17_, HS18_, HS19_, HS20_, HS21_, HS22_, HS23_, HS24_, HS25_, HS26_, HS27_, HS28_, HS29_, HS30_, HS31_⟩ (fun hHeld => ?_)
                            clear hK K
                            refine norm_ (a' := ?_) ?_ ?_
                            rotate_left
                            · show Act.put _ (some 44) _ = _
                              simp only [Act.put, List.setIfInBounds_toArray, List.set_cons_zero, List.set_cons_succ, i64_w, i32_w]
                              rfl
                            refine one_ (i := 4) (N := some 37) #[true, true, true, true, true, true, true, true, true, true, true, true, false, false, false, false, false, false, false, false, false, false, false, false, false, false, false, false, false, false, false, false, false, false, false, false, false, false, false, false, false, false, false, false, false, false, false, false, false, false, false] rfl rfl (one_of HT_.out (by kernel_rfl)) (by decide) (fun K hK => ?_)
                            refine Kd.N_lit_step k29 _ 29 ?hg (N' := 37) ?hd (xs := ([(⟨(rd_T29 y112 1).f0, (rd_T29 y112 1).f1, (rd_T29 y112 1).f2, (rd_T29 y112 1).f3, (rd_T29 y112 1).f4, (rd_T29 y112 1).f5, (rd_T29 y112 1).f6, (rd_T29 y112 1).f7⟩ : S29)] : List (S29))) (inner := [.int .i64 ((rd_T29 y112 1).f0), .int .i64 ((rd_T29 y112 1).f1), .int .i64 ((rd_T29 y112 1).f2), .int .i64 ((rd_T29 y112 1).f3), .int .i64 ((rd_T29 y112 1).f4), .int .i64 ((rd_T29 y112 1).f5), .int .i64 ((rd_T29 y112 1).f6), .slice A141_7 ((rd_T29 y112 1).f7).length c141_7]) (ok := (fun k_ => some k_ ≠ (.slice (some ad141) y112.length co20 : Value).ownBlock ∧ some k_ ≠ (.slice Ao28 t115.length co28 : Value).ownBlock ∧ some k_ ≠ (.slice Ao25 t125.length co25 : Value).ownBlock ∧ some k_ ≠ (v129 : Value).ownBlock ∧ some k_ ≠ (v135 : Value).ownBlock ∧ some k_ ≠ (v139 : Value).ownBlock ∧ some k_ ≠ (v148 : Value).ownBlock ∧ k_ ≠ gb132)) (okp := (fun k_ => some k_ ≠ (.slice (some ad141) y112.length co20 : Value).ownBlock ∧ some k_ ≠ (.slice Ao28 t115.length co28 : Value).ownBlock ∧ some k_ ≠ (.slice Ao25 t125.length co25 : Value).ownBlock ∧ some k_ ≠ (v129 : Value).ownBlock ∧ some k_ ≠ (v135 : Value).ownBlock ∧ some k_ ≠ (v139 : Value).ownBlock ∧ some k_ ≠ (v148 : Value).ownBlock ∧ k_ ≠ gb132)) ?hr ?hp (fun _ hk => hk) ((show ∀ k_, w30.heap.size ≤ k_ → (fun k_ => some k_ ≠ (.slice (some ad141) y112.length co20 : Value).ownBlock ∧ some k_ ≠ (.slice Ao28 t115.length co28 : Value).ownBlock ∧ some k_ ≠ (.slice Ao25 t125.length co25 : Value).ownBlock ∧ some k_ ≠ (v129 : Value).ownBlock ∧ some k_ ≠ (v135 : Value).ownBlock ∧ some k_ ≠ (v139 : Value).ownBlock ∧ some k_ ≠ (v148 : Value).ownBlock ∧ k_ ≠ gb132) k_ from fun k_ hk => ⟨Kd.fresh' (Kd.N_lt (by (with_reducible repeat (first | apply Kd.N_alloc | apply Kd.N_drewN | apply Kd.N_drew)); exact HO114.out)) k_ hk, Kd.fresh' (Kd.N_lt (by (with_reducible repeat (first | apply Kd.N_alloc | apply Kd.N_drewN | apply Kd.N_drew)); exact HO117.out)) k_ hk, Kd.fresh' (Kd.R_lt (by (with_reducible repeat (first | apply Kd.R_alloc | apply Kd.R_drewN | apply Kd.R_drew)); exact HO127.out)) k_ hk, Kd.fresh' (Kd.N_lt (by (with_reducible repeat (first | apply Kd.N_alloc | apply Kd.N_drewN | apply Kd.N_drew)); exact HO130.out)) k_ hk, Kd.fresh' (Kd.N_lt (by (with_reducible repeat (first | apply Kd.N_alloc | apply Kd.N_drewN | apply Kd.N_drew)); exact HO136.out)) k_ hk, Kd.fresh' (Kd.N_lt (by (with_reducible repeat (first | apply Kd.N_alloc | apply Kd.N_drewN | apply Kd.N_drew)); exact HO140.out)) k_ hk, Kd.fresh' (Kd.N_lt (by (with_reducible repeat (first | apply Kd.N_alloc | apply Kd.N_drewN | apply Kd.N_drew)); exact HO149.out)) k_ hk, Kd.freshB (g := gb132) (o := .cells #[.int .i64 t118, .int .i64 t119, .int .i64 t120, .int .i64 t121, .int .i64 t122, .int .i64 t123, .int .i64 t124, .slice Ao25 t125.length co25] 29 (0, 0)) (by (with_reducible repeat (first | refine blk_drewN ?_ _ | refine blk_drew ?_ | refine blk_alloc ?_ _)); exact BK132.out) k_ hk⟩) _ (Nat.le_refl _)) (Below.refl _ _) (Nat.le_refl _) (by simp) ?_; (case hd => rfl); (case hg => rfl); (case hr => first | (go_simp; done) | (go_simp; rfl)); (case hp => exact (Reps.c8 (show Kd.FK k29 _ _ (⟨(rd_T29 y112 1).f0, (rd_T29 y112 1).f1, (rd_T29 y112 1).f2, (rd_T29 y112 1).f3, (rd_T29 y112 1).f4, (rd_T29 y112 1).f5, (rd_T29 y112 1).f6, (rd_T29 y112 1).f7⟩ : S29) [.int .i64 ((rd_T29 y112 1).f0), .int .i64 ((rd_T29 y112 1).f1), .int .i64 ((rd_T29 y112 1).f2), .int .i64 ((rd_T29 y112 1).f3), .int .i64 ((rd_T29 y112 1).f4), .int .i64 ((rd_T29 y112 1).f5), .int .i64 ((rd_T29 y112 1).f6), .slice A141_7 ((rd_T29 y112 1).f7).length c141_7] from (k29_mkF _ _ (⟨(rd_T29 y112 1).f0, (rd_T29 y112 1).f1, (rd_T29 y112 1).f2, (rd_T29 y112 1).f3, (rd_T29 y112 1).f4, (rd_T29 y112 1).f5, (rd_T29 y112 1).f6, (rd_T29 y112 1).f7⟩ : S29) (Kd.V_reads' (Kd.V_mono (ok' := (fun k_ => some k_ ≠ (.slice (some ad141) y112.length co20 : Value).ownBlock ∧ some k_ ≠ (.slice Ao28 t115.length co28 : Value).ownBlock ∧ some k_ ≠ (.slice Ao25 t125.length co25 : Value).ownBlock ∧ some k_ ≠ (v129 : Value).ownBlock ∧ some k_ ≠ (v135 : Value).ownBlock ∧ some k_ ≠ (v139 : Value).ownBlock ∧ some k_ ≠ (v148 : Value).ownBlock ∧ k_ ≠ gb132)) (HL141_7.out) (fun k_ hk => ⟨hk.1.2, ⟨hk.1.1.1.1.1.1.1.2, ⟨hk.1.1.1.1.1.1.2, ⟨hk.1.1.1.1.1.2, ⟨hk.1.1.1.2, ⟨hk.1.1.2, ⟨hk.2, hk.1.1.1.1.2⟩⟩⟩⟩⟩⟩⟩))).2.1 (Kd.V_F (Kd.V_mono (ok' := (fun k_ => some k_ ≠ (.slice (some ad141) y112.length co20 : Value).ownBlock ∧ some k_ ≠ (.slice Ao28 t115.length co28 : Value).ownBlock ∧ some k_ ≠ (.slice Ao25 t125.length co25 : Value).ownBlock ∧ some k_ ≠ (v129 : Value).ownBlock ∧ some k_ ≠ (v135 : Value).ownBlock ∧ some k_ ≠ (v139 : Value).ownBlock ∧ some k_ ≠ (v148 : Value).ownBlock ∧ k_ ≠ gb132)) (HL141_7.out) (fun k_ hk => ⟨hk.1.2, ⟨hk.1.1.1.1.1.1.1.2, ⟨hk.1.1.1.1.1.1.2, ⟨hk.1.1.1.1.1.2, ⟨hk.1.1.1.2, ⟨hk.1.1.2, ⟨hk.2, hk.1.1.1.1.2⟩⟩⟩⟩⟩⟩⟩))))) (Reps.none _ _)))
                            intro v143 w32 ho33 hb hg_ hnew_
                            have HS8_ := (hb.cell (World.block_lt_of_cell? _ _ (hHeld.2.2.2.2.2.2.2.2.1))).trans (hHeld.2.2.2.2.2.2.2.2.1)
                            have HS9_ := (hb.cell (World.block_lt_of_cell? _ _ (hHeld.2.2.2.2.2.2.2.2.2.1))).trans (hHeld.2.2.2.2.2.2.2.2.2.1)
                            have HS10_ := (hb.cell (World.block_lt_of_cell? _ _ (hHeld.2.2.2.2.2.2.2.2.2.2.1))).trans (hHeld.2.2.2.2.2.2.2.2.2.2.1)
                            have HS11_ := (hb.cell (World.block_lt_of_cell? _ _ (hHeld.2.2.2.2.2.2.2.2.2.2.2.1))).trans (hHeld.2.2.2.2.2.2.2.2.2.2.2.1)
                            have HS12_ := (hb.cell (World.block_lt_of_cell? _ _ (hHeld.2.2.2.2.2.2.2.2.2.2.2.2.1))).trans (hHeld.2.2.2.2.2.2.2.2.2.2.2.2.1)
                            have HS13_ := (hb.cell (World.block_lt_of_cell? _ _ (hHeld.2.2.2.2.2.2.2.2.2.2.2.2.2.1))).trans (hHeld.2.2.2.2.2.2.2.2.2.2.2.2.2.1)
                            have HS14_ := (hb.cell (World.block_lt_of_cell? _ _ (hHeld.2.2.2.2.2.2.2.2.2.2.2.2.2.2.1))).trans (hHeld.2.2.2.2.2.2.2.2.2.2.2.2.2.2.1)
                            have HS15_ := (hb.cell (World.block_lt_of_cell? _ _ (hHeld.2.2.2.2.2.2.2.2.2.2.2.2.2.2.2.1))).trans (hHeld.2.2.2.2.2.2.2.2.2.2.2.2.2.2.2.1)
                            have HS16_ := (hb.cell (World.block_lt_of_cell? _ _ (hHeld.2.2.2.2.2.2.2.2.2.2.2.2.2.2.2.2.1))).trans (hHeld.2.2.2.2.2.2.2.2.2.2.2.2.2.2.2.2.1)
                            have HS17_ := (hb.cell (World.block_lt_of_cell? _ _ (hHeld.2.2.2.2.2.2.2.2.2.2.2.2.2.2.2.2.2.1))).trans (hHeld.2.2.2.2.2.2.2.2.2.2.2.2.2.2.2.2.2.1)
                            have HS18_ := (hb.cell (World.block_lt_of_cell? _ _ (hHeld.2.2.2.2.2.2.2.2.2.2.2.2.2.2.2.2.2.2.1))).trans (hHeld.2.2.2.2.2.2.2.2.2.2.2.2.2.2.2.2.2.2.1)
                            have HS19_ := (hb.cell (World.block_lt_of_cell? _ _ (hHeld.2.2.2.2.2.2.2.2.2.2.2.2.2.2.2.2.2.2.2.1))).trans (hHeld.2.2.2.2.2.2.2.2.2.2.2.2.2.2.2.2.2.2.2.1)
                            have HS20_ := (hb.cell (World.block_lt_of_cell? _ _ (hHeld.2.2.2.2.2.2.2.2.2.2.2.2.2.2.2.2.2.2.2.2.1))).trans (hHeld.2.2.2.2.2.2.2.2.2.2.2.2.2.2.2.2.2.2.2.2.1)
                            have HS21_ := (hb.cell (World.block_lt_of_cell? _ _ (hHeld.2.2.2.2.2.2.2.2.2.2.2.2.2.2.2.2.2.2.2.2.2.1))).trans (hHeld.2.2.2.2.2.2.2.2.2.2.2.2.2.2.2.2.2.2.2.2.2.1)
                            have HS22_ := (hb.cell (World.block_lt_of_cell? _ _ (hHeld.2.2.2.2.2.2.2.2.2.2.2.2.2.2.2.2.2.2.2.2.2.2.1))).trans (hHeld.2.2.2.2.2.2.2.2.2.2.2.2.2.2.2.2.2.2.2.2.2.2.1)
                            have HS23_ := (hb.cell (World.block_lt_of_cell? _ _ (hHeld.2.2.2.2.2.2.2.2.2.2.2.2.2.2.2.2.2.2.2.2.2.2.2.1))).trans (hHeld.2.2.2.2.2.2.2.2.2.2.2.2.2.2.2.2.2.2.2.2.2.2.2.1)
                            have HS24_ := (hb.cell (World.block_lt_of_cell? _ _ (hHeld.2.2.2.2.2.2.2.2.2.2.2.2.2.2.2.2.2.2.2.2.2.2.2.2.1))).trans (hHeld.2.2.2.2.2.2.2.2.2.2.2.2.2.2.2.2.2.2.2.2.2.2.2.2.1)
                            have HS25_ := (hb.cell (World.block_lt_of_cell? _ _ (hHeld.2.2.2.2.2.2.2.2.2.2.2.2.2.2.2.2.2.2.2.2.2.2.2.2.2.1))).trans (hHeld.2.2.2.2.2.2.2.2.2.2.2.2.2.2.2.2.2.2.2.2.2.2.2.2.2.1)
                            have HS26_ := (hb.cell (World.block_lt_of_cell? _ _ (hHeld.2.2.2.2.2.2.2.2.2.2.2.2.2.2.2.2.2.2.2.2.2.2.2.2.2.2.1))).trans (hHeld.2.2.2.2.2.2.2.2.2.2.2.2.2.2.2.2.2.2.2.2.2.2.2.2.2.2.1)
                            have HS27_ := (hb.cell (World.block_lt_of_cell? _ _ (hHeld.2.2.2.2.2.2.2.2.2.2.2.2.2.2.2.2.2.2.2.2.2.2.2.2.2.2.2.1))).trans (hHeld.2.2.2.2.2.2.2.2.2.2.2.2.2.2.2.2.2.2.2.2.2.2.2.2.2.2.2.1)
                            have HS28_ := (hb.cell (World.block_lt_of_cell? _ _ (hHeld.2.2.2.2.2.2.2.2.2.2.2.2.2.2.2.2.2.2.2.2.2.2.2.2.2.2.2.2.1))).trans (hHeld.2.2.2.2.2.2.2.2.2.2.2.2.2.2.2.2.2.2.2.2.2.2.2.2.2.2.2.2.1)
                            have HS29_ := (hb.cell (World.block_lt_of_cell? _ _ (hHeld.2.2.2.2.2.2.2.2.2.2.2.2.2.2.2.2.2.2.2.2.2.2.2.2.2.2.2.2.2.1))).trans (hHeld.2.2.2.2.2.2.2.2.2.2.2.2.2.2.2.2.2.2.2.2.2.2.2.2.2.2.2.2.2.1)
                            have HS30_ := (hb.cell (World.block_lt_of_cell? _ _ (hHeld.2.2.2.2.2.2.2.2.2.2.2.2.2.2.2.2.2.2.2.2.2.2.2.2.2.2.2.2.2.2.1))).trans (hHeld.2.2.2.2.2.2.2.2.2.2.2.2.2.2.2.2.2.2.2.2.2.2.2.2.2.2.2.2.2.2.1)
                            have HS31_ := (hb.cell (World.block_lt_of_cell? _ _ (hHeld.2.2.2.2.2.2.2.2.2.2.2.2.2.2.2.2.2.2.2.2.2.2.2.2.2.2.2.2.2.2.2))).trans (hHeld.2.2.2.2.2.2.2.2.2.2.2.2.2.2.2.2.2.2.2.2.2.2.2.2.2.2.2.2.2.2.2)
                            clear hg_ hnew_
                            (first | rw [← Ny142.out] at ho33 | (simp only [Int.reduceToNat] at ho33; rw [← Ny142.out] at ho33))
                            have n0_ := Aside0.mk (Kd.N_elder' (by (with_reducible repeat (first | apply Kd.N_alloc | apply Kd.N_drewN | apply Kd.N_drew)); exact HO114.out) (Kd.N_base ho33) hb)
                            have n1_ := Aside0.mk (Kd.N_elder' (by (with_reducible repeat (first | apply Kd.N_alloc | apply Kd.N_drewN | apply Kd.N_drew)); exact HO117.out) (Kd.N_base ho33) hb)
                            have n2_ := Aside0.mk (Kd.R_below (by (with_reducible repeat (first | apply Kd.R_alloc | apply Kd.R_drewN | apply Kd.R_drew)); exact HO127.out) hb)
                            have n3_ := Aside0.mk (Kd.N_elder' (by (with_reducible repeat (first | apply Kd.N_alloc | apply Kd.N_drewN | apply Kd.N_drew)); exact HO130.out) (Kd.N_base ho33) hb)
                            have n4_ := Aside0.mk (Kd.N_elder' (by (with_reducible repeat (first | apply Kd.N_alloc | apply Kd.N_drewN | apply Kd.N_drew)); exact HO136.out) (Kd.N_base ho33) hb)
                            have n5_ := Aside0.mk (Kd.N_elder' (by (with_reducible repeat (first | apply Kd.N_alloc | apply Kd.N_drewN | apply Kd.N_drew)); exact HO140.out) (Kd.N_base ho33) hb)
                            have n6_ := Aside0.mk (Kd.V_elder' (by (with_reducible repeat (first | apply Kd.V_alloc | apply Kd.V_drewN | apply Kd.V_drew)); exact HL141_7.out) (Kd.N_base ho33) hb)
                            have n7_ := Aside0.mk (Kd.V_elder' (by (with_reducible repeat (first | apply Kd.V_alloc | apply Kd.V_drewN | apply Kd.V_drew)); exact HL145_7.out) (Kd.N_base ho33) hb)
                            have n8_ := Aside0.mk (Kd.V_elder' (by (with_reducible repeat (first | apply Kd.V_alloc | apply Kd.V_drewN | apply Kd.V_drew)); exact HL146_7.out) (Kd.N_base ho33) hb)
                            have n9_ := Aside0.mk (Kd.N_elder' (by (with_reducible repeat (first | apply Kd.N_alloc | apply Kd.N_drewN | apply Kd.N_drew)); exact HO149.out) (Kd.N_base ho33) hb)
                            have n10_ := Aside0.mk (Kd.N_lower ho33 (below_size (by repeat (first | (with_reducible first | exact HB.out | apply below_alloc | apply pw_below_drewN | apply below_drew1 | refine below_set ?_ GE132.out) | exact HB.out))))
                            have n11_ := Aside0.mk (blk_below (g := gb132) (o := .cells #[.int .i64 t118, .int .i64 t119, .int .i64 t120, .int .i64 t121, .int .i64 t122, .int .i64 t123, .int .i64 t124, .slice Ao25 t125.length co25] 29 (0, 0)) (by (with_reducible repeat (first | refine blk_drewN ?_ _ | refine blk_drew ?_ | refine blk_alloc ?_ _)); exact BK132.out) hb)
                            have n12_ := Aside0.mk (Kd.C_below (by repeat (first | (with_reducible exact HR141_7.out) | (with_reducible refine Kd.C_alloc ?_ _) | (with_reducible refine Kd.C_drewN ?_ _) | (with_reducible refine Kd.C_drew ?_) | exact HR141_7.out)) hb)
                            have n13_ := Aside0.mk (Kd.C_below (by repeat (first | (with_reducible exact HR145_7.out) | (with_reducible refine Kd.C_alloc ?_ _) | (with_reducible refine Kd.C_drewN ?_ _) | (with_reducible refine Kd.C_drew ?_) | exact HR145_7.out)) hb)
                            have n14_ := Aside0.mk (Kd.C_below (by repeat (first | (with_reducible exact HR146_7.out) | (with_reducible refine Kd.C_alloc ?_ _) | (with_reducible refine Kd.C_drewN ?_ _) | (with_reducible refine Kd.C_drew ?_) | exact HR146_7.out)) hb)
                            have n15_ := Aside0.mk (below_step (by repeat (first | (with_reducible first | exact HB.out | apply below_alloc | apply pw_below_drewN | apply below_drew1 | refine below_set ?_ GE132.out) | exact HB.out)) hb)
                            clear HO114
                            clear HO117
                            clear HO127
                            clear HO130
                            clear HO136
                            clear HO140
                            clear HL141_7
                            clear HL145_7
                            clear HL146_7
                            clear HO149
                            clear BK132
                            clear HR141_7
                            clear HR145_7
                            clear HR146_7
                            clear HB
                            have HO114 := n0_
                            have HO117 := n1_
                            have HO127 := n2_
                            have HO130 := n3_
                            have HO136 := n4_
                            have HO140 := n5_
                            have HL141_7 := n6_
                            have HL145_7 := n7_
                            have HL146_7 := n8_
                            have HO149 := n9_
                            have HO144 := n10_
                            have BK132 := n11_
                            have HR141_7 := n12_
                            have HR145_7 := n13_
                            have HR146_7 := n14_
                            have HB := n15_
                            clear n0_ n1_ n2_ n3_ n4_ n5_ n6_ n7_ n8_ n9_ n10_ n11_ n12_ n13_ n14_ n15_
                            clear hb ho33
                            refine hK.out _ _ ⟨(blk_cell BK132.out 0).trans rfl, (blk_cell BK132.out 1).trans rfl, (blk_cell BK132.out 2).trans rfl, (blk_cell BK132.out 3).trans rfl, (blk_cell BK132.out 4).trans rfl, (blk_cell BK132.out 5).trans rfl, (blk_cell BK132.out 6).trans rfl, (blk_cell BK132.out 7).trans rfl, HS8_, HS9_, HS10_, HS11_, HS12_, HS13_, HS14_, HS15_, HS16_, HS17_, HS18_, HS19_, HS20_, HS21_, HS22_, HS23_, HS24_, HS25_, HS26_, HS27_, HS28_, HS29_, HS30_, HS31_⟩ (fun hHeld => ?_)
                            clear hK K
                            refine norm_ (a' := ?_) ?_ ?_
                            rotate_left
                            · show Act.put _ (some 37) _ = _
                              simp only [Act.put, List.setIfInBounds_toArray, List.set_cons_zero, List.set_cons_succ, i64_w, i32_w]
                              rfl
                            exact norm_ (by simp only [putAll, Act.put, List.setIfInBounds_toArray, List.set_cons_zero, List.set_cons_succ]) (hCont (v143, v148) _ ⟨hHeld, (by (with_reducible repeat (first | apply Kd.V_alloc | apply Kd.V_drewN | apply Kd.V_drew)); exact Kd.V_mono HL141_7.out (fun _ hk => ⟨hk.1.1.2, ⟨hk.1.1.1.1.1.1.1.1.2, ⟨hk.1.1.1.1.1.1.1.2, ⟨hk.1.1.1.1.1.1.2, ⟨hk.1.1.1.1.2, ⟨hk.1.1.1.2, ⟨hk.2, ⟨hk.1.2, hk.1.1.1.1.1.2⟩⟩⟩⟩⟩⟩⟩⟩)), (by (with_reducible repeat (first | apply Kd.V_alloc | apply Kd.V_drewN | apply Kd.V_drew)); exact Kd.V_mono HL145_7.out (fun _ hk => ⟨hk.1.1.2, ⟨hk.1.1.1.1.1.1.1.1.2, ⟨hk.1.1.1.1.1.1.1.2, ⟨hk.1.1.1.1.1.1.2, ⟨hk.1.1.1.1.2, ⟨hk.1.1.1.2, ⟨hk.2, ⟨hk.1.2, hk.1.1.1.1.1.2⟩⟩⟩⟩⟩⟩⟩⟩)), (by (with_reducible repeat (first | apply Kd.V_alloc | apply Kd.V_drewN | apply Kd.V_drew)); exact Kd.V_mono HL146_7.out (fun _ hk => ⟨hk.1.1.2, ⟨hk.1.1.1.1.1.1.1.1.2, ⟨hk.1.1.1.1.1.1.1.2, ⟨hk.1.1.1.1.1.1.2, ⟨hk.1.1.1.1.2, ⟨hk.1.1.1.2, ⟨hk.2, ⟨hk.1.2, hk.1.1.1.1.1.2⟩⟩⟩⟩⟩⟩⟩⟩)), (by (with_reducible repeat (first | apply Kd.N_alloc | apply Kd.N_drewN | apply Kd.N_drew)); exact Kd.N_mono HO114.out (fun _ hk => ⟨hk.1.1.1.1.1.1.1.2, ⟨hk.1.1.1.1.1.1.2, ⟨hk.1.1.1.1.1.2, ⟨hk.1.1.1.2, ⟨hk.1.1.2, ⟨hk.2, ⟨hk.1.2, hk.1.1.1.1.2⟩⟩⟩⟩⟩⟩⟩)), (by (with_reducible repeat (first | apply Kd.N_alloc | apply Kd.N_drewN | apply Kd.N_drew)); exact Kd.N_mono HO117.out (fun _ hk => ⟨hk.1.1.1.1.1.1.1, ⟨hk.1.1.1.1.1.1.2, ⟨hk.1.1.1.1.1.2, ⟨hk.1.1.1.2, ⟨hk.1.1.2, ⟨hk.2, ⟨hk.1.2, hk.1.1.1.1.2⟩⟩⟩⟩⟩⟩⟩)), (by (with_reducible repeat (first | apply Kd.R_alloc | apply Kd.R_drewN | apply Kd.R_drew)); exact HO127.out), (by (with_reducible repeat (first | apply Kd.N_alloc | apply Kd.N_drewN | apply Kd.N_drew)); exact Kd.N_mono HO130.out (fun _ hk => ⟨hk.1.1.1.1.1.2.1, ⟨hk.1.1.1.1.1.2.2, ⟨hk.1.1.1.1.1.1, ⟨hk.1.1.1.2, ⟨hk.1.1.2, ⟨hk.2, ⟨hk.1.2, hk.1.1.1.1.2⟩⟩⟩⟩⟩⟩⟩)), (by (with_reducible repeat (first | apply Kd.N_alloc | apply Kd.N_drewN | apply Kd.N_drew)); exact Kd.N_mono HO136.out (fun _ hk => ⟨hk.1.1.1.1, ⟨hk.1.1.1.2.1, ⟨hk.1.1.1.2.2.1, ⟨hk.1.1.1.2.2.2.1, ⟨hk.1.1.2, ⟨hk.2, ⟨hk.1.2, hk.1.1.1.2.2.2.2⟩⟩⟩⟩⟩⟩⟩)), (by (with_reducible repeat (first | apply Kd.N_alloc | apply Kd.N_drewN | apply Kd.N_drew)); exact Kd.N_mono HO140.out (fun _ hk => ⟨hk.1.1.1, ⟨hk.1.1.2.1, ⟨hk.1.1.2.2.1, ⟨hk.1.1.2.2.2.1, ⟨hk.1.1.2.2.2.2.1, ⟨hk.2, ⟨hk.1.2, hk.1.1.2.2.2.2.2⟩⟩⟩⟩⟩⟩⟩)), (by (with_reducible repeat (first | apply Kd.N_alloc | apply Kd.N_drewN | apply Kd.N_drew)); exact HO144.out), (by (with_reducible repeat (first | apply Kd.N_alloc | apply Kd.N_drewN | apply Kd.N_drew)); exact Kd.N_mono HO149.out (fun _ hk => ⟨hk.1.1, ⟨hk.1.2.1, ⟨hk.1.2.2.1, ⟨hk.1.2.2.2.1, ⟨hk.1.2.2.2.2.1, ⟨hk.1.2.2.2.2.2.1, ⟨hk.2, hk.1.2.2.2.2.2.2⟩⟩⟩⟩⟩⟩⟩)), (by (with_reducible repeat (first | refine blk_drewN ?_ _ | refine blk_drew ?_ | refine blk_alloc ?_ _)); exact BK132.out), (by repeat (first | (with_reducible first | exact HB.out | apply below_alloc | apply pw_below_drewN | apply below_drew1 | refine below_set ?_ GE132.out) | exact HB.out))⟩)
                        rintro ⟨v143, v148⟩ w34 ⟨hS_, h0_, h1_, h2_, h3_, h4_, h5_, h6_, h7_, h8_, h9_, h10_, h11_, h12_⟩
                        have n0_ : Aside0 (Kd.V Kd.string 9 w34 w.heap.size (fun k_ => some k_ ≠ (.slice (some ad141) y112.length co20 : Value).ownBlock ∧ some k_ ≠ (.slice Ao28 t115.length co28 : Value).ownBlock ∧ some k_ ≠ (.slice Ao25 t125.length co25 : Value).ownBlock ∧ some k_ ≠ (v129 : Value).ownBlock ∧ some k_ ≠ (v135 : Value).ownBlock ∧ some k_ ≠ (v139 : Value).ownBlock ∧ some k_ ≠ (v143 : Value).ownBlock ∧ some k_ ≠ (v148 : Value).ownBlock ∧ k_ ≠ gb132) (.slice A141_7 ((rd_T29 y112 1).f7).length c141_7) ((rd_T29 y112 1).f7)) := ⟨h0_⟩
                        have n1_ : Aside0 (Kd.V Kd.string 9 w34 w.heap.size (fun k_ => some k_ ≠ (.slice (some ad141) y112.length co20 : Value).ownBlock ∧ some k_ ≠ (.slice Ao28 t115.length co28 : Value).ownBlock ∧ some k_ ≠ (.slice Ao25 t125.length co25 : Value).ownBlock ∧ some k_ ≠ (v129 : Value).ownBlock ∧ some k_ ≠ (v135 : Value).ownBlock ∧ some k_ ≠ (v139 : Value).ownBlock ∧ some k_ ≠ (v143 : Value).ownBlock ∧ some k_ ≠ (v148 : Value).ownBlock ∧ k_ ≠ gb132) (.slice A145_7 ((rd_T29 y112 0).f7).length c145_7) ((rd_T29 y112 0).f7)) := ⟨h1_⟩
                        have n2_ : Aside0 (Kd.V Kd.string 9 w34 w.heap.size (fun k_ => some k_ ≠ (.slice (some ad141) y112.length co20 : Value).ownBlock ∧ some k_ ≠ (.slice Ao28 t115.length co28 : Value).ownBlock ∧ some k_ ≠ (.slice Ao25 t125.length co25 : Value).ownBlock ∧ some k_ ≠ (v129 : Value).ownBlock ∧ some k_ ≠ (v135 : Value).ownBlock ∧ some k_ ≠ (v139 : Value).ownBlock ∧ some k_ ≠ (v143 : Value).ownBlock ∧ some k_ ≠ (v148 : Value).ownBlock ∧ k_ ≠ gb132) (.slice A146_7 ((rd_T29 y112 2).f7).length c146_7) ((rd_T29 y112 2).f7)) := ⟨h2_⟩
                        have n3_ : Aside0 (Kd.N k29 29 w34 w.heap.size (fun k_ => some k_ ≠ (.slice Ao28 t115.length co28 : Value).ownBlock ∧ some k_ ≠ (.slice Ao25 t125.length co25 : Value).ownBlock ∧ some k_ ≠ (v129 : Value).ownBlock ∧ some k_ ≠ (v135 : Value).ownBlock ∧ some k_ ≠ (v139 : Value).ownBlock ∧ some k_ ≠ (v143 : Value).ownBlock ∧ some k_ ≠ (v148 : Value).ownBlock ∧ k_ ≠ gb132) (.slice (some ad141) y112.length co20) y112) := ⟨h3_⟩
                        have n4_ : Aside0 (Kd.N (Kd.slice 29 k29) 22 w34 w.heap.size (fun k_ => some k_ ≠ (.slice (some ad141) y112.length co20 : Value).ownBlock ∧ some k_ ≠ (.slice Ao25 t125.length co25 : Value).ownBlock ∧ some k_ ≠ (v129 : Value).ownBlock ∧ some k_ ≠ (v135 : Value).ownBlock ∧ some k_ ≠ (v139 : Value).ownBlock ∧ some k_ ≠ (v143 : Value).ownBlock ∧ some k_ ≠ (v148 : Value).ownBlock ∧ k_ ≠ gb132) (.slice Ao28 t115.length co28) t115) := ⟨h4_⟩
                        have n5_ : Aside0 (Kd.R Kd.string 9 w34 w.heap.size (fun _ => True) (.slice Ao25 t125.length co25) t125) := ⟨h5_⟩
                        have n6_ : Aside0 (Kd.N k29 29 w34 w.heap.size (fun k_ => some k_ ≠ (.slice (some ad141) y112.length co20 : Value).ownBlock ∧ some k_ ≠ (.slice Ao28 t115.length co28 : Value).ownBlock ∧ some k_ ≠ (.slice Ao25 t125.length co25 : Value).ownBlock ∧ some k_ ≠ (v135 : Value).ownBlock ∧ some k_ ≠ (v139 : Value).ownBlock ∧ some k_ ≠ (v143 : Value).ownBlock ∧ some k_ ≠ (v148 : Value).ownBlock ∧ k_ ≠ gb132) v129 t128) := ⟨h6_⟩
                        have n7_ : Aside0 (Kd.N k29 29 w34 w.heap.size (fun k_ => some k_ ≠ (.slice (some ad141) y112.length co20 : Value).ownBlock ∧ some k_ ≠ (.slice Ao28 t115.length co28 : Value).ownBlock ∧ some k_ ≠ (.slice Ao25 t125.length co25 : Value).ownBlock ∧ some k_ ≠ (v129 : Value).ownBlock ∧ some k_ ≠ (v139 : Value).ownBlock ∧ some k_ ≠ (v143 : Value).ownBlock ∧ some k_ ≠ (v148 : Value).ownBlock ∧ k_ ≠ gb132) v135 t133) := ⟨h7_⟩
                        have n8_ : Aside0 (Kd.N k29 29 w34 w.heap.size (fun k_ => some k_ ≠ (.slice (some ad141) y112.length co20 : Value).ownBlock ∧ some k_ ≠ (.slice Ao28 t115.length co28 : Value).ownBlock ∧ some k_ ≠ (.slice Ao25 t125.length co25 : Value).ownBlock ∧ some k_ ≠ (v129 : Value).ownBlock ∧ some k_ ≠ (v135 : Value).ownBlock ∧ some k_ ≠ (v143 : Value).ownBlock ∧ some k_ ≠ (v148 : Value).ownBlock ∧ k_ ≠ gb132) v139 t137) := ⟨h8_⟩
                        have n9_ : Aside0 (Kd.N k29 29 w34 w.heap.size (fun k_ => some k_ ≠ (.slice (some ad141) y112.length co20 : Value).ownBlock ∧ some k_ ≠ (.slice Ao28 t115.length co28 : Value).ownBlock ∧ some k_ ≠ (.slice Ao25 t125.length co25 : Value).ownBlock ∧ some k_ ≠ (v129 : Value).ownBlock ∧ some k_ ≠ (v135 : Value).ownBlock ∧ some k_ ≠ (v139 : Value).ownBlock ∧ some k_ ≠ (v148 : Value).ownBlock ∧ k_ ≠ gb132) v143 y142) := ⟨h9_⟩
                        have n10_ : Aside0 (Kd.N k29 29 w34 w.heap.size (fun k_ => some k_ ≠ (.slice (some ad141) y112.length co20 : Value).ownBlock ∧ some k_ ≠ (.slice Ao28 t115.length co28 : Value).ownBlock ∧ some k_ ≠ (.slice Ao25 t125.length co25 : Value).ownBlock ∧ some k_ ≠ (v129 : Value).ownBlock ∧ some k_ ≠ (v135 : Value).ownBlock ∧ some k_ ≠ (v139 : Value).ownBlock ∧ some k_ ≠ (v143 : Value).ownBlock ∧ k_ ≠ gb132) v148 y147) := ⟨h10_⟩
                        have n11_ : Aside0 (w34.heap[gb132]? = some (.cells #[.int .i64 t118, .int .i64 t119, .int .i64 t120, .int .i64 t121, .int .i64 t122, .int .i64 t123, .int .i64 t124, .slice Ao25 t125.length co25] 29 (0, 0))) := ⟨h11_⟩
                        have n12_ : Aside0 (Below w.heap.size w w34) := ⟨h12_⟩
                        clear HO114
                        clear HO117
                        clear HO127
                        clear HO130
                        clear HO136
                        clear HO140
                        clear BK132
                        clear HB
                        clear h0_ h1_ h2_ h3_ h4_ h5_ h6_ h7_ h8_ h9_ h10_ h11_ h12_
                        have HL141_7 := n0_
                        have HL145_7 := n1_
                        have HL146_7 := n2_
                        have HO114 := n3_
                        have HO117 := n4_
                        have HO127 := n5_
                        have HO130 := n6_
                        have HO136 := n7_
                        have HO140 := n8_
                        have HO144 := n9_
                        have HO149 := n10_
                        have BK132 := n11_
                        have HB := n12_
                        clear n0_ n1_ n2_ n3_ n4_ n5_ n6_ n7_ n8_ n9_ n10_ n11_ n12_
                        have hHeld : w34.cell? ⟨gb132, 0, none⟩ = some (.int .i64 t118) ∧ w34.cell? ⟨gb132, 1, none⟩ = some (.int .i64 t119) ∧ w34.cell? ⟨gb132, 2, none⟩ = some (.int .i64 t120) ∧ w34.cell? ⟨gb132, 3, none⟩ = some (.int .i64 t121) ∧ w34.cell? ⟨gb132, 4, none⟩ = some (.int .i64 t122) ∧ w34.cell? ⟨gb132, 5, none⟩ = some (.int .i64 t123) ∧ w34.cell? ⟨gb132, 6, none⟩ = some (.int .i64 t124) ∧ w34.cell? ⟨gb132, 7, none⟩ = some (.slice Ao25 t125.length co25) ∧ w34.cell? ⟨ad141.block, ad141.off + 8, none⟩ = some (.int .i64 ((rd_T29 y112 1).f0)) ∧ w34.cell? ⟨ad141.block, ad141.off + 8 + 1, none⟩ = some (.int .i64 ((rd_T29 y112 1).f1)) ∧ w34.cell? ⟨ad141.block, ad141.off + 8 + 2, none⟩ = some (.int .i64 ((rd_T29 y112 1).f2)) ∧ w34.cell? ⟨ad141.block, ad141.off + 8 + 3, none⟩ = some (.int .i64 ((rd_T29 y112 1).f3)) ∧ w34.cell? ⟨ad141.block, ad141.off + 8 + 4, none⟩ = some (.int .i64 ((rd_T29 y112 1).f4)) ∧ w34.cell? ⟨ad141.block, ad141.off + 8 + 5, none⟩ = some (.int .i64 ((rd_T29 y112 1).f5)) ∧ w34.cell? ⟨ad141.block, ad141.off + 8 + 6, none⟩ = some (.int .i64 ((rd_T29 y112 1).f6)) ∧ w34.cell? ⟨ad141.block, ad141.off + 8 + 7, none⟩ = some (.slice A141_7 ((rd_T29 y112 1).f7).length c141_7) ∧ w34.cell? ad141 = some (.int .i64 ((rd_T29 y112 0).f0)) ∧ w34.cell? ⟨ad141.block, ad141.off + 1, none⟩ = some (.int .i64 ((rd_T29 y112 0).f1)) ∧ w34.cell? ⟨ad141.block, ad141.off + 2, none⟩ = some (.int .i64 ((rd_T29 y112 0).f2)) ∧ w34.cell? ⟨ad141.block, ad141.off + 3, none⟩ = some (.int .i64 ((rd_T29 y112 0).f3)) ∧ w34.cell? ⟨ad141.block, ad141.off + 4, none⟩ = some (.int .i64 ((rd_T29 y112 0).f4)) ∧ w34.cell? ⟨ad141.block, ad141.off + 5, none⟩ = some (.int .i64 ((rd_T29 y112 0).f5)) ∧ w34.cell? ⟨ad141.block, ad141.off + 6, none⟩ = some (.int .i64 ((rd_T29 y112 0).f6)) ∧ w34.cell? ⟨ad141.block, ad141.off + 7, none⟩ = some (.slice A145_7 ((rd_T29 y112 0).f7).length c145_7) ∧ w34.cell? ⟨ad141.block, ad141.off + 16, none⟩ = some (.int .i64 ((rd_T29 y112 2).f0)) ∧ w34.cell? ⟨ad141.block, ad141.off + 16 + 1, none⟩ = some (.int .i64 ((rd_T29 y112 2).f1)) ∧ w34.cell? ⟨ad141.block, ad141.off + 16 + 2, none⟩ = some (.int .i64 ((rd_T29 y112 2).f2)) ∧ w34.cell? ⟨ad141.block, ad141.off + 16 + 3, none⟩ = some (.int .i64 ((rd_T29 y112 2).f3)) ∧ w34.cell? ⟨ad141.block, ad141.off + 16 + 4, none⟩ = some (.int .i64 ((rd_T29 y112 2).f4)) ∧ w34.cell? ⟨ad141.block, ad141.off + 16 + 5, none⟩ = some (.int .i64 ((rd_T29 y112 2).f5)) ∧ w34.cell? ⟨ad141.block, ad141.off + 16 + 6, none⟩ = some (.int .i64 ((rd_T29 y112 2).f6)) ∧ w34.cell? ⟨ad141.block, ad141.off + 16 + 7, none⟩ = some (.slice A146_7 ((rd_T29 y112 2).f7).length c146_7) := hS_
                        obtain ⟨Ao35, co35, eo35⟩ := Kd.N_slice HO144.out
                        (first | subst eo35 | (injection eo35 with f1_ f2_ f3_; have f4_ := f1_.symm; have f5_ := f3_.symm; clear f1_ f2_ f3_; subst f4_; subst f5_))
                        obtain ⟨Ao36, co36, eo36⟩ := Kd.N_slice HO149.out
                        (first | subst eo36 | (injection eo36 with f1_ f2_ f3_; have f4_ := f1_.symm; have f5_ := f3_.symm; clear f1_ f2_ f3_; subst f4_; subst f5_))
                        refine norm_ (a' := ?_) ?_ ?_
                        rotate_left
                        · simp only [putAll, Act.put, List.setIfInBounds_toArray, List.set_cons_zero, List.set_cons_succ]
                          rfl
                        refine one_ (i := 12) (N := some 45) #[true, true, true, true, true, true, true, true, true, true, true, true, true, false, false, false, false, false, false, false, false, false, false, false, false, false, false, false, false, false, false, false, false, false, false, false, false, false, false, false, false, false, false, false, false, false, false, false, false, false, false] rfl rfl (one_of HT_.out (by kernel_rfl)) (by decide) (fun K hK => ?_)
                        refine Kd.N_lit_step (Kd.slice 29 k29) _ 22 ?hg (N' := 45) ?hd (xs := ([y142, y147] : List (List (S29)))) (inner := [.slice Ao35 y142.length co35, .slice Ao36 y147.length co36]) (ok := (fun k_ => some k_ ≠ (.slice (some ad141) y112.length co20 : Value).ownBlock ∧ some k_ ≠ (.slice Ao28 t115.length co28 : Value).ownBlock ∧ some k_ ≠ (.slice Ao25 t125.length co25 : Value).ownBlock ∧ some k_ ≠ (v129 : Value).ownBlock ∧ some k_ ≠ (v135 : Value).ownBlock ∧ some k_ ≠ (v139 : Value).ownBlock ∧ k_ ≠ gb132)) (okp := (fun k_ => some k_ ≠ (.slice (some ad141) y112.length co20 : Value).ownBlock ∧ some k_ ≠ (.slice Ao28 t115.length co28 : Value).ownBlock ∧ some k_ ≠ (.slice Ao25 t125.length co25 : Value).ownBlock ∧ some k_ ≠ (v129 : Value).ownBlock ∧ some k_ ≠ (v135 : Value).ownBlock ∧ some k_ ≠ (v139 : Value).ownBlock ∧ k_ ≠ gb132)) ?hr ?hp (fun _ hk => hk) ((show ∀ k_, w34.heap.size ≤ k_ → (fun k_ => some k_ ≠ (.slice (some ad141) y112.length co20 : Value).ownBlock ∧ some k_ ≠ (.slice Ao28 t115.length co28 : Value).ownBlock ∧ some k_ ≠ (.slice Ao25 t125.length co25 : Value).ownBlock ∧ some k_ ≠ (v129 : Value).ownBlock ∧ some k_ ≠ (v135 : Value).ownBlock ∧ some k_ ≠ (v139 : Value).ownBlock ∧ k_ ≠ gb132) k_ from fun k_ hk => ⟨Kd.fresh' (Kd.N_lt (by (with_reducible repeat (first | apply Kd.N_alloc | apply Kd.N_drewN | apply Kd.N_drew)); exact HO114.out)) k_ hk, Kd.fresh' (Kd.N_lt (by (with_reducible repeat (first | apply Kd.N_alloc | apply Kd.N_drewN | apply Kd.N_drew)); exact HO117.out)) k_ hk, Kd.fresh' (Kd.R_lt (by (with_reducible repeat (first | apply Kd.R_alloc | apply Kd.R_drewN | apply Kd.R_drew)); exact HO127.out)) k_ hk, Kd.fresh' (Kd.N_lt (by (with_reducible repeat (first | apply Kd.N_alloc | apply Kd.N_drewN | apply Kd.N_drew)); exact HO130.out)) k_ hk, Kd.fresh' (Kd.N_lt (by (with_reducible repeat (first | apply Kd.N_alloc | apply Kd.N_drewN | apply Kd.N_drew)); exact HO136.out)) k_ hk, Kd.fresh' (Kd.N_lt (by (with_reducible repeat (first | apply Kd.N_alloc | apply Kd.N_drewN | apply Kd.N_drew)); exact HO140.out)) k_ hk, Kd.freshB (g := gb132) (o := .cells #[.int .i64 t118, .int .i64 t119, .int .i64 t120, .int .i64 t121, .int .i64 t122, .int .i64 t123, .int .i64 t124, .slice Ao25 t125.length co25] 29 (0, 0)) (by (with_reducible repeat (first | refine blk_drewN ?_ _ | refine blk_drew ?_ | refine blk_alloc ?_ _)); exact BK132.out) k_ hk⟩) _ (Nat.le_refl _)) (Below.refl _ _) (Nat.le_refl _) (by simp) ?_; (case hd => rfl); (case hg => rfl); (case hr => first | (go_simp; done) | (go_simp; rfl)); (case hp => exact (Reps.one (show Kd.FK (Kd.slice 29 k29) _ _ y142 [.slice Ao35 y142.length co35] from (Kd.FK_slice_mk (Kd.N_reads' (Kd.N_mono (ok' := (fun k_ => some k_ ≠ (.slice (some ad141) y112.length co20 : Value).ownBlock ∧ some k_ ≠ (.slice Ao28 t115.length co28 : Value).ownBlock ∧ some k_ ≠ (.slice Ao25 t125.length co25 : Value).ownBlock ∧ some k_ ≠ (v129 : Value).ownBlock ∧ some k_ ≠ (v135 : Value).ownBlock ∧ some k_ ≠ (v139 : Value).ownBlock ∧ k_ ≠ gb132)) (HO144.out) (fun k_ hk => ⟨hk.1, ⟨hk.2.1, ⟨hk.2.2.1, ⟨hk.2.2.2.1, ⟨hk.2.2.2.2.1, ⟨hk.2.2.2.2.2.1, hk.2.2.2.2.2.2.2⟩⟩⟩⟩⟩⟩))).2.1 (Kd.N_F (Kd.N_mono (ok' := (fun k_ => some k_ ≠ (.slice (some ad141) y112.length co20 : Value).ownBlock ∧ some k_ ≠ (.slice Ao28 t115.length co28 : Value).ownBlock ∧ some k_ ≠ (.slice Ao25 t125.length co25 : Value).ownBlock ∧ some k_ ≠ (v129 : Value).ownBlock ∧ some k_ ≠ (v135 : Value).ownBlock ∧ some k_ ≠ (v139 : Value).ownBlock ∧ k_ ≠ gb132)) (HO144.out) (fun k_ hk => ⟨hk.1, ⟨hk.2.1, ⟨hk.2.2.1, ⟨hk.2.2.2.1, ⟨hk.2.2.2.2.1, ⟨hk.2.2.2.2.2.1, hk.2.2.2.2.2.2.2⟩⟩⟩⟩⟩⟩))))) (Reps.one (show Kd.FK (Kd.slice 29 k29) _ _ y147 [.slice Ao36 y147.length co36] from (Kd.FK_slice_mk (Kd.N_reads' (Kd.N_mono (ok' := (fun k_ => some k_ ≠ (.slice (some ad141) y112.length co20 : Value).ownBlock ∧ some k_ ≠ (.slice Ao28 t115.length co28 : Value).ownBlock ∧ some k_ ≠ (.slice Ao25 t125.length co25 : Value).ownBlock ∧ some k_ ≠ (v129 : Value).ownBlock ∧ some k_ ≠ (v135 : Value).ownBlock ∧ some k_ ≠ (v139 : Value).ownBlock ∧ k_ ≠ gb132)) (HO149.out) (fun k_ hk => ⟨hk.1, ⟨hk.2.1, ⟨hk.2.2.1, ⟨hk.2.2.2.1, ⟨hk.2.2.2.2.1, ⟨hk.2.2.2.2.2.1, hk.2.2.2.2.2.2.2⟩⟩⟩⟩⟩⟩))).2.1 (Kd.N_F (Kd.N_mono (ok' := (fun k_ => some k_ ≠ (.slice (some ad141) y112.length co20 : Value).ownBlock ∧ some k_ ≠ (.slice Ao28 t115.length co28 : Value).ownBlock ∧ some k_ ≠ (.slice Ao25 t125.length co25 : Value).ownBlock ∧ some k_ ≠ (v129 : Value).ownBlock ∧ some k_ ≠ (v135 : Value).ownBlock ∧ some k_ ≠ (v139 : Value).ownBlock ∧ k_ ≠ gb132)) (HO149.out) (fun k_ hk => ⟨hk.1, ⟨hk.2.1, ⟨hk.2.2.1, ⟨hk.2.2.2.1, ⟨hk.2.2.2.2.1, ⟨hk.2.2.2.2.2.1, hk.2.2.2.2.2.2.2⟩⟩⟩⟩⟩⟩))))) (Reps.none _ _))))
                        intro v151 w37 ho38 hb hg_ hnew_
                        have HS8_ := (hb.cell (World.block_lt_of_cell? _ _ (hHeld.2.2.2.2.2.2.2.2.1))).trans (hHeld.2.2.2.2.2.2.2.2.1)
                        have HS9_ := (hb.cell (World.block_lt_of_cell? _ _ (hHeld.2.2.2.2.2.2.2.2.2.1))).trans (hHeld.2.2.2.2.2.2.2.2.2.1)
                        have HS10_ := (hb.cell (World.block_lt_of_cell? _ _ (hHeld.2.2.2.2.2.2.2.2.2.2.1))).trans (hHeld.2.2.2.2.2.2.2.2.2.2.1)
                        have HS11_ := (hb.cell (World.block_lt_of_cell? _ _ (hHeld.2.2.2.2.2.2.2.2.2.2.2.1))).trans (hHeld.2.2.2.2.2.2.2.2.2.2.2.1)
                        have HS12_ := (hb.cell (World.block_lt_of_cell? _ _ (hHeld.2.2.2.2.2.2.2.2.2.2.2.2.1))).trans (hHeld.2.2.2.2.2.2.2.2.2.2.2.2.1)
                        have HS13_ := (hb.cell (World.block_lt_of_cell? _ _ (hHeld.2.2.2.2.2.2.2.2.2.2.2.2.2.1))).trans (hHeld.2.2.2.2.2.2.2.2.2.2.2.2.2.1)
                        have HS14_ := (hb.cell (World.block_lt_of_cell? _ _ (hHeld.2.2.2.2.2.2.2.2.2.2.2.2.2.2.1))).trans (hHeld.2.2.2.2.2.2.2.2.2.2.2.2.2.2.1)
                        have HS15_ := (hb.cell (World.block_lt_of_cell? _ _ (hHeld.2.2.2.2.2.2.2.2.2.2.2.2.2.2.2.1))).trans (hHeld.2.2.2.2.2.2.2.2.2.2.2.2.2.2.2.1)
                        have HS16_ := (hb.cell (World.block_lt_of_cell? _ _ (hHeld.2.2.2.2.2.2.2.2.2.2.2.2.2.2.2.2.1))).trans (hHeld.2.2.2.2.2.2.2.2.2.2.2.2.2.2.2.2.1)
                        have HS17_ := (hb.cell (World.block_lt_of_cell? _ _ (hHeld.2.2.2.2.2.2.2.2.2.2.2.2.2.2.2.2.2.1))).trans (hHeld.2.2.2.2.2.2.2.2.2.2.2.2.2.2.2.2.2.1)
                        have HS18_ := (hb.cell (World.block_lt_of_cell? _ _ (hHeld.2.2.2.2.2.2.2.2.2.2.2.2.2.2.2.2.2.2.1))).trans (hHeld.2.2.2.2.2.2.2.2.2.2.2.2.2.2.2.2.2.2.1)
                        have HS19_ := (hb.cell (World.block_lt_of_cell? _ _ (hHeld.2.2.2.2.2.2.2.2.2.2.2.2.2.2.2.2.2.2.2.1))).trans (hHeld.2.2.2.2.2.2.2.2.2.2.2.2.2.2.2.2.2.2.2.1)
                        have HS20_ := (hb.cell (World.block_lt_of_cell? _ _ (hHeld.2.2.2.2.2.2.2.2.2.2.2.2.2.2.2.2.2.2.2.2.1))).trans (hHeld.2.2.2.2.2.2.2.2.2.2.2.2.2.2.2.2.2.2.2.2.1)
                        have HS21_ := (hb.cell (World.block_lt_of_cell? _ _ (hHeld.2.2.2.2.2.2.2.2.2.2.2.2.2.2.2.2.2.2.2.2.2.1))).trans (hHeld.2.2.2.2.2.2.2.2.2.2.2.2.2.2.2.2.2.2.2.2.2.1)
                        have HS22_ := (hb.cell (World.block_lt_of_cell? _ _ (hHeld.2.2.2.2.2.2.2.2.2.2.2.2.2.2.2.2.2.2.2.2.2.2.1))).trans (hHeld.2.2.2.2.2.2.2.2.2.2.2.2.2.2.2.2.2.2.2.2.2.2.1)
                        have HS23_ := (hb.cell (World.block_lt_of_cell? _ _ (hHeld.2.2.2.2.2.2.2.2.2.2.2.2.2.2.2.2.2.2.2.2.2.2.2.1))).trans (hHeld.2.2.2.2.2.2.2.2.2.2.2.2.2.2.2.2.2.2.2.2.2.2.2.1)
                        have HS24_ := (hb.cell (World.block_lt_of_cell? _ _ (hHeld.2.2.2.2.2.2.2.2.2.2.2.2.2.2.2.2.2.2.2.2.2.2.2.2.1))).trans (hHeld.2.2.2.2.2.2.2.2.2.2.2.2.2.2.2.2.2.2.2.2.2.2.2.2.1)
                        have HS25_ := (hb.cell (World.block_lt_of_cell? _ _ (hHeld.2.2.2.2.2.2.2.2.2.2.2.2.2.2.2.2.2.2.2.2.2.2.2.2.2.1))).trans (hHeld.2.2.2.2.2.2.2.2.2.2.2.2.2.2.2.2.2.2.2.2.2.2.2.2.2.1)
                        have HS26_ := (hb.cell (World.block_lt_of_cell? _ _ (hHeld.2.2.2.2.2.2.2.2.2.2.2.2.2.2.2.2.2.2.2.2.2.2.2.2.2.2.1))).trans (hHeld.2.2.2.2.2.2.2.2.2.2.2.2.2.2.2.2.2.2.2.2.2.2.2.2.2.2.1)
                        have HS27_ := (hb.cell (World.block_lt_of_cell? _ _ (hHeld.2.2.2.2.2.2.2.2.2.2.2.2.2.2.2.2.2.2.2.2.2.2.2.2.2.2.2.1))).trans (hHeld.2.2.2.2.2.2.2.2.2.2.2.2.2.2.2.2.2.2.2.2.2.2.2.2.2.2.2.1)
                        have HS28_ := (hb.cell (World.block_lt_of_cell? _ _ (hHeld.2.2.2.2.2.2.2.2.2.2.2.2.2.2.2.2.2.2.2.2.2.2.2.2.2.2.2.2.1))).trans (hHeld.2.2.2.2.2.2.2.2.2.2.2.2.2.2.2.2.2.2.2.2.2.2.2.2.2.2.2.2.1)
                        have HS29_ := (hb.cell (World.block_lt_of_cell? _ _ (hHeld.2.2.2.2.2.2.2.2.2.2.2.2.2.2.2.2.2.2.2.2.2.2.2.2.2.2.2.2.2.1))).trans (hHeld.2.2.2.2.2.2.2.2.2.2.2.2.2.2.2.2.2.2.2.2.2.2.2.2.2.2.2.2.2.1)
                        have HS30_ := (hb.cell (World.block_lt_of_cell? _ _ (hHeld.2.2.2.2.2.2.2.2.2.2.2.2.2.2.2.2.2.2.2.2.2.2.2.2.2.2.2.2.2.2.1))).trans (hHeld.2.2.2.2.2.2.2.2.2.2.2.2.2.2.2.2.2.2.2.2.2.2.2.2.2.2.2.2.2.2.1)
                        have HS31_ := (hb.cell (World.block_lt_of_cell? _ _ (hHeld.2.2.2.2.2.2.2.2.2.2.2.2.2.2.2.2.2.2.2.2.2.2.2.2.2.2.2.2.2.2.2))).trans (hHeld.2.2.2.2.2.2.2.2.2.2.2.2.2.2.2.2.2.2.2.2.2.2.2.2.2.2.2.2.2.2.2)
                        clear hg_ hnew_
                        (first | rw [← Ny150.out] at ho38 | (simp only [Int.reduceToNat] at ho38; rw [← Ny150.out] at ho38))
                        have n0_ := Aside0.mk (Kd.N_elder' (by (with_reducible repeat (first | apply Kd.N_alloc | apply Kd.N_drewN | apply Kd.N_drew)); exact HO114.out) (Kd.N_base ho38) hb)
                        have n1_ := Aside0.mk (Kd.N_elder' (by (with_reducible repeat (first | apply Kd.N_alloc | apply Kd.N_drewN | apply Kd.N_drew)); exact HO117.out) (Kd.N_base ho38) hb)
                        have n2_ := Aside0.mk (Kd.R_below (by (with_reducible repeat (first | apply Kd.R_alloc | apply Kd.R_drewN | apply Kd.R_drew)); exact HO127.out) hb)
                        have n3_ := Aside0.mk (Kd.N_elder' (by (with_reducible repeat (first | apply Kd.N_alloc | apply Kd.N_drewN | apply Kd.N_drew)); exact HO130.out) (Kd.N_base ho38) hb)
                        have n4_ := Aside0.mk (Kd.N_elder' (by (with_reducible repeat (first | apply Kd.N_alloc | apply Kd.N_drewN | apply Kd.N_drew)); exact HO136.out) (Kd.N_base ho38) hb)
                        have n5_ := Aside0.mk (Kd.N_elder' (by (with_reducible repeat (first | apply Kd.N_alloc | apply Kd.N_drewN | apply Kd.N_drew)); exact HO140.out) (Kd.N_base ho38) hb)
                        have n6_ := Aside0.mk (Kd.V_elder' (by (with_reducible repeat (first | apply Kd.V_alloc | apply Kd.V_drewN | apply Kd.V_drew)); exact HL141_7.out) (Kd.N_base ho38) hb)
                        have n7_ := Aside0.mk (Kd.V_elder' (by (with_reducible repeat (first | apply Kd.V_alloc | apply Kd.V_drewN | apply Kd.V_drew)); exact HL145_7.out) (Kd.N_base ho38) hb)
                        have n8_ := Aside0.mk (Kd.V_elder' (by (with_reducible repeat (first | apply Kd.V_alloc | apply Kd.V_drewN | apply Kd.V_drew)); exact HL146_7.out) (Kd.N_base ho38) hb)
                        have n9_ := Aside0.mk (Kd.N_lower ho38 (below_size (by repeat (first | (with_reducible first | exact HB.out | apply below_alloc | apply pw_below_drewN | apply below_drew1 | refine below_set ?_ GE132.out) | exact HB.out))))
                        have n10_ := Aside0.mk (blk_below (g := gb132) (o := .cells #[.int .i64 t118, .int .i64 t119, .int .i64 t120, .int .i64 t121, .int .i64 t122, .int .i64 t123, .int .i64 t124, .slice Ao25 t125.length co25] 29 (0, 0)) (by (with_reducible repeat (first | refine blk_drewN ?_ _ | refine blk_drew ?_ | refine blk_alloc ?_ _)); exact BK132.out) hb)
                        have n11_ := Aside0.mk (below_step (by repeat (first | (with_reducible first | exact HB.out | apply below_alloc | apply pw_below_drewN | apply below_drew1 | refine below_set ?_ GE132.out) | exact HB.out)) hb)
                        clear HO114
                        clear HO117
                        clear HO127
                        clear HO130
                        clear HO136
                        clear HO140
                        clear HL141_7
                        clear HL145_7
                        clear HL146_7
                        clear BK132
                        clear HB
                        clear HO144
                        clear HO149
                        have HO114 := n0_
                        have HO117 := n1_
                        have HO127 := n2_
                        have HO130 := n3_
                        have HO136 := n4_
                        have HO140 := n5_
                        have HL141_7 := n6_
                        have HL145_7 := n7_
                        have HL146_7 := n8_
                        have HO152 := n9_
                        have BK132 := n10_
                        have HB := n11_
                        clear n0_ n1_ n2_ n3_ n4_ n5_ n6_ n7_ n8_ n9_ n10_ n11_
                        clear hb ho38
                        obtain ⟨Ao39, co39, eo39⟩ := Kd.N_slice HO152.out
                        (first | subst eo39 | (injection eo39 with f1_ f2_ f3_; have f4_ := f1_.symm; have f5_ := f3_.symm; clear f1_ f2_ f3_; subst f4_; subst f5_))
                        refine hK.out _ _ ⟨(blk_cell BK132.out 0).trans rfl, (blk_cell BK132.out 1).trans rfl, (blk_cell BK132.out 2).trans rfl, (blk_cell BK132.out 3).trans rfl, (blk_cell BK132.out 4).trans rfl, (blk_cell BK132.out 5).trans rfl, (blk_cell BK132.out 6).trans rfl, (blk_cell BK132.out 7).trans rfl, HS8_, HS9_, HS10_, HS11_, HS12_, HS13_, HS14_, HS15_, HS16_, HS17_, HS18_, HS19_, HS20_, HS21_, HS22_, HS23_, HS24_, HS25_, HS26_, HS27_, HS28_, HS29_, HS30_, HS31_⟩ (fun hHeld => ?_)
                        clear hK K
                        refine norm_ (a' := ?_) ?_ ?_
                        rotate_left
                        · show Act.put _ (some 45) _ = _
                          simp only [Act.put, List.setIfInBounds_toArray, List.set_cons_zero, List.set_cons_succ, i64_w, i32_w]
                          rfl
                        refine one_ (i := 13) (N := some 46) #[true, true, true, true, true, true, true, true, true, true, true, true, true, true, false, false, false, false, false, false, false, false, false, false, false, false, false, false, false, false, false, false, false, false, false, false, false, false, false, false, false, false, false, false, false, false, false, false, false, false, false] rfl rfl (one_of HT_.out (by kernel_rfl)) (by decide) (fun K hK => ?_)
                        refine goes_ Try.func27 (by kernel_rfl) rfl #[.slice Ao28 t115.length co28, .slice Ao39 y150.length co39] (by rfl) rfl rfl (by (try simp only [List.map_toArray, List.map_cons, List.map_nil]); first | done | rfl | (simp only [List.length_drop, List.length_take]; rfl)) ?_
                        with_reducible refine (sextonref25_Same.calls k _ _ t115 _ _ y150 true _ ?side1 ?side2 ?side3 ?side4 A8.out).mono ?_
                        (case side1 => repeat (first | exact (Kd.N_reads' HO117.out).2.2 | (with_reducible refine Kd.C_alloc ?_ _) | (with_reducible refine Kd.C_drewN ?_ _) | (with_reducible refine Kd.C_drew ?_)))
                        (case side2 => exact (Kd.N_reads' HO117.out).2.1)
                        (case side3 => repeat (first | exact (Kd.N_reads' HO152.out).2.2 | (with_reducible refine Kd.C_alloc ?_ _) | (with_reducible refine Kd.C_drewN ?_ _) | (with_reducible refine Kd.C_drew ?_)))
                        (case side4 => exact (Kd.N_reads' HO152.out).2.1)
                        rintro e w40 ⟨rfl, hb⟩
                        have HS8_ := (hb.cell (World.block_lt_of_cell? _ _ (hHeld.2.2.2.2.2.2.2.2.1))).trans (hHeld.2.2.2.2.2.2.2.2.1)
                        have HS9_ := (hb.cell (World.block_lt_of_cell? _ _ (hHeld.2.2.2.2.2.2.2.2.2.1))).trans (hHeld.2.2.2.2.2.2.2.2.2.1)
                        have HS10_ := (hb.cell (World.block_lt_of_cell? _ _ (hHeld.2.2.2.2.2.2.2.2.2.2.1))).trans (hHeld.2.2.2.2.2.2.2.2.2.2.1)
                        have HS11_ := (hb.cell (World.block_lt_of_cell? _ _ (hHeld.2.2.2.2.2.2.2.2.2.2.2.1))).trans (hHeld.2.2.2.2.2.2.2.2.2.2.2.1)
                        have HS12_ := (hb.cell (World.block_lt_of_cell? _ _ (hHeld.2.2.2.2.2.2.2.2.2.2.2.2.1))).trans (hHeld.2.2.2.2.2.2.2.2.2.2.2.2.1)
                        have HS13_ := (hb.cell (World.block_lt_of_cell? _ _ (hHeld.2.2.2.2.2.2.2.2.2.2.2.2.2.1))).trans (hHeld.2.2.2.2.2.2.2.2.2.2.2.2.2.1)
                        have HS14_ := (hb.cell (World.block_lt_of_cell? _ _ (hHeld.2.2.2.2.2.2.2.2.2.2.2.2.2.2.1))).trans (hHeld.2.2.2.2.2.2.2.2.2.2.2.2.2.2.1)
                        have HS15_ := (hb.cell (World.block_lt_of_cell? _ _ (hHeld.2.2.2.2.2.2.2.2.2.2.2.2.2.2.2.1))).trans (hHeld.2.2.2.2.2.2.2.2.2.2.2.2.2.2.2.1)
                        have HS16_ := (hb.cell (World.block_lt_of_cell? _ _ (hHeld.2.2.2.2.2.2.2.2.2.2.2.2.2.2.2.2.1))).trans (hHeld.2.2.2.2.2.2.2.2.2.2.2.2.2.2.2.2.1)
                        have HS17_ := (hb.cell (World.block_lt_of_cell? _ _ (hHeld.2.2.2.2.2.2.2.2.2.2.2.2.2.2.2.2.2.1))).trans (hHeld.2.2.2.2.2.2.2.2.2.2.2.2.2.2.2.2.2.1)
                        have HS18_ := (hb.cell (World.block_lt_of_cell? _ _ (hHeld.2.2.2.2.2.2.2.2.2.2.2.2.2.2.2.2.2.2.1))).trans (hHeld.2.2.2.2.2.2.2.2.2.2.2.2.2.2.2.2.2.2.1)
                        have HS19_ := (hb.cell (World.block_lt_of_cell? _ _ (hHeld.2.2.2.2.2.2.2.2.2.2.2.2.2.2.2.2.2.2.2.1))).trans (hHeld.2.2.2.2.2.2.2.2.2.2.2.2.2.2.2.2.2.2.2.1)
                        have HS20_ := (hb.cell (World.block_lt_of_cell? _ _ (hHeld.2.2.2.2.2.2.2.2.2.2.2.2.2.2.2.2.2.2.2.2.1))).trans (hHeld.2.2.2.2.2.2.2.2.2.2.2.2.2.2.2.2.2.2.2.2.1)
                        have HS21_ := (hb.cell (World.block_lt_of_cell? _ _ (hHeld.2.2.2.2.2.2.2.2.2.2.2.2.2.2.2.2.2.2.2.2.2.1))).trans (hHeld.2.2.2.2.2.2.2.2.2.2.2.2.2.2.2.2.2.2.2.2.2.1)
                        have HS22_ := (hb.cell (World.block_lt_of_cell? _ _ (hHeld.2.2.2.2.2.2.2.2.2.2.2.2.2.2.2.2.2.2.2.2.2.2.1))).trans (hHeld.2.2.2.2.2.2.2.2.2.2.2.2.2.2.2.2.2.2.2.2.2.2.1)
                        have HS23_ := (hb.cell (World.block_lt_of_cell? _ _ (hHeld.2.2.2.2.2.2.2.2.2.2.2.2.2.2.2.2.2.2.2.2.2.2.2.1))).trans (hHeld.2.2.2.2.2.2.2.2.2.2.2.2.2.2.2.2.2.2.2.2.2.2.2.1)
                        have HS24_ := (hb.cell (World.block_lt_of_cell? _ _ (hHeld.2.2.2.2.2.2.2.2.2.2.2.2.2.2.2.2.2.2.2.2.2.2.2.2.1))).trans (hHeld.2.2.2.2.2.2.2.2.2.2.2.2.2.2.2.2.2.2.2.2.2.2.2.2.1)
                        have HS25_ := (hb.cell (World.block_lt_of_cell? _ _ (hHeld.2.2.2.2.2.2.2.2.2.2.2.2.2.2.2.2.2.2.2.2.2.2.2.2.2.1))).trans (hHeld.2.2.2.2.2.2.2.2.2.2.2.2.2.2.2.2.2.2.2.2.2.2.2.2.2.1)
                        have HS26_ := (hb.cell (World.block_lt_of_cell? _ _ (hHeld.2.2.2.2.2.2.2.2.2.2.2.2.2.2.2.2.2.2.2.2.2.2.2.2.2.2.1))).trans (hHeld.2.2.2.2.2.2.2.2.2.2.2.2.2.2.2.2.2.2.2.2.2.2.2.2.2.2.1)
                        have HS27_ := (hb.cell (World.block_lt_of_cell? _ _ (hHeld.2.2.2.2.2.2.2.2.2.2.2.2.2.2.2.2.2.2.2.2.2.2.2.2.2.2.2.1))).trans (hHeld.2.2.2.2.2.2.2.2.2.2.2.2.2.2.2.2.2.2.2.2.2.2.2.2.2.2.2.1)
                        have HS28_ := (hb.cell (World.block_lt_of_cell? _ _ (hHeld.2.2.2.2.2.2.2.2.2.2.2.2.2.2.2.2.2.2.2.2.2.2.2.2.2.2.2.2.1))).trans (hHeld.2.2.2.2.2.2.2.2.2.2.2.2.2.2.2.2.2.2.2.2.2.2.2.2.2.2.2.2.1)
                        have HS29_ := (hb.cell (World.block_lt_of_cell? _ _ (hHeld.2.2.2.2.2.2.2.2.2.2.2.2.2.2.2.2.2.2.2.2.2.2.2.2.2.2.2.2.2.1))).trans (hHeld.2.2.2.2.2.2.2.2.2.2.2.2.2.2.2.2.2.2.2.2.2.2.2.2.2.2.2.2.2.1)
                        have HS30_ := (hb.cell (World.block_lt_of_cell? _ _ (hHeld.2.2.2.2.2.2.2.2.2.2.2.2.2.2.2.2.2.2.2.2.2.2.2.2.2.2.2.2.2.2.1))).trans (hHeld.2.2.2.2.2.2.2.2.2.2.2.2.2.2.2.2.2.2.2.2.2.2.2.2.2.2.2.2.2.2.1)
                        have HS31_ := (hb.cell (World.block_lt_of_cell? _ _ (hHeld.2.2.2.2.2.2.2.2.2.2.2.2.2.2.2.2.2.2.2.2.2.2.2.2.2.2.2.2.2.2.2))).trans (hHeld.2.2.2.2.2.2.2.2.2.2.2.2.2.2.2.2.2.2.2.2.2.2.2.2.2.2.2.2.2.2.2)
                        refine ⟨_, rfl, ?_⟩
                        have n0_ := Aside0.mk (Kd.N_below (by (with_reducible repeat (first | apply Kd.N_alloc | apply Kd.N_drewN | apply Kd.N_drew)); exact HO114.out) hb)
                        have n1_ := Aside0.mk (Kd.N_below (by (with_reducible repeat (first | apply Kd.N_alloc | apply Kd.N_drewN | apply Kd.N_drew)); exact HO117.out) hb)
                        have n2_ := Aside0.mk (Kd.R_below (by (with_reducible repeat (first | apply Kd.R_alloc | apply Kd.R_drewN | apply Kd.R_drew)); exact HO127.out) hb)
                        have n3_ := Aside0.mk (Kd.N_below (by (with_reducible repeat (first | apply Kd.N_alloc | apply Kd.N_drewN | apply Kd.N_drew)); exact HO130.out) hb)
                        have n4_ := Aside0.mk (Kd.N_below (by (with_reducible repeat (first | apply Kd.N_alloc | apply Kd.N_drewN | apply Kd.N_drew)); exact HO136.out) hb)
                        have n5_ := Aside0.mk (Kd.N_below (by (with_reducible repeat (first | apply Kd.N_alloc | apply Kd.N_drewN | apply Kd.N_drew)); exact HO140.out) hb)
                        have n6_ := Aside0.mk (Kd.V_below (by (with_reducible repeat (first | apply Kd.V_alloc | apply Kd.V_drewN | apply Kd.V_drew)); exact HL141_7.out) hb)
                        have n7_ := Aside0.mk (Kd.V_below (by (with_reducible repeat (first | apply Kd.V_alloc | apply Kd.V_drewN | apply Kd.V_drew)); exact HL145_7.out) hb)
                        have n8_ := Aside0.mk (Kd.V_below (by (with_reducible repeat (first | apply Kd.V_alloc | apply Kd.V_drewN | apply Kd.V_drew)); exact HL146_7.out) hb)
                        have n9_ := Aside0.mk (Kd.N_below (by (with_reducible repeat (first | apply Kd.N_alloc | apply Kd.N_drewN | apply Kd.N_drew)); exact HO152.out) hb)
                        have n10_ := Aside0.mk (blk_below (g := gb132) (o := .cells #[.int .i64 t118, .int .i64 t119, .int .i64 t120, .int .i64 t121, .int .i64 t122, .int .i64 t123, .int .i64 t124, .slice Ao25 t125.length co25] 29 (0, 0)) (by (with_reducible repeat (first | refine blk_drewN ?_ _ | refine blk_drew ?_ | refine blk_alloc ?_ _)); exact BK132.out) hb)
                        have n11_ := Aside0.mk (below_step (by repeat (first | (with_reducible first | exact HB.out | apply below_alloc | apply pw_below_drewN | apply below_drew1 | refine below_set ?_ GE132.out) | exact HB.out)) hb)
                        clear HO114
                        clear HO117
                        clear HO127
                        clear HO130
                        clear HO136
                        clear HO140
                        clear HL141_7
                        clear HL145_7
                        clear HL146_7
                        clear HO152
                        clear BK132
                        clear HB
                        have HO114 := n0_
                        have HO117 := n1_
                        have HO127 := n2_
                        have HO130 := n3_
                        have HO136 := n4_
                        have HO140 := n5_
                        have HL141_7 := n6_
                        have HL145_7 := n7_
                        have HL146_7 := n8_
                        have HO152 := n9_
                        have BK132 := n10_
                        have HB := n11_
                        clear n0_ n1_ n2_ n3_ n4_ n5_ n6_ n7_ n8_ n9_ n10_ n11_
                        (try clear hb)
                        (try clear hb2)
                        (try clear hk)
                        (try clear hi)
                        obtain ⟨Ao41, co41, eo41⟩ := Kd.N_slice HO130.out
                        (first | subst eo41 | (injection eo41 with f1_ f2_ f3_; have f4_ := f1_.symm; have f5_ := f3_.symm; clear f1_ f2_ f3_; subst f4_; subst f5_))
                        obtain ⟨Ao42, co42, eo42⟩ := Kd.N_slice HO136.out
                        (first | subst eo42 | (injection eo42 with f1_ f2_ f3_; have f4_ := f1_.symm; have f5_ := f3_.symm; clear f1_ f2_ f3_; subst f4_; subst f5_))
                        obtain ⟨Ao43, co43, eo43⟩ := Kd.N_slice HO140.out
                        (first | subst eo43 | (injection eo43 with f1_ f2_ f3_; have f4_ := f1_.symm; have f5_ := f3_.symm; clear f1_ f2_ f3_; subst f4_; subst f5_))
                        refine hK.out _ _ ⟨(blk_cell BK132.out 0).trans rfl, (blk_cell BK132.out 1).trans rfl, (blk_cell BK132.out 2).trans rfl, (blk_cell BK132.out 3).trans rfl, (blk_cell BK132.out 4).trans rfl, (blk_cell BK132.out 5).trans rfl, (blk_cell BK132.out 6).trans rfl, (blk_cell BK132.out 7).trans rfl, HS8_, HS9_, HS10_, HS11_, HS12_, HS13_, HS14_, HS15_, HS16_, HS17_, HS18_, HS19_, HS20_, HS21_, HS22_, HS23_, HS24_, HS25_, HS26_, HS27_, HS28_, HS29_, HS30_, HS31_⟩ (fun hHeld => ?_)
                        clear hK K
                        refine norm_ (a' := ?_) ?_ ?_
                        rotate_left
                        · show Act.put _ (some 46) _ = _
                          simp only [Act.put, List.setIfInBounds_toArray, List.set_cons_zero, List.set_cons_succ, i64_w, i32_w]
                          rfl
                        refine pure_ (i := 14) (N := some 47) (v := ?_) (a' := ?_) #[true, true, true, true, true, true, true, true, true, true, true, true, true, true, true, false, false, false, false, false, false, false, false, false, false, false, false, false, false, false, false, false, false, false, false, false, false, false, false, false, false, false, false, false, false, false, false, false, false, false, false] rfl rfl (any_of HT_.out (by kernel_rfl)) (fun _ _ _ h => h) (Or.inl ⟨by rfl, ?_⟩) ?_ ?_
                        rotate_left
                        · intro w'
                          go_simp
                          with_reducible rfl
                        rotate_left
                        · simp only [Act.put, List.setIfInBounds_toArray, List.set_cons_zero, List.set_cons_succ, i64_w, i32_w]
                          rfl
                        refine pure_ (i := 15) (N := some 48) (v := ?_) (a' := ?_) #[true, true, true, true, true, true, true, true, true, true, true, true, true, true, true, true, false, false, false, false, false, false, false, false, false, false, false, false, false, false, false, false, false, false, false, false, false, false, false, false, false, false, false, false, false, false, false, false, false, false, false] rfl rfl (any_of HT_.out (by kernel_rfl)) (fun _ _ _ h => h) (Or.inl ⟨by rfl, ?_⟩) ?_ ?_
                        rotate_left
                        · intro w'
                          go_simp
                          with_reducible rfl
                        rotate_left
                        · simp only [Act.put, List.setIfInBounds_toArray, List.set_cons_zero, List.set_cons_succ, i64_w, i32_w]
                          rfl
                        refine pure_ (i := 16) (N := some 49) (v := ?_) (a' := ?_) #[true, true, true, true, true, true, true, true, true, true, true, true, true, true, true, true, true, false, false, false, false, false, false, false, false, false, false, false, false, false, false, false, false, false, false, false, false, false, false, false, false, false, false, false, false, false, false, false, false, false, false] rfl rfl (any_of HT_.out (by kernel_rfl)) (fun _ _ _ h => h) (Or.inl ⟨by rfl, ?_⟩) ?_ ?_
                        rotate_left
                        · intro w'
                          go_simp
                          with_reducible rfl
                        rotate_left
                        · simp only [Act.put, List.setIfInBounds_toArray, List.set_cons_zero, List.set_cons_succ, i64_w, i32_w]
                          rfl
                        refine pure_ (i := 17) (N := some 50) (v := ?_) (a' := ?_) #[true, true, true, true, true, true, true, true, true, true, true, true, true, true, true, true, true, true, false, false, false, false, false, false, false, false, false, false, false, false, false, false, false, false, false, false, false, false, false, false, false, false, false, false, false, false, false, false, false, false, false] rfl rfl (any_of HT_.out (by kernel_rfl)) (fun _ _ _ h => h) (Or.inl ⟨by rfl, ?_⟩) ?_ ?_
                        rotate_left
                        · intro w'
                          go_simp
                          with_reducible rfl
                        rotate_left
                        · simp only [Act.put, List.setIfInBounds_toArray, List.set_cons_zero, List.set_cons_succ, i64_w, i32_w]
                          rfl
                        refine pure_ (i := 18) (N := some 51) (v := ?_) (a' := ?_) #[true, true, true, true, true, true, true, true, true, true, true, true, true, true, true, true, true, true, true, false, false, false, false, false, false, false, false, false, false, false, false, false, false, false, false, false, false, false, false, false, false, false, false, false, false, false, false, false, false, false, false] rfl rfl (any_of HT_.out (by kernel_rfl)) (fun _ _ _ h => h) (Or.inl ⟨by rfl, ?_⟩) ?_ ?_
                        rotate_left
                        · intro w'
                          go_simp
                          with_reducible rfl
                        rotate_left
                        · simp only [Act.put, List.setIfInBounds_toArray, List.set_cons_zero, List.set_cons_succ, i64_w, i32_w]
                          rfl
                        refine take_ (i := 19) (N := some 52) (v := ?_) (a' := ?_) #[true, true, true, true, true, true, true, true, true, true, true, true, true, true, true, true, true, true, true, true, false, false, false, false, false, false, false, false, false, false, false, false, false, false, false, false, false, false, false, false, false, false, false, false, false, false, false, false, false, false, false] rfl rfl (take_ofW HT_.out HW_.out (by kernel_rfl)) (fun _ _ _ h => h) (Or.inl ⟨by rfl, ?_⟩) hHeld ?_ ?_
                        rotate_left
                        · rintro w' ⟨s0, s1, s2, s3, s4, s5, s6, s7, s8, s9, s10, s11, s12, s13, s14, s15, s16, s17, s18, s19, s20, s21, s22, s23, s24, s25, s26, s27, s28, s29, s30, s31⟩
                          go_simp
                          with_reducible rfl
                        rotate_left
                        · simp only [Act.put, List.setIfInBounds_toArray, List.set_cons_zero, List.set_cons_succ, i64_w, i32_w]
                          rfl
                        refine pure_ (i := 20) (N := some 53) (v := ?_) (a' := ?_) #[true, true, true, true, true, true, true, true, true, true, true, true, true, true, true, true, true, true, true, true, true, false, false, false, false, false, false, false, false, false, false, false, false, false, false, false, false, false, false, false, false, false, false, false, false, false, false, false, false, false, false] rfl rfl (any_of HT_.out (by kernel_rfl)) (fun _ _ _ h => h) (Or.inl ⟨by rfl, ?_⟩) ?_ ?_
                        rotate_left
                        · intro w'
                          go_simp
                          with_reducible rfl
                        rotate_left
                        · simp only [Act.put, List.setIfInBounds_toArray, List.set_cons_zero, List.set_cons_succ, i64_w, i32_w]
                          rfl
                        refine pure_ (i := 21) (N := some 54) (v := ?_) (a' := ?_) #[true, true, true, true, true, true, true, true, true, true, true, true, true, true, true, true, true, true, true, true, true, true, false, false, false, false, false, false, false, false, false, false, false, false, false, false, false, false, false, false, false, false, false, false, false, false, false, false, false, false, false] rfl rfl (any_of HT_.out (by kernel_rfl)) (fun _ _ _ h => h) (Or.inl ⟨by rfl, ?_⟩) ?_ ?_
                        rotate_left
                        · intro w'
                          go_simp
                          with_reducible rfl
                        rotate_left
                        · simp only [Act.put, List.setIfInBounds_toArray, List.set_cons_zero, List.set_cons_succ, i64_w, i32_w]
                          rfl
                        refine pure_ (i := 22) (N := some 55) (v := ?_) (a' := ?_) #[true, true, true, true, true, true, true, true, true, true, true, true, true, true, true, true, true, true, true, true, true, true, true, false, false, false, false, false, false, false, false, false, false, false, false, false, false, false, false, false, false, false, false, false, false, false, false, false, false, false, false] rfl rfl (any_of HT_.out (by kernel_rfl)) (fun _ _ _ h => h) (Or.inl ⟨by rfl, ?_⟩) ?_ ?_
                        rotate_left
                        · intro w'
                          go_simp
                          with_reducible rfl
                        rotate_left
                        · simp only [Act.put, List.setIfInBounds_toArray, List.set_cons_zero, List.set_cons_succ, i64_w, i32_w]
                          rfl
                        refine pure_ (i := 23) (N := some 56) (v := ?_) (a' := ?_) #[true, true, true, true, true, true, true, true, true, true, true, true, true, true, true, true, true, true, true, true, true, true, true, true, false, false, false, false, false, false, false, false, false, false, false, false, false, false, false, false, false, false, false, false, false, false, false, false, false, false, false] rfl rfl (any_of HT_.out (by kernel_rfl)) (fun _ _ _ h => h) (Or.inl ⟨by rfl, ?_⟩) ?_ ?_
                        rotate_left
                        · intro w'
                          go_simp
                          with_reducible rfl
                        rotate_left
                        · simp only [Act.put, List.setIfInBounds_toArray, List.set_cons_zero, List.set_cons_succ, i64_w, i32_w]
                          rfl
                        refine pure_ (i := 24) (N := some 57) (v := ?_) (a' := ?_) #[true, true, true, true, true, true, true, true, true, true, true, true, true, true, true, true, true, true, true, true, true, true, true, true, true, false, false, false, false, false, false, false, false, false, false, false, false, false, false, false, false, false, false, false, false, false, false, false, false, false, false] rfl rfl (any_of HT_.out (by kernel_rfl)) (fun _ _ _ h => h) (Or.inl ⟨by rfl, ?_⟩) ?_ ?_
                        rotate_left
                        · intro w'
                          go_simp
                          with_reducible rfl
                        rotate_left
                        · simp only [Act.put, List.setIfInBounds_toArray, List.set_cons_zero, List.set_cons_succ, i64_w, i32_w]
                          rfl
                        refine pure_ (i := 25) (N := some 58) (v := ?_) (a' := ?_) #[true, true, true, true, true, true, true, true, true, true, true, true, true, true, true, true, true, true, true, true, true, true, true, true, true, true, false, false, false, false, false, false, false, false, false, false, false, false, false, false, false, false, false, false, false, false, false, false, false, false, false] rfl rfl (any_of HT_.out (by kernel_rfl)) (fun _ _ _ h => h) (Or.inl ⟨by rfl, ?_⟩) ?_ ?_
                        rotate_left
                        · intro w'
                          go_simp
                          with_reducible rfl
                        rotate_left
                        · simp only [Act.put, List.setIfInBounds_toArray, List.set_cons_zero, List.set_cons_succ, i64_w, i32_w]
                          rfl
                        refine pure_ (i := 26) (N := some 59) (v := ?_) (a' := ?_) #[true, true, true, true, true, true, true, true, true, true, true, true, true, true, true, true, true, true, true, true, true, true, true, true, true, true, true, false, false, false, false, false, false, false, false, false, false, false, false, false, false, false, false, false, false, false, false, false, false, false, false] rfl rfl (any_of HT_.out (by kernel_rfl)) (fun _ _ _ h => h) (Or.inl ⟨by rfl, ?_⟩) ?_ ?_
                        rotate_left
                        · intro w'
                          go_simp
                          with_reducible rfl
                        rotate_left
                        · simp only [Act.put, List.setIfInBounds_toArray, List.set_cons_zero, List.set_cons_succ, i64_w, i32_w]
                          rfl
                        refine pure_ (i := 27) (N := some 60) (v := ?_) (a' := ?_) #[true, true, true, true, true, true, true, true, true, true, true, true, true, true, true, true, true, true, true, true, true, true, true, true, true, true, true, true, false, false, false, false, false, false, false, false, false, false, false, false, false, false, false, false, false, false, false, false, false, false, false] rfl rfl (any_of HT_.out (by kernel_rfl)) (fun _ _ _ h => h) (Or.inl ⟨by rfl, ?_⟩) ?_ ?_
                        rotate_left
                        · intro w'
                          go_simp
                          with_reducible rfl
                        rotate_left
                        · simp only [Act.put, List.setIfInBounds_toArray, List.set_cons_zero, List.set_cons_succ, i64_w, i32_w]
                          rfl
                        refine pure_ (i := 28) (N := some 61) (v := ?_) (a' := ?_) #[true, true, true, true, true, true, true, true, true, true, true, true, true, true, true, true, true, true, true, true, true, true, true, true, true, true, true, true, true, false, false, false, false, false, false, false, false, false, false, false, false, false, false, false, false, false, false, false, false, false, false] rfl rfl (any_of HT_.out (by kernel_rfl)) (fun _ _ _ h => h) (Or.inl ⟨by rfl, ?_⟩) ?_ ?_
                        rotate_left
                        · intro w'
                          go_simp
                          with_reducible rfl
                        rotate_left
                        · simp only [Act.put, List.setIfInBounds_toArray, List.set_cons_zero, List.set_cons_succ, i64_w, i32_w]
                          rfl
                        refine pure_ (i := 29) (N := some 62) (v := ?_) (a' := ?_) #[true, true, true, true, true, true, true, true, true, true, true, true, true, true, true, true, true, true, true, true, true, true, true, true, true, true, true, true, true, true, false, false, false, false, false, false, false, false, false, false, false, false, false, false, false, false, false, false, false, false, false] rfl rfl (any_of HT_.out (by kernel_rfl)) (fun _ _ _ h => h) (Or.inl ⟨by rfl, ?_⟩) ?_ ?_
                        rotate_left
                        · intro w'
                          go_simp
                          with_reducible rfl
                        rotate_left
                        · simp only [Act.put, List.setIfInBounds_toArray, List.set_cons_zero, List.set_cons_succ, i64_w, i32_w]
                          rfl
                        refine pure_ (i := 30) (N := some 63) (v := ?_) (a' := ?_) #[true, true, true, true, true, true, true, true, true, true, true, true, true, true, true, true, true, true, true, true, true, true, true, true, true, true, true, true, true, true, true, false, false, false, false, false, false, false, false, false, false, false, false, false, false, false, false, false, false, false, false] rfl rfl (any_of HT_.out (by kernel_rfl)) (fun _ _ _ h => h) (Or.inl ⟨by rfl, ?_⟩) ?_ ?_
                        rotate_left
                        · intro w'
                          go_simp
                          with_reducible rfl
                        rotate_left
                        · simp only [Act.put, List.setIfInBounds_toArray, List.set_cons_zero, List.set_cons_succ, i64_w, i32_w]
                          rfl
                        refine pure_ (i := 31) (N := some 64) (v := ?_) (a' := ?_) #[true, true, true, true, true, true, true, true, true, true, true, true, true, true, true, true, true, true, true, true, true, true, true, true, true, true, true, true, true, true, true, true, false, false, false, false, false, false, false, false, false, false, false, false, false, false, false, false, false, false, false] rfl rfl (any_of HT_.out (by kernel_rfl)) (fun _ _ _ h => h) (Or.inl ⟨by rfl, ?_⟩) ?_ ?_
                        rotate_left
                        · intro w'
                          go_simp
                          with_reducible rfl
                        rotate_left
                        · simp only [Act.put, List.setIfInBounds_toArray, List.set_cons_zero, List.set_cons_succ, i64_w, i32_w]
                          rfl
                        refine pure_ (i := 32) (N := some 65) (v := ?_) (a' := ?_) #[true, true, true, true, true, true, true, true, true, true, true, true, true, true, true, true, true, true, true, true, true, true, true, true, true, true, true, true, true, true, true, true, true, false, false, false, false, false, false, false, false, false, false, false, false, false, false, false, false, false, false] rfl rfl (any_of HT_.out (by kernel_rfl)) (fun _ _ _ h => h) (Or.inl ⟨by rfl, ?_⟩) ?_ ?_
                        rotate_left
                        · intro w'
                          go_simp
                          with_reducible rfl
                        rotate_left
                        · simp only [Act.put, List.setIfInBounds_toArray, List.set_cons_zero, List.set_cons_succ, i64_w, i32_w]
                          rfl
                        refine pure_ (i := 33) (N := some 66) (v := ?_) (a' := ?_) #[true, true, true, true, true, true, true, true, true, true, true, true, true, true, true, true, true, true, true, true, true, true, true, true, true, true, true, true, true, true, true, true, true, true, false, false, false, false, false, false, false, false, false, false, false, false, false, false, false, false, false] rfl rfl (any_of HT_.out (by kernel_rfl)) (fun _ _ _ h => h) (Or.inl ⟨by rfl, ?_⟩) ?_ ?_
                        rotate_left
                        · intro w'
                          go_simp
                          with_reducible rfl
                        rotate_left
                        · simp only [Act.put, List.setIfInBounds_toArray, List.set_cons_zero, List.set_cons_succ, i64_w, i32_w]
                          rfl
                        refine pure_ (i := 34) (N := some 67) (v := ?_) (a' := ?_) #[true, true, true, true, true, true, true, true, true, true, true, true, true, true, true, true, true, true, true, true, true, true, true, true, true, true, true, true, true, true, true, true, true, true, true, false, false, false, false, false, false, false, false, false, false, false, false, false, false, false, false] rfl rfl (any_of HT_.out (by kernel_rfl)) (fun _ _ _ h => h) (Or.inl ⟨by rfl, ?_⟩) ?_ ?_
                        rotate_left
                        · intro w'
                          go_simp
                          with_reducible rfl
                        rotate_left
                        · simp only [Act.put, List.setIfInBounds_toArray, List.set_cons_zero, List.set_cons_succ, i64_w, i32_w]
                          rfl
                        refine pure_ (i := 35) (N := some 68) (v := ?_) (a' := ?_) #[true, true, true, true, true, true, true, true, true, true, true, true, true, true, true, true, true, true, true, true, true, true, true, true, true, true, true, true, true, true, true, true, true, true, true, true, false, false, false, false, false, false, false, false, false, false, false, false, false, false, false] rfl rfl (any_of HT_.out (by kernel_rfl)) (fun _ _ _ h => h) (Or.inl ⟨by rfl, ?_⟩) ?_ ?_
                        rotate_left
                        · intro w'
                          go_simp
                          with_reducible rfl
                        rotate_left
                        · simp only [Act.put, List.setIfInBounds_toArray, List.set_cons_zero, List.set_cons_succ, i64_w, i32_w]
                          rfl
                        refine pure_ (i := 36) (N := some 69) (v := ?_) (a' := ?_) #[true, true, true, true, true, true, true, true, true, true, true, true, true, true, true, true, true, true, true, true, true, true, true, true, true, true, true, true, true, true, true, true, true, true, true, true, true, false, false, false, false, false, false, false, false, false, false, false, false, false, false] rfl rfl (any_of HT_.out (by kernel_rfl)) (fun _ _ _ h => h) (Or.inl ⟨by rfl, ?_⟩) ?_ ?_
                        rotate_left
                        · intro w'
                          go_simp
                          with_reducible rfl
                        rotate_left
                        · simp only [Act.put, List.setIfInBounds_toArray, List.set_cons_zero, List.set_cons_succ, i64_w, i32_w]
                          rfl
                        refine pure_ (i := 37) (N := some 70) (v := ?_) (a' := ?_) #[true, true, true, true, true, true, true, true, true, true, true, true, true, true, true, true, true, true, true, true, true, true, true, true, true, true, true, true, true, true, true, true, true, true, true, true, true, true, false, false, false, false, false, false, false, false, false, false, false, false, false] rfl rfl (any_of HT_.out (by kernel_rfl)) (fun _ _ _ h => h) (Or.inl ⟨by rfl, ?_⟩) ?_ ?_
                        rotate_left
                        · intro w'
                          go_simp
                          with_reducible rfl
                        rotate_left
                        · simp only [Act.put, List.setIfInBounds_toArray, List.set_cons_zero, List.set_cons_succ, i64_w, i32_w]
                          rfl
                        refine pure_ (i := 38) (N := some 71) (v := ?_) (a' := ?_) #[true, true, true, true, true, true, true, true, true, true, true, true, true, true, true, true, true, true, true, true, true, true, true, true, true, true, true, true, true, true, true, true, true, true, true, true, true, true, true, false, false, false, false, false, false, false, false, false, false, false, false] rfl rfl (any_of HT_.out (by kernel_rfl)) (fun _ _ _ h => h) (Or.inl ⟨by rfl, ?_⟩) ?_ ?_
                        rotate_left
                        · intro w'
                          go_simp
                          with_reducible rfl
                        rotate_left
                        · simp only [Act.put, List.setIfInBounds_toArray, List.set_cons_zero, List.set_cons_succ, i64_w, i32_w]
                          rfl
                        refine pure_ (i := 39) (N := some 72) (v := ?_) (a' := ?_) #[true, true, true, true, true, true, true, true, true, true, true, true, true, true, true, true, true, true, true, true, true, true, true, true, true, true, true, true, true, true, true, true, true, true, true, true, true, true, true, true, false, false, false, false, false, false, false, false, false, false, false] rfl rfl (any_of HT_.out (by kernel_rfl)) (fun _ _ _ h => h) (Or.inl ⟨by rfl, ?_⟩) ?_ ?_
                        rotate_left
                        · intro w'
                          go_simp
                          with_reducible rfl
                        rotate_left
                        · simp only [Act.put, List.setIfInBounds_toArray, List.set_cons_zero, List.set_cons_succ, i64_w, i32_w]
                          rfl
                        refine pure_ (i := 40) (N := some 73) (v := ?_) (a' := ?_) #[true, true, true, true, true, true, true, true, true, true, true, true, true, true, true, true, true, true, true, true, true, true, true, true, true, true, true, true, true, true, true, true, true, true, true, true, true, true, true, true, true, false, false, false, false, false, false, false, false, false, false] rfl rfl (any_of HT_.out (by kernel_rfl)) (fun _ _ _ h => h) (Or.inl ⟨by rfl, ?_⟩) ?_ ?_
                        rotate_left
                        · intro w'
                          go_simp
                          with_reducible rfl
                        rotate_left
                        · simp only [Act.put, List.setIfInBounds_toArray, List.set_cons_zero, List.set_cons_succ, i64_w, i32_w]
                          rfl
                        refine pure_ (i := 41) (N := some 74) (v := ?_) (a' := ?_) #[true, true, true, true, true, true, true, true, true, true, true, true, true, true, true, true, true, true, true, true, true, true, true, true, true, true, true, true, true, true, true, true, true, true, true, true, true, true, true, true, true, true, false, false, false, false, false, false, false, false, false] rfl rfl (any_of HT_.out (by kernel_rfl)) (fun _ _ _ h => h) (Or.inl ⟨by rfl, ?_⟩) ?_ ?_
                        rotate_left
                        · intro w'
                          go_simp
                          with_reducible rfl
                        rotate_left
                        · simp only [Act.put, List.setIfInBounds_toArray, List.set_cons_zero, List.set_cons_succ, i64_w, i32_w]
                          rfl
                        refine pure_ (i := 42) (N := some 75) (v := ?_) (a' := ?_) #[true, true, true, true, true, true, true, true, true, true, true, true, true, true, true, true, true, true, true, true, true, true, true, true, true, true, true, true, true, true, true, true, true, true, true, true, true, true, true, true, true, true, true, false, false, false, false, false, false, false, false] rfl rfl (any_of HT_.out (by kernel_rfl)) (fun _ _ _ h => h) (Or.inl ⟨by rfl, ?_⟩) ?_ ?_
                        rotate_left
                        · intro w'
                          go_simp
                          with_reducible rfl
                        rotate_left
                        · simp only [Act.put, List.setIfInBounds_toArray, List.set_cons_zero, List.set_cons_succ, i64_w, i32_w]
                          rfl
                        refine pure_ (i := 43) (N := some 76) (v := ?_) (a' := ?_) #[true, true, true, true, true, true, true, true, true, true, true, true, true, true, true, true, true, true, true, true, true, true, true, true, true, true, true, true, true, true, true, true, true, true, true, true, true, true, true, true, true, true, true, true, false, false, false, false, false, false, false] rfl rfl (any_of HT_.out (by kernel_rfl)) (fun _ _ _ h => h) (Or.inl ⟨by rfl, ?_⟩) ?_ ?_
                        rotate_left
                        · intro w'
                          go_simp
                          with_reducible rfl
                        rotate_left
                        · simp only [Act.put, List.setIfInBounds_toArray, List.set_cons_zero, List.set_cons_succ, i64_w, i32_w]
                          rfl
                        refine pure_ (i := 44) (N := some 77) (v := ?_) (a' := ?_) #[true, true, true, true, true, true, true, true, true, true, true, true, true, true, true, true, true, true, true, true, true, true, true, true, true, true, true, true, true, true, true, true, true, true, true, true, true, true, true, true, true, true, true, true, true, false, false, false, false, false, false] rfl rfl (any_of HT_.out (by kernel_rfl)) (fun _ _ _ h => h) (Or.inl ⟨by rfl, ?_⟩) ?_ ?_
                        rotate_left
                        · intro w'
                          go_simp
                          with_reducible rfl
                        rotate_left
                        · simp only [Act.put, List.setIfInBounds_toArray, List.set_cons_zero, List.set_cons_succ, i64_w, i32_w]
                          rfl
                        refine pure_ (i := 45) (N := some 78) (v := ?_) (a' := ?_) #[true, true, true, true, true, true, true, true, true, true, true, true, true, true, true, true, true, true, true, true, true, true, true, true, true, true, true, true, true, true, true, true, true, true, true, true, true, true, true, true, true, true, true, true, true, true, false, false, false, false, false] rfl rfl (any_of HT_.out (by kernel_rfl)) (fun _ _ _ h => h) (Or.inl ⟨by rfl, ?_⟩) ?_ ?_
                        rotate_left
                        · intro w'
                          go_simp
                          with_reducible rfl
                        rotate_left
                        · simp only [Act.put, List.setIfInBounds_toArray, List.set_cons_zero, List.set_cons_succ, i64_w, i32_w]
                          rfl
                        refine one_ (i := 46) (N := some 79) #[true, true, true, true, true, true, true, true, true, true, true, true, true, true, true, true, true, true, true, true, true, true, true, true, true, true, true, true, true, true, true, true, true, true, true, true, true, true, true, true, true, true, true, true, true, true, true, false, false, false, false] rfl rfl (one_of HT_.out (by kernel_rfl)) (by decide) (fun K hK => ?_)
                        refine goes_ Try.func23 (by kernel_rfl) rfl #[.slice (some ad141) y112.length co20, .int .i64 0, .int .i64 1] (by rfl) rfl rfl (by (try simp only [List.map_toArray, List.map_cons, List.map_nil]); first | done | rfl | (simp only [List.length_drop, List.length_take]; rfl)) ?_
                        with_reducible refine (net_Cut.calls _ _ y112 0 1 t154 _ ?side1 ?side2 A17.out).mono ?_
                        (case side1 => repeat (first | exact (Kd.N_reads' HO114.out).2.2 | (with_reducible refine Kd.C_alloc ?_ _) | (with_reducible refine Kd.C_drewN ?_ _) | (with_reducible refine Kd.C_drew ?_)))
                        (case side2 => exact (Kd.N_reads' HO114.out).2.1)
                        rintro e w44 ⟨v155, rfl, ho0, hb⟩
                        have HS8_ := (hb.cell (World.block_lt_of_cell? _ _ (hHeld.2.2.2.2.2.2.2.2.1))).trans (hHeld.2.2.2.2.2.2.2.2.1)
                        have HS9_ := (hb.cell (World.block_lt_of_cell? _ _ (hHeld.2.2.2.2.2.2.2.2.2.1))).trans (hHeld.2.2.2.2.2.2.2.2.2.1)
                        have HS10_ := (hb.cell (World.block_lt_of_cell? _ _ (hHeld.2.2.2.2.2.2.2.2.2.2.1))).trans (hHeld.2.2.2.2.2.2.2.2.2.2.1)
                        have HS11_ := (hb.cell (World.block_lt_of_cell? _ _ (hHeld.2.2.2.2.2.2.2.2.2.2.2.1))).trans (hHeld.2.2.2.2.2.2.2.2.2.2.2.1)
                        have HS12_ := (hb.cell (World.block_lt_of_cell? _ _ (hHeld.2.2.2.2.2.2.2.2.2.2.2.2.1))).trans (hHeld.2.2.2.2.2.2.2.2.2.2.2.2.1)
                        have HS13_ := (hb.cell (World.block_lt_of_cell? _ _ (hHeld.2.2.2.2.2.2.2.2.2.2.2.2.2.1))).trans (hHeld.2.2.2.2.2.2.2.2.2.2.2.2.2.1)
                        have HS14_ := (hb.cell (World.block_lt_of_cell? _ _ (hHeld.2.2.2.2.2.2.2.2.2.2.2.2.2.2.1))).trans (hHeld.2.2.2.2.2.2.2.2.2.2.2.2.2.2.1)
                        have HS15_ := (hb.cell (World.block_lt_of_cell? _ _ (hHeld.2.2.2.2.2.2.2.2.2.2.2.2.2.2.2.1))).trans (hHeld.2.2.2.2.2.2.2.2.2.2.2.2.2.2.2.1)
                        have HS16_ := (hb.cell (World.block_lt_of_cell? _ _ (hHeld.2.2.2.2.2.2.2.2.2.2.2.2.2.2.2.2.1))).trans (hHeld.2.2.2.2.2.2.2.2.2.2.2.2.2.2.2.2.1)
                        have HS17_ := (hb.cell (World.block_lt_of_cell? _ _ (hHeld.2.2.2.2.2.2.2.2.2.2.2.2.2.2.2.2.2.1))).trans (hHeld.2.2.2.2.2.2.2.2.2.2.2.2.2.2.2.2.2.1)
                        have HS18_ := (hb.cell (World.block_lt_of_cell? _ _ (hHeld.2.2.2.2.2.2.2.2.2.2.2.2.2.2.2.2.2.2.1))).trans (hHeld.2.2.2.2.2.2.2.2.2.2.2.2.2.2.2.2.2.2.1)
                        have HS19_ := (hb.cell (World.block_lt_of_cell? _ _ (hHeld.2.2.2.2.2.2.2.2.2.2.2.2.2.2.2.2.2.2.2.1))).trans (hHeld.2.2.2.2.2.2.2.2.2.2.2.2.2.2.2.2.2.2.2.1)
                        have HS20_ := (hb.cell (World.block_lt_of_cell? _ _ (hHeld.2.2.2.2.2.2.2.2.2.2.2.2.2.2.2.2.2.2.2.2.1))).trans (hHeld.2.2.2.2.2.2.2.2.2.2.2.2.2.2.2.2.2.2.2.2.1)
                        have HS21_ := (hb.cell (World.block_lt_of_cell? _ _ (hHeld.2.2.2.2.2.2.2.2.2.2.2.2.2.2.2.2.2.2.2.2.2.1))).trans (hHeld.2.2.2.2.2.2.2.2.2.2.2.2.2.2.2.2.2.2.2.2.2.1)
                        have HS22_ := (hb.cell (World.block_lt_of_cell? _ _ (hHeld.2.2.2.2.2.2.2.2.2.2.2.2.2.2.2.2.2.2.2.2.2.2.1))).trans (hHeld.2.2.2.2.2.2.2.2.2.2.2.2.2.2.2.2.2.2.2.2.2.2.1)
                        have HS23_ := (hb.cell (World.block_lt_of_cell? _ _ (hHeld.2.2.2.2.2.2.2.2.2.2.2.2.2.2.2.2.2.2.2.2.2.2.2.1))).trans (hHeld.2.2.2.2.2.2.2.2.2.2.2.2.2.2.2.2.2.2.2.2.2.2.2.1)
                        have HS24_ := (hb.cell (World.block_lt_of_cell? _ _ (hHeld.2.2.2.2.2.2.2.2.2.2.2.2.2.2.2.2.2.2.2.2.2.2.2.2.1))).trans (hHeld.2.2.2.2.2.2.2.2.2.2.2.2.2.2.2.2.2.2.2.2.2.2.2.2.1)
                        have HS25_ := (hb.cell (World.block_lt_of_cell? _ _ (hHeld.2.2.2.2.2.2.2.2.2.2.2.2.2.2.2.2.2.2.2.2.2.2.2.2.2.1))).trans (hHeld.2.2.2.2.2.2.2.2.2.2.2.2.2.2.2.2.2.2.2.2.2.2.2.2.2.1)
                        have HS26_ := (hb.cell (World.block_lt_of_cell? _ _ (hHeld.2.2.2.2.2.2.2.2.2.2.2.2.2.2.2.2.2.2.2.2.2.2.2.2.2.2.1))).trans (hHeld.2.2.2.2.2.2.2.2.2.2.2.2.2.2.2.2.2.2.2.2.2.2.2.2.2.2.1)
                        have HS27_ := (hb.cell (World.block_lt_of_cell? _ _ (hHeld.2.2.2.2.2.2.2.2.2.2.2.2.2.2.2.2.2.2.2.2.2.2.2.2.2.2.2.1))).trans (hHeld.2.2.2.2.2.2.2.2.2.2.2.2.2.2.2.2.2.2.2.2.2.2.2.2.2.2.2.1)
                        have HS28_ := (hb.cell (World.block_lt_of_cell? _ _ (hHeld.2.2.2.2.2.2.2.2.2.2.2.2.2.2.2.2.2.2.2.2.2.2.2.2.2.2.2.2.1))).trans (hHeld.2.2.2.2.2.2.2.2.2.2.2.2.2.2.2.2.2.2.2.2.2.2.2.2.2.2.2.2.1)
                        have HS29_ := (hb.cell (World.block_lt_of_cell? _ _ (hHeld.2.2.2.2.2.2.2.2.2.2.2.2.2.2.2.2.2.2.2.2.2.2.2.2.2.2.2.2.2.1))).trans (hHeld.2.2.2.2.2.2.2.2.2.2.2.2.2.2.2.2.2.2.2.2.2.2.2.2.2.2.2.2.2.1)
                        have HS30_ := (hb.cell (World.block_lt_of_cell? _ _ (hHeld.2.2.2.2.2.2.2.2.2.2.2.2.2.2.2.2.2.2.2.2.2.2.2.2.2.2.2.2.2.2.1))).trans (hHeld.2.2.2.2.2.2.2.2.2.2.2.2.2.2.2.2.2.2.2.2.2.2.2.2.2.2.2.2.2.2.1)
                        have HS31_ := (hb.cell (World.block_lt_of_cell? _ _ (hHeld.2.2.2.2.2.2.2.2.2.2.2.2.2.2.2.2.2.2.2.2.2.2.2.2.2.2.2.2.2.2.2))).trans (hHeld.2.2.2.2.2.2.2.2.2.2.2.2.2.2.2.2.2.2.2.2.2.2.2.2.2.2.2.2.2.2.2)
                        refine ⟨_, rfl, ?_⟩
                        have n0_ := Aside0.mk (Kd.N_elder' (by (with_reducible repeat (first | apply Kd.N_alloc | apply Kd.N_drewN | apply Kd.N_drew)); exact HO114.out) (Kd.R_base ho0) hb)
                        have n1_ := Aside0.mk (Kd.N_elder' (by (with_reducible repeat (first | apply Kd.N_alloc | apply Kd.N_drewN | apply Kd.N_drew)); exact HO117.out) (Kd.R_base ho0) hb)
                        have n2_ := Aside0.mk (Kd.R_below (by (with_reducible repeat (first | apply Kd.R_alloc | apply Kd.R_drewN | apply Kd.R_drew)); exact HO127.out) hb)
                        have n3_ := Aside0.mk (Kd.N_elder' (by (with_reducible repeat (first | apply Kd.N_alloc | apply Kd.N_drewN | apply Kd.N_drew)); exact HO130.out) (Kd.R_base ho0) hb)
                        have n4_ := Aside0.mk (Kd.N_elder' (by (with_reducible repeat (first | apply Kd.N_alloc | apply Kd.N_drewN | apply Kd.N_drew)); exact HO136.out) (Kd.R_base ho0) hb)
                        have n5_ := Aside0.mk (Kd.N_elder' (by (with_reducible repeat (first | apply Kd.N_alloc | apply Kd.N_drewN | apply Kd.N_drew)); exact HO140.out) (Kd.R_base ho0) hb)
                        have n6_ := Aside0.mk (Kd.V_elder' (by (with_reducible repeat (first | apply Kd.V_alloc | apply Kd.V_drewN | apply Kd.V_drew)); exact HL141_7.out) (Kd.R_base ho0) hb)
                        have n7_ := Aside0.mk (Kd.V_elder' (by (with_reducible repeat (first | apply Kd.V_alloc | apply Kd.V_drewN | apply Kd.V_drew)); exact HL145_7.out) (Kd.R_base ho0) hb)
                        have n8_ := Aside0.mk (Kd.V_elder' (by (with_reducible repeat (first | apply Kd.V_alloc | apply Kd.V_drewN | apply Kd.V_drew)); exact HL146_7.out) (Kd.R_base ho0) hb)
                        have n9_ := Aside0.mk (Kd.N_elder' (by (with_reducible repeat (first | apply Kd.N_alloc | apply Kd.N_drewN | apply Kd.N_drew)); exact HO152.out) (Kd.R_base ho0) hb)
                        have n10_ := Aside0.mk (Kd.N_lower (Kd.N_mono (ok' := fun k_ => some k_ ≠ (.slice (some ad141) y112.length co20 : Value).ownBlock ∧ some k_ ≠ (.slice Ao28 t115.length co28 : Value).ownBlock ∧ some k_ ≠ (.slice Ao25 t125.length co25 : Value).ownBlock ∧ some k_ ≠ (.slice Ao41 t128.length co41 : Value).ownBlock ∧ some k_ ≠ (.slice Ao42 t133.length co42 : Value).ownBlock ∧ some k_ ≠ (.slice Ao43 t137.length co43 : Value).ownBlock ∧ some k_ ≠ (.slice Ao39 y150.length co39 : Value).ownBlock ∧ k_ ≠ gb132) (Kd.R_N (Kd.R_bound ho0)) (fun k_ hk_ => ⟨(Kd.fresh' (Kd.N_lt (by (with_reducible repeat (first | apply Kd.N_alloc | apply Kd.N_drewN | apply Kd.N_drew)); exact HO114.out)) k_ hk_.2.1), (Kd.fresh' (Kd.N_lt (by (with_reducible repeat (first | apply Kd.N_alloc | apply Kd.N_drewN | apply Kd.N_drew)); exact HO117.out)) k_ hk_.2.1), (Kd.fresh' (Kd.R_lt (by (with_reducible repeat (first | apply Kd.R_alloc | apply Kd.R_drewN | apply Kd.R_drew)); exact HO127.out)) k_ hk_.2.1), (Kd.fresh' (Kd.N_lt (by (with_reducible repeat (first | apply Kd.N_alloc | apply Kd.N_drewN | apply Kd.N_drew)); exact HO130.out)) k_ hk_.2.1), (Kd.fresh' (Kd.N_lt (by (with_reducible repeat (first | apply Kd.N_alloc | apply Kd.N_drewN | apply Kd.N_drew)); exact HO136.out)) k_ hk_.2.1), (Kd.fresh' (Kd.N_lt (by (with_reducible repeat (first | apply Kd.N_alloc | apply Kd.N_drewN | apply Kd.N_drew)); exact HO140.out)) k_ hk_.2.1), (Kd.fresh' (Kd.N_lt (by (with_reducible repeat (first | apply Kd.N_alloc | apply Kd.N_drewN | apply Kd.N_drew)); exact HO152.out)) k_ hk_.2.1), (Kd.freshB (g := gb132) (o := .cells #[.int .i64 t118, .int .i64 t119, .int .i64 t120, .int .i64 t121, .int .i64 t122, .int .i64 t123, .int .i64 t124, .slice Ao25 t125.length co25] 29 (0, 0)) (by (with_reducible repeat (first | refine blk_drewN ?_ _ | refine blk_drew ?_ | refine blk_alloc ?_ _)); exact BK132.out) k_ hk_.2.1)⟩)) (below_size (by repeat (first | (with_reducible first | exact HB.out | apply below_alloc | apply pw_below_drewN | apply below_drew1 | refine below_set ?_ GE132.out) | exact HB.out))))
                        have n11_ := Aside0.mk (blk_below (g := gb132) (o := .cells #[.int .i64 t118, .int .i64 t119, .int .i64 t120, .int .i64 t121, .int .i64 t122, .int .i64 t123, .int .i64 t124, .slice Ao25 t125.length co25] 29 (0, 0)) (by (with_reducible repeat (first | refine blk_drewN ?_ _ | refine blk_drew ?_ | refine blk_alloc ?_ _)); exact BK132.out) hb)
                        have n12_ := Aside0.mk (below_step (by repeat (first | (with_reducible first | exact HB.out | apply below_alloc | apply pw_below_drewN | apply below_drew1 | refine below_set ?_ GE132.out) | exact HB.out)) hb)
                        clear HO114
                        clear HO117
                        clear HO127
                        clear HO130
                        clear HO136
                        clear HO140
                        clear HL141_7
                        clear HL145_7
                        clear HL146_7
                        clear HO152
                        clear BK132
                        clear HB
                        have HO114 := n0_
                        have HO117 := n1_
                        have HO127 := n2_
                        have HO130 := n3_
                        have HO136 := n4_
                        have HO140 := n5_
                        have HL141_7 := n6_
                        have HL145_7 := n7_
                        have HL146_7 := n8_
                        have HO152 := n9_
                        have HO156 := n10_
                        have BK132 := n11_
                        have HB := n12_
                        clear n0_ n1_ n2_ n3_ n4_ n5_ n6_ n7_ n8_ n9_ n10_ n11_ n12_
                        (try clear hb)
                        (try clear hb2)
                        (try clear hk)
                        (try clear hi)
                        (try clear ho0)
                        obtain ⟨Ao45, co45, eo45⟩ := Kd.N_slice HO156.out
                        (first | subst eo45 | (injection eo45 with f1_ f2_ f3_; have f4_ := f1_.symm; have f5_ := f3_.symm; clear f1_ f2_ f3_; subst f4_; subst f5_))
                        refine hK.out _ _ ⟨(blk_cell BK132.out 0).trans rfl, (blk_cell BK132.out 1).trans rfl, (blk_cell BK132.out 2).trans rfl, (blk_cell BK132.out 3).trans rfl, (blk_cell BK132.out 4).trans rfl, (blk_cell BK132.out 5).trans rfl, (blk_cell BK132.out 6).trans rfl, (blk_cell BK132.out 7).trans rfl, HS8_, HS9_, HS10_, HS11_, HS12_, HS13_, HS14_, HS15_, HS16_, HS17_, HS18_, HS19_, HS20_, HS21_, HS22_, HS23_, HS24_, HS25_, HS26_, HS27_, HS28_, HS29_, HS30_, HS31_⟩ (fun hHeld => ?_)
                        clear hK K
                        refine norm_ (a' := ?_) ?_ ?_
                        rotate_left
                        · show Act.put _ (some 79) _ = _
                          simp only [Act.put, List.setIfInBounds_toArray, List.set_cons_zero, List.set_cons_succ, i64_w, i32_w]
                          rfl
                        refine pure_ (i := 47) (N := some 80) (v := ?_) (a' := ?_) #[true, true, true, true, true, true, true, true, true, true, true, true, true, true, true, true, true, true, true, true, true, true, true, true, true, true, true, true, true, true, true, true, true, true, true, true, true, true, true, true, true, true, true, true, true, true, true, true, false, false, false] rfl rfl (any_of HT_.out (by kernel_rfl)) (fun _ _ _ h => h) (Or.inl ⟨by rfl, ?_⟩) ?_ ?_
                        rotate_left
                        · intro w'
                          go_simp
                          with_reducible rfl
                        rotate_left
                        · simp only [Act.put, List.setIfInBounds_toArray, List.set_cons_zero, List.set_cons_succ, i64_w, i32_w]
                          rfl
                        refine pure_ (i := 48) (N := some 81) (v := ?_) (a' := ?_) #[true, true, true, true, true, true, true, true, true, true, true, true, true, true, true, true, true, true, true, true, true, true, true, true, true, true, true, true, true, true, true, true, true, true, true, true, true, true, true, true, true, true, true, true, true, true, true, true, true, false, false] rfl rfl (any_of HT_.out (by kernel_rfl)) (fun _ _ _ h => h) (Or.inl ⟨by rfl, ?_⟩) ?_ ?_
                        rotate_left
                        · intro w'
                          go_simp
                          with_reducible rfl
                        rotate_left
                        · simp only [Act.put, List.setIfInBounds_toArray, List.set_cons_zero, List.set_cons_succ, i64_w, i32_w]
                          rfl
                        refine pure_ (i := 49) (N := some 82) (v := ?_) (a' := ?_) #[true, true, true, true, true, true, true, true, true, true, true, true, true, true, true, true, true, true, true, true, true, true, true, true, true, true, true, true, true, true, true, true, true, true, true, true, true, true, true, true, true, true, true, true, true, true, true, true, true, true, false] rfl rfl (any_of HT_.out (by kernel_rfl)) (fun _ _ _ h => h) (Or.inl ⟨by rfl, ?_⟩) ?_ ?_
                        rotate_left
                        · intro w'
                          go_simp
                          with_reducible rfl
                        rotate_left
                        · simp only [Act.put, List.setIfInBounds_toArray, List.set_cons_zero, List.set_cons_succ, i64_w, i32_w]
                          rfl
                        refine pure_ (i := 50) (N := some 0) (v := ?_) (a' := ?_) #[true, true, true, true, true, true, true, true, true, true, true, true, true, true, true, true, true, true, true, true, true, true, true, true, true, true, true, true, true, true, true, true, true, true, true, true, true, true, true, true, true, true, true, true, true, true, true, true, true, true, true] rfl rfl (any_of HT_.out (by kernel_rfl)) (fun _ _ _ h => h) (Or.inl ⟨by rfl, ?_⟩) ?_ ?_
                        rotate_left
                        · intro w'
                          go_simp
                          with_reducible rfl
                        rotate_left
                        · simp only [Act.put, List.setIfInBounds_toArray, List.set_cons_zero, List.set_cons_succ, i64_w, i32_w]
                          rfl
                        refine done_ (done_of HT_.out (by kernel_rfl)) ?_
                        try go_wp2
                        go_ret
                        exact ⟨by first | rfl | (simp [errW_none, errW_some] <;> rfl) | (simp [*, errW_none, errW_some] <;> rfl), by repeat (first | (with_reducible first | exact HB.out | apply below_alloc | apply pw_below_drewN | apply below_drew1 | refine below_set ?_ GE132.out) | exact HB.out)⟩
                      · rw [if_neg c16] at H
                        exact absurd (H.trans (congrArg some HRT.out)) (by decide)
                    · rw [if_neg c15] at H
                      exact absurd (H.trans (congrArg some HRT.out)) (by decide)
                  · rw [if_neg c14] at H
                    exact absurd (H.trans (congrArg some HRT.out)) (by decide)
                · replace c13 := Bool.eq_false_iff.mpr c13
                  subst c13
                  have H1 : (some false) = some r := by rw [if_neg (show ¬ (false = true) by decide)] at H; exact H
                  exact absurd (H1.trans (congrArg some HRT.out)) (by decide)
              · rw [if_neg c12] at H
                exact absurd (H.trans (congrArg some HRT.out)) (by decide)
            · rw [if_neg c11] at H
              exact absurd (H.trans (congrArg some HRT.out)) (by decide)
          · replace c10 := Bool.eq_false_iff.mpr c10
            subst c10
            have H1 : (some false) = some r := by rw [if_neg (show ¬ (false = true) by decide)] at H; exact H
            exact absurd (H1.trans (congrArg some HRT.out)) (by decide)
        · replace c9 := Bool.eq_false_iff.mpr c9
          subst c9
          have H1 : (some false) = some r := by rw [if_neg (show ¬ (false = true) by decide)] at H; exact H
          exact absurd (H1.trans (congrArg some HRT.out)) (by decide)
      · rw [if_neg c7] at H
        exact absurd H (by simp)
    · rw [if_neg c6] at H
      exact absurd H (by simp)
  · rw [if_neg c5] at H
    exact absurd H (by simp)

/-- THE ONE PURE STATEMENT of sextonlaw25_carriedP: yours. -/

theorem sextonlaw25_carriedP_true : sextonlaw25_carriedP.f 40 = some true := by decide +kernel
/-- What it answers. -/
def sextonlaw25_carried.f : Option Bool := some true
theorem sextonlaw25_carried.calls (r : Bool) (w : World) (h : sextonlaw25_carried.f = some r) :
    Calls Try.prog 29 #[] w fun e w' => e = .returned (.bool r) ∧ Below w.heap.size w w' := by
  obtain rfl := Option.some.inj h
  exact sextonlaw25_carriedP.calls 40 true (w := w) (h := sextonlaw25_carriedP_true)
end Go.Proofs.Ytfejidinfcmfjaa.P
