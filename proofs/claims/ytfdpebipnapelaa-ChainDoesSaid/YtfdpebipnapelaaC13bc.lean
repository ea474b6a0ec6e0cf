/-
  Texts that the claims of this chapter share, joined.
-/
import Derived.Test.YtfdpebipnapelaaPx0
import Derived.Test.YtfdpebipnapelaaC13ba
import Derived.Test.YtfdpebipnapelaaC13bb
import Derived.WalkKit
import Derived.ProofKit
import Derived.OpenShut
import Derived.ShutString
import Derived.ChangeOld
import Derived.Below
import Derived.SizedLaws
import Derived.ChangeArms
import Derived.Test.YtfdpebipnapelaaWWords
set_option linter.unusedVariables false
set_option linter.unusedSimpArgs false
/-
  sexton/sextonlaw13.cut answers true. The print's walk, with the branches that would answer false closed.
-/
-- Written by a program of this session (xprint.py) over the kit's print.py.
namespace Go.Proofs.Ytfdpebipnapelaa.P
open Go.RowKit Go.Proofs.YtfdpebipnapelaaW.PrintWords Go.Proofs.YtfdpebipnapelaaW.PrintLast Go.Proofs.YtfdpebipnapelaaW.PrintMore
attribute [local go_sem] max2_int min2_int max_two min_two max_three min_three max_four min_four   -- for this text's walks alone
set_option linter.unusedVariables false
set_option linter.unusedSimpArgs false

/-! ### sextonlaw13_cutP: function 35 -/
def sextonlaw13_cutP.f (k : Nat)  : Option (Bool) := (chain_Cut.f (⟨#[97, 98, 99, 100, 101]⟩ : ByteArray) 2).bind fun bt123 => ((chain_Cut.f (⟨#[]⟩ : ByteArray) 2).bind fun bt127 => ((chain_Describe.f k (⟨#[97, 98, 97, 98]⟩ : ByteArray) 2 7).bind fun bt131 => ((chain_Whole.f bt131.1 bt131.2.1 bt131.2.2.1 bt131.2.2.2.1).bind fun bt141 => ((chain_Cut.f (⟨#[97]⟩ : ByteArray) 0).bind fun bt143 => ((crc_Sum.f (⟨#[97, 98]⟩ : ByteArray)).bind fun t147 => (if bt123.2 = 0 then ((sextonref01_Texts.f k bt123.1 (([(⟨#[97, 98]⟩ : ByteArray), (⟨#[99, 100]⟩ : ByteArray), (⟨#[101]⟩ : ByteArray)] : List ByteArray))).bind fun t151 => (if t151 = true then (if bt127.2 = bt123.2 then (if (bt127.1.length : Int) = 0 then (if bt131.2.2.2.2 = bt123.2 then ((sextonref12_Same.f k bt131.1 bt131.2.1 bt131.2.2.1 4 7 (([t147, t147] : List Int))).bind fun t155 => (if t155 = true then (if bt141.2 = bt123.2 then (if bt141.1.toList = ([97, 98, 97, 98] : List UInt8) then (if bt143.2 = 1 then (if 1 ≤ (bt131.2.2.2.1.length : Int) then ((chain_Have.f bt131.1 bt131.2.1 bt131.2.2.1 (bt131.2.2.2.1.take 1)).bind fun t160 => ((sextonref01_Ints.f k t160 (([0, 1] : List Int))).bind fun t166 => (some t166))) else (none)) else (some false)) else (some false)) else (some false)) else (some false))) else (some false)) else (some false)) else (some false)) else (some false))) else (some false)))))))
theorem sextonlaw13_cutP.mono : ∀ k, LeO (sextonlaw13_cutP.f k ) (sextonlaw13_cutP.f (k + 1) ) := by
  intro  k
  unfold sextonlaw13_cutP.f
  repeat' first
      | (with_reducible exact chain_Describe.mono _ _ _ _)
      | (with_reducible exact sextonref01_Ints.mono _ _ _)
      | (with_reducible exact sextonref01_Texts.mono _ _ _)
      | (with_reducible exact sextonref12_Same.mono _ _ _ _ _ _ _)
      | (with_reducible exact LeO.refl _)
      | (with_reducible exact LeO.none _)
      | (with_reducible refine LeO.ite ?_ ?_)
      | (with_reducible refine LeO.bind ?_ (fun _ => ?_))
      | exact chain_Describe.mono _ _ _ _
      | exact sextonref01_Ints.mono _ _ _
      | exact sextonref01_Texts.mono _ _ _
      | exact sextonref12_Same.mono _ _ _ _ _ _ _
      | exact LeO.none _
      | refine LeO.ite ?_ ?_
      | refine LeO.bind ?_ (fun _ => ?_)
def sextonlaw13_cutP.T7 : Bool × List (List Nat × List Nat) := (true, [([], []), ([0], [0]), ([1], [1]), ([2], [2]), ([2], [2]), ([3, 4, 2, 2], [2, 3, 4]), ([2, 5], [2, 5]), ([6, 5], [6]), ([7], [7]), ([7], [7]), ([8, 9, 7], [7, 8, 9]), ([7, 10], [7, 10]), ([11, 7], [11]), ([12], [12]), ([13, 12], [12, 13]), ([14, 12], [12, 14]), ([12, 15], [12, 15]), ([16, 12], [16]), ([17], [17]), ([17], [17]), ([18, 19, 17], [17, 18, 19]), ([17, 20], [17, 20]), ([21, 17], [21]), ([22], [22]), ([22], [22]), ([22], [22]), ([24, 25, 22], [22, 24, 25]), ([26, 22], [22, 26]), ([23, 27, 22, 22], [22, 23, 27]), ([22, 28], [22, 28]), ([29, 28], [29]), ([30], [30]), ([30], [30]), ([31, 32, 30], [30, 31, 32]), ([30, 33], [30, 33]), ([34, 30], [34]), ([35], [35]), ([36, 35], [35, 36]), ([35, 37], [35, 37]), ([38, 35], [38]), ([39], [39]), ([40, 39], [39, 40]), ([39, 41], [39, 41]), ([42, 39], [42]), ([43], [43]), ([43], [43]), ([45, 43], [43, 45]), ([44, 46, 43, 43], [43, 44, 46]), ([43], [43]), ([47, 48, 47, 43], [43, 47, 48]), ([43, 49], [43, 49]), ([50, 49, 0, 1, 2, 3, 4, 5, 6, 7, 8, 9, 10, 11, 12, 13, 14, 15, 16, 17, 18, 19, 20, 21, 22, 23, 24, 25, 26, 27, 28, 29, 30, 31, 32, 33, 34, 35, 36, 37, 38, 39, 40, 41, 42, 43, 44, 45, 46, 47, 48, 49, 50], [50])])
def sextonlaw13_cutP.B7 : List Nat := [0, 1, 3, 7, 7, 31, 63, 127, 255, 255, 1023, 2047, 4095, 8191, 16383, 32767, 65535, 131071, 262143, 262143, 1048575, 2097151, 4194303, 8388607, 8388607, 8388607, 58720255, 125829119, 268435455, 536870911, 1073741823, 2147483647, 2147483647, 8589934591, 17179869183, 34359738367, 68719476735, 137438953471, 274877906943, 549755813887, 1099511627775, 2199023255551, 4398046511103, 8796093022207, 17592186044415, 17592186044415, 52776558133247, 140737488355327, 17592186044415, 562949953421311, 1125899906842623, 2251799813685247]
theorem sextonlaw13_cutP.tab7 : rtab .any (opsOf Try.f35 7) = sextonlaw13_cutP.T7 := by kernel_rfl
theorem sextonlaw13_cutP.bits7 : waitsOk sextonlaw13_cutP.T7.2 sextonlaw13_cutP.B7 = true := by kernel_rfl
set_option maxHeartbeats 8000000 in
set_option maxRecDepth 100000 in
theorem sextonlaw13_cutP.calls (k : Nat)  (r : Bool) (hrt : r = true := by rfl) (w : World) (h : sextonlaw13_cutP.f k  = some r) :
    Calls Try.prog 35 #[] w fun e w' => e = .returned (.bool r) ∧ Below w.heap.size w w' := by
  have HRT := Aside0.mk hrt
  have hu24 := Try.underlying24
  have HB := Aside0.mk (Below.refl w.heap.size w)
  have H : ((chain_Cut.f (⟨#[97, 98, 99, 100, 101]⟩ : ByteArray) 2).bind fun bt123 => ((chain_Cut.f (⟨#[]⟩ : ByteArray) 2).bind fun bt127 => ((chain_Describe.f k (⟨#[97, 98, 97, 98]⟩ : ByteArray) 2 7).bind fun bt131 => ((chain_Whole.f bt131.1 bt131.2.1 bt131.2.2.1 bt131.2.2.2.1).bind fun bt141 => ((chain_Cut.f (⟨#[97]⟩ : ByteArray) 0).bind fun bt143 => ((crc_Sum.f (⟨#[97, 98]⟩ : ByteArray)).bind fun t147 => (if bt123.2 = 0 then ((sextonref01_Texts.f k bt123.1 (([(⟨#[97, 98]⟩ : ByteArray), (⟨#[99, 100]⟩ : ByteArray), (⟨#[101]⟩ : ByteArray)] : List ByteArray))).bind fun t151 => (if t151 = true then (if bt127.2 = bt123.2 then (if (bt127.1.length : Int) = 0 then (if bt131.2.2.2.2 = bt123.2 then ((sextonref12_Same.f k bt131.1 bt131.2.1 bt131.2.2.1 4 7 (([t147, t147] : List Int))).bind fun t155 => (if t155 = true then (if bt141.2 = bt123.2 then (if bt141.1.toList = ([97, 98, 97, 98] : List UInt8) then (if bt143.2 = 1 then (if 1 ≤ (bt131.2.2.2.1.length : Int) then ((chain_Have.f bt131.1 bt131.2.1 bt131.2.2.1 (bt131.2.2.2.1.take 1)).bind fun t160 => ((sextonref01_Ints.f k t160 (([0, 1] : List Int))).bind fun t166 => (some t166))) else (none)) else (some false)) else (some false)) else (some false)) else (some false))) else (some false)) else (some false)) else (some false)) else (some false))) else (some false)))))))) = some r := h
  clear h
  replace H := Option.bind_eq_some_iff.mp H
  obtain ⟨⟨t123, t124⟩, A10, H⟩ := H
  replace H : ((chain_Cut.f (⟨#[]⟩ : ByteArray) 2).bind fun bt127 => ((chain_Describe.f k (⟨#[97, 98, 97, 98]⟩ : ByteArray) 2 7).bind fun bt131 => ((chain_Whole.f bt131.1 bt131.2.1 bt131.2.2.1 bt131.2.2.2.1).bind fun bt141 => ((chain_Cut.f (⟨#[97]⟩ : ByteArray) 0).bind fun bt143 => ((crc_Sum.f (⟨#[97, 98]⟩ : ByteArray)).bind fun t147 => (if t124 = 0 then ((sextonref01_Texts.f k t123 (([(⟨#[97, 98]⟩ : ByteArray), (⟨#[99, 100]⟩ : ByteArray), (⟨#[101]⟩ : ByteArray)] : List ByteArray))).bind fun t151 => (if t151 = true then (if bt127.2 = t124 then (if (bt127.1.length : Int) = 0 then (if bt131.2.2.2.2 = t124 then ((sextonref12_Same.f k bt131.1 bt131.2.1 bt131.2.2.1 4 7 (([t147, t147] : List Int))).bind fun t155 => (if t155 = true then (if bt141.2 = t124 then (if bt141.1.toList = ([97, 98, 97, 98] : List UInt8) then (if bt143.2 = 1 then (if 1 ≤ (bt131.2.2.2.1.length : Int) then ((chain_Have.f bt131.1 bt131.2.1 bt131.2.2.1 (bt131.2.2.2.1.take 1)).bind fun t160 => ((sextonref01_Ints.f k t160 (([0, 1] : List Int))).bind fun t166 => (some t166))) else (none)) else (some false)) else (some false)) else (some false)) else (some false))) else (some false)) else (some false)) else (some false)) else (some false))) else (some false))))))) = some r := H
  have A1 := Aside0.mk A10
  clear A10
  replace H := Option.bind_eq_some_iff.mp H
  obtain ⟨⟨t127, t128⟩, A20, H⟩ := H
  replace H : ((chain_Describe.f k (⟨#[97, 98, 97, 98]⟩ : ByteArray) 2 7).bind fun bt131 => ((chain_Whole.f bt131.1 bt131.2.1 bt131.2.2.1 bt131.2.2.2.1).bind fun bt141 => ((chain_Cut.f (⟨#[97]⟩ : ByteArray) 0).bind fun bt143 => ((crc_Sum.f (⟨#[97, 98]⟩ : ByteArray)).bind fun t147 => (if t124 = 0 then ((sextonref01_Texts.f k t123 (([(⟨#[97, 98]⟩ : ByteArray), (⟨#[99, 100]⟩ : ByteArray), (⟨#[101]⟩ : ByteArray)] : List ByteArray))).bind fun t151 => (if t151 = true then (if t128 = t124 then (if (t127.length : Int) = 0 then (if bt131.2.2.2.2 = t124 then ((sextonref12_Same.f k bt131.1 bt131.2.1 bt131.2.2.1 4 7 (([t147, t147] : List Int))).bind fun t155 => (if t155 = true then (if bt141.2 = t124 then (if bt141.1.toList = ([97, 98, 97, 98] : List UInt8) then (if bt143.2 = 1 then (if 1 ≤ (bt131.2.2.2.1.length : Int) then ((chain_Have.f bt131.1 bt131.2.1 bt131.2.2.1 (bt131.2.2.2.1.take 1)).bind fun t160 => ((sextonref01_Ints.f k t160 (([0, 1] : List Int))).bind fun t166 => (some t166))) else (none)) else (some false)) else (some false)) else (some false)) else (some false))) else (some false)) else (some false)) else (some false)) else (some false))) else (some false)))))) = some r := H
  have A2 := Aside0.mk A20
  clear A20
  replace H := Option.bind_eq_some_iff.mp H
  obtain ⟨⟨t131, t132, t133, t136, t139⟩, A30, H⟩ := H
  replace H : ((chain_Whole.f t131 t132 t133 t136).bind fun bt141 => ((chain_Cut.f (⟨#[97]⟩ : ByteArray) 0).bind fun bt143 => ((crc_Sum.f (⟨#[97, 98]⟩ : ByteArray)).bind fun t147 => (if t124 = 0 then ((sextonref01_Texts.f k t123 (([(⟨#[97, 98]⟩ : ByteArray), (⟨#[99, 100]⟩ : ByteArray), (⟨#[101]⟩ : ByteArray)] : List ByteArray))).bind fun t151 => (if t151 = true then (if t128 = t124 then (if (t127.length : Int) = 0 then (if t139 = t124 then ((sextonref12_Same.f k t131 t132 t133 4 7 (([t147, t147] : List Int))).bind fun t155 => (if t155 = true then (if bt141.2 = t124 then (if bt141.1.toList = ([97, 98, 97, 98] : List UInt8) then (if bt143.2 = 1 then (if 1 ≤ (t136.length : Int) then ((chain_Have.f t131 t132 t133 (t136.take 1)).bind fun t160 => ((sextonref01_Ints.f k t160 (([0, 1] : List Int))).bind fun t166 => (some t166))) else (none)) else (some false)) else (some false)) else (some false)) else (some false))) else (some false)) else (some false)) else (some false)) else (some false))) else (some false))))) = some r := H
  have A3 := Aside0.mk A30
  clear A30
  replace H := Option.bind_eq_some_iff.mp H
  obtain ⟨⟨t141, t142⟩, A40, H⟩ := H
  replace H : ((chain_Cut.f (⟨#[97]⟩ : ByteArray) 0).bind fun bt143 => ((crc_Sum.f (⟨#[97, 98]⟩ : ByteArray)).bind fun t147 => (if t124 = 0 then ((sextonref01_Texts.f k t123 (([(⟨#[97, 98]⟩ : ByteArray), (⟨#[99, 100]⟩ : ByteArray), (⟨#[101]⟩ : ByteArray)] : List ByteArray))).bind fun t151 => (if t151 = true then (if t128 = t124 then (if (t127.length : Int) = 0 then (if t139 = t124 then ((sextonref12_Same.f k t131 t132 t133 4 7 (([t147, t147] : List Int))).bind fun t155 => (if t155 = true then (if t142 = t124 then (if t141.toList = ([97, 98, 97, 98] : List UInt8) then (if bt143.2 = 1 then (if 1 ≤ (t136.length : Int) then ((chain_Have.f t131 t132 t133 (t136.take 1)).bind fun t160 => ((sextonref01_Ints.f k t160 (([0, 1] : List Int))).bind fun t166 => (some t166))) else (none)) else (some false)) else (some false)) else (some false)) else (some false))) else (some false)) else (some false)) else (some false)) else (some false))) else (some false)))) = some r := H
  have A4 := Aside0.mk A40
  clear A40
  replace H := Option.bind_eq_some_iff.mp H
  obtain ⟨⟨t143, t144⟩, A50, H⟩ := H
  replace H : ((crc_Sum.f (⟨#[97, 98]⟩ : ByteArray)).bind fun t147 => (if t124 = 0 then ((sextonref01_Texts.f k t123 (([(⟨#[97, 98]⟩ : ByteArray), (⟨#[99, 100]⟩ : ByteArray), (⟨#[101]⟩ : ByteArray)] : List ByteArray))).bind fun t151 => (if t151 = true then (if t128 = t124 then (if (t127.length : Int) = 0 then (if t139 = t124 then ((sextonref12_Same.f k t131 t132 t133 4 7 (([t147, t147] : List Int))).bind fun t155 => (if t155 = true then (if t142 = t124 then (if t141.toList = ([97, 98, 97, 98] : List UInt8) then (if t144 = 1 then (if 1 ≤ (t136.length : Int) then ((chain_Have.f t131 t132 t133 (t136.take 1)).bind fun t160 => ((sextonref01_Ints.f k t160 (([0, 1] : List Int))).bind fun t166 => (some t166))) else (none)) else (some false)) else (some false)) else (some false)) else (some false))) else (some false)) else (some false)) else (some false)) else (some false))) else (some false))) = some r := H
  have A5 := Aside0.mk A50
  clear A50
  replace H := Option.bind_eq_some_iff.mp H
  obtain ⟨t147, A60, H⟩ := H
  replace H : (if t124 = 0 then ((sextonref01_Texts.f k t123 (([(⟨#[97, 98]⟩ : ByteArray), (⟨#[99, 100]⟩ : ByteArray), (⟨#[101]⟩ : ByteArray)] : List ByteArray))).bind fun t151 => (if t151 = true then (if t128 = t124 then (if (t127.length : Int) = 0 then (if t139 = t124 then ((sextonref12_Same.f k t131 t132 t133 4 7 (([t147, t147] : List Int))).bind fun t155 => (if t155 = true then (if t142 = t124 then (if t141.toList = ([97, 98, 97, 98] : List UInt8) then (if t144 = 1 then (if 1 ≤ (t136.length : Int) then ((chain_Have.f t131 t132 t133 (t136.take 1)).bind fun t160 => ((sextonref01_Ints.f k t160 (([0, 1] : List Int))).bind fun t166 => (some t166))) else (none)) else (some false)) else (some false)) else (some false)) else (some false))) else (some false)) else (some false)) else (some false)) else (some false))) else (some false)) = some r := H
  have A6 := Aside0.mk A60
  clear A60
  by_cases c7 : t124 = 0
  · rw [if_pos c7] at H
    have c7b0 : (t124 == 0) = true := beq_iff_eq.mpr c7
    have c7b1 : (t124 != 0) = false := bne_eq_false_iff_eq.mpr c7
    clear c7
    obtain ⟨y148, hy148⟩ : ∃ y_ : List ByteArray, y_ = (([(⟨#[97, 98]⟩ : ByteArray), (⟨#[99, 100]⟩ : ByteArray), (⟨#[101]⟩ : ByteArray)] : List ByteArray)) := ⟨_, rfl⟩
    replace H : ((sextonref01_Texts.f k t123 y148).bind fun t151 => (if t151 = true then (if t128 = t124 then (if (t127.length : Int) = 0 then (if t139 = t124 then ((sextonref12_Same.f k t131 t132 t133 4 7 (([t147, t147] : List Int))).bind fun t155 => (if t155 = true then (if t142 = t124 then (if t141.toList = ([97, 98, 97, 98] : List UInt8) then (if t144 = 1 then (if 1 ≤ (t136.length : Int) then ((chain_Have.f t131 t132 t133 (t136.take 1)).bind fun t160 => ((sextonref01_Ints.f k t160 (([0, 1] : List Int))).bind fun t166 => (some t166))) else (none)) else (some false)) else (some false)) else (some false)) else (some false))) else (some false)) else (some false)) else (some false)) else (some false))) = some r := by first | (rw [hy148]; with_reducible exact H) | (have H2_ := (Option.bind_some _ _).symm.trans H; rw [hy148]; with_reducible exact H2_) | (have H2_ := (Option.bind_some _ _).symm.trans H; with_reducible exact H2_) | with_reducible exact H | (rw [hy148]; exact H) | exact H
    have Ny148 := Aside0.mk hy148
    clear hy148
    replace H := Option.bind_eq_some_iff.mp H
    obtain ⟨t151, A80, H⟩ := H
    replace H : (if t151 = true then (if t128 = t124 then (if (t127.length : Int) = 0 then (if t139 = t124 then ((sextonref12_Same.f k t131 t132 t133 4 7 (([t147, t147] : List Int))).bind fun t155 => (if t155 = true then (if t142 = t124 then (if t141.toList = ([97, 98, 97, 98] : List UInt8) then (if t144 = 1 then (if 1 ≤ (t136.length : Int) then ((chain_Have.f t131 t132 t133 (t136.take 1)).bind fun t160 => ((sextonref01_Ints.f k t160 (([0, 1] : List Int))).bind fun t166 => (some t166))) else (none)) else (some false)) else (some false)) else (some false)) else (some false))) else (some false)) else (some false)) else (some false)) else (some false)) = some r := H
    have A8 := Aside0.mk A80
    clear A80
    by_cases c9 : t151 = true
    · subst c9
      have H1 : (if t128 = t124 then (if (t127.length : Int) = 0 then (if t139 = t124 then ((sextonref12_Same.f k t131 t132 t133 4 7 (([t147, t147] : List Int))).bind fun t155 => (if t155 = true then (if t142 = t124 then (if t141.toList = ([97, 98, 97, 98] : List UInt8) then (if t144 = 1 then (if 1 ≤ (t136.length : Int) then ((chain_Have.f t131 t132 t133 (t136.take 1)).bind fun t160 => ((sextonref01_Ints.f k t160 (([0, 1] : List Int))).bind fun t166 => (some t166))) else (none)) else (some false)) else (some false)) else (some false)) else (some false))) else (some false)) else (some false)) else (some false)) = some r := by rw [if_pos rfl] at H; exact H
      clear H
      have H := H1
      clear H1
      by_cases c10 : t128 = t124
      · rw [if_pos c10] at H
        have c10b0 : (t128 == t124) = true := beq_iff_eq.mpr c10
        have c10b1 : (t128 != t124) = false := bne_eq_false_iff_eq.mpr c10
        clear c10
        by_cases c11 : (t127.length : Int) = 0
        · rw [if_pos c11] at H
          have c11b0 : ((t127.length : Int) == 0) = true := beq_iff_eq.mpr c11
          have c11b1 : ((t127.length : Int) != 0) = false := bne_eq_false_iff_eq.mpr c11
          clear c11
          by_cases c12 : t139 = t124
          · rw [if_pos c12] at H
            have c12b0 : (t139 == t124) = true := beq_iff_eq.mpr c12
            have c12b1 : (t139 != t124) = false := bne_eq_false_iff_eq.mpr c12
            clear c12
            obtain ⟨y152, hy152⟩ : ∃ y_ : List Int, y_ = (([t147, t147] : List Int)) := ⟨_, rfl⟩
            replace H : ((sextonref12_Same.f k t131 t132 t133 4 7 y152).bind fun t155 => (if t155 = true then (if t142 = t124 then (if t141.toList = ([97, 98, 97, 98] : List UInt8) then (if t144 = 1 then (if 1 ≤ (t136.length : Int) then ((chain_Have.f t131 t132 t133 (t136.take 1)).bind fun t160 => ((sextonref01_Ints.f k t160 (([0, 1] : List Int))).bind fun t166 => (some t166))) else (none)) else (some false)) else (some false)) else (some false)) else (some false))) = some r := by first | (rw [hy152]; with_reducible exact H) | (have H2_ := (Option.bind_some _ _).symm.trans H; rw [hy152]; with_reducible exact H2_) | (have H2_ := (Option.bind_some _ _).symm.trans H; with_reducible exact H2_) | with_reducible exact H | (rw [hy152]; exact H) | exact H
            have Ny152 := Aside0.mk hy152
            clear hy152
            replace H := Option.bind_eq_some_iff.mp H
            obtain ⟨t155, A130, H⟩ := H
            replace H : (if t155 = true then (if t142 = t124 then (if t141.toList = ([97, 98, 97, 98] : List UInt8) then (if t144 = 1 then (if 1 ≤ (t136.length : Int) then ((chain_Have.f t131 t132 t133 (t136.take 1)).bind fun t160 => ((sextonref01_Ints.f k t160 (([0, 1] : List Int))).bind fun t166 => (some t166))) else (none)) else (some false)) else (some false)) else (some false)) else (some false)) = some r := H
            have A13 := Aside0.mk A130
            clear A130
            by_cases c14 : t155 = true
            · subst c14
              have H1 : (if t142 = t124 then (if t141.toList = ([97, 98, 97, 98] : List UInt8) then (if t144 = 1 then (if 1 ≤ (t136.length : Int) then ((chain_Have.f t131 t132 t133 (t136.take 1)).bind fun t160 => ((sextonref01_Ints.f k t160 (([0, 1] : List Int))).bind fun t166 => (some t166))) else (none)) else (some false)) else (some false)) else (some false)) = some r := by rw [if_pos rfl] at H; exact H
              clear H
              have H := H1
              clear H1
              by_cases c15 : t142 = t124
              · rw [if_pos c15] at H
                have c15b0 : (t142 == t124) = true := beq_iff_eq.mpr c15
                have c15b1 : (t142 != t124) = false := bne_eq_false_iff_eq.mpr c15
                clear c15
                by_cases c16 : t141.toList = ([97, 98, 97, 98] : List UInt8)
                · rw [if_pos c16] at H
                  have c16b0 : (t141.toList == ([97, 98, 97, 98] : List UInt8)) = true := beq_iff_eq.mpr c16
                  have c16b1 : (t141.toList != ([97, 98, 97, 98] : List UInt8)) = false := bne_eq_false_iff_eq.mpr c16
                  clear c16
                  by_cases c17 : t144 = 1
                  · rw [if_pos c17] at H
                    have c17b0 : (t144 == 1) = true := beq_iff_eq.mpr c17
                    have c17b1 : (t144 != 1) = false := bne_eq_false_iff_eq.mpr c17
                    clear c17
                    by_cases c18 : 1 ≤ (t136.length : Int)
                    · rw [if_pos c18] at H
                      have c18b0 := eq_true c18
                      have c18b1 : decide (1 ≤ (t136.length : Int)) = true := decide_eq_true c18
                      clear c18
                      obtain ⟨y156, hy156⟩ : ∃ y_ : List ByteArray, y_ = (t136.take 1) := ⟨_, rfl⟩
                      replace H : ((chain_Have.f t131 t132 t133 y156).bind fun t160 => ((sextonref01_Ints.f k t160 (([0, 1] : List Int))).bind fun t166 => (some t166))) = some r := by first | (rw [hy156]; with_reducible exact H) | (have H2_ := (Option.bind_some _ _).symm.trans H; rw [hy156]; with_reducible exact H2_) | (have H2_ := (Option.bind_some _ _).symm.trans H; with_reducible exact H2_) | with_reducible exact H | (rw [hy156]; exact H) | exact H
                      have Ny156 := Aside0.mk hy156
                      clear hy156
                      replace H := Option.bind_eq_some_iff.mp H
                      obtain ⟨t160, A190, H⟩ := H
                      replace H : ((sextonref01_Ints.f k t160 (([0, 1] : List Int))).bind fun t166 => (some t166)) = some r := H
                      have A19 := Aside0.mk A190
                      clear A190
                      obtain ⟨y163, hy163⟩ : ∃ y_ : List Int, y_ = (([0, 1] : List Int)) := ⟨_, rfl⟩
                      replace H : ((sextonref01_Ints.f k t160 y163).bind fun t166 => (some t166)) = some r := by first | (rw [hy163]; with_reducible exact H) | (have H2_ := (Option.bind_some _ _).symm.trans H; rw [hy163]; with_reducible exact H2_) | (have H2_ := (Option.bind_some _ _).symm.trans H; with_reducible exact H2_) | with_reducible exact H | (rw [hy163]; exact H) | exact H
                      have Ny163 := Aside0.mk hy163
                      clear hy163
                      replace H := Option.bind_eq_some_iff.mp H
                      obtain ⟨t166, A200, H⟩ := H
                      replace H : (some t166) = some r := H
                      have A20 := Aside0.mk A200
                      clear A200
                      obtain rfl := Option.some.inj H
                      go_enter Try.func35, Try.ntmps35
                      try go_wp2_with (first | ((with_reducible refine gate_callee (f := 28) rfl ?_); refine goesL_ (some 14) rfl rfl Try.func28 (by kernel_rfl) rfl #[.string (⟨#[97, 98, 99, 100, 101]⟩ : ByteArray), .int .i64 2] rfl (by (try simp only [List.map_toArray, List.map_cons, List.map_nil]); first | done | rfl | (simp only [List.length_drop, List.length_take]; rfl)) ?_; (with_reducible refine (chain_Cut.calls (⟨#[97, 98, 99, 100, 101]⟩ : ByteArray) 2 t123 t124 _ A1.out).mono ?_); rintro e w21 ⟨v125, rfl, ho0, hb⟩; refine ⟨_, rfl, ?_⟩; have n0_ := Aside0.mk (Kd.R_lower ho0 (below_size (by repeat (first | (with_reducible first | exact HB.out | apply below_alloc | apply pw_below_drewN | apply below_drew1) | exact HB.out)))); have n1_ := Aside0.mk (below_step (by repeat (first | (with_reducible first | exact HB.out | apply below_alloc | apply pw_below_drewN | apply below_drew1) | exact HB.out)) hb); clear HB; have HO126 := n0_; have HB := n1_; clear n0_ n1_; (try clear hb); (try clear hb2); (try clear hk); (try clear hi); (try clear ho0)) | ((with_reducible refine gate_callee (f := 28) rfl ?_); refine goesL_ (some 18) rfl rfl Try.func28 (by kernel_rfl) rfl #[.string (⟨#[]⟩ : ByteArray), .int .i64 2] rfl (by (try simp only [List.map_toArray, List.map_cons, List.map_nil]); first | done | rfl | (simp only [List.length_drop, List.length_take]; rfl)) ?_; (with_reducible refine (chain_Cut.calls (⟨#[]⟩ : ByteArray) 2 t127 t128 _ A2.out).mono ?_); rintro e w22 ⟨v129, rfl, ho0, hb⟩; refine ⟨_, rfl, ?_⟩; have n0_ := Aside0.mk (Kd.R_elder' (by (with_reducible repeat (first | apply Kd.R_alloc | apply Kd.R_drewN | apply Kd.R_drew)); exact HO126.out) (Kd.R_base ho0) hb); have n1_ := Aside0.mk (Kd.R_lower (Kd.R_new' ho0 (Kd.R_lt (by (with_reducible repeat (first | apply Kd.R_alloc | apply Kd.R_drewN | apply Kd.R_drew)); exact HO126.out))) (below_size (by repeat (first | (with_reducible first | exact HB.out | apply below_alloc | apply pw_below_drewN | apply below_drew1) | exact HB.out)))); have n2_ := Aside0.mk (below_step (by repeat (first | (with_reducible first | exact HB.out | apply below_alloc | apply pw_below_drewN | apply below_drew1) | exact HB.out)) hb); clear HO126; clear HB; have HO126 := n0_; have HO130 := n1_; have HB := n2_; clear n0_ n1_ n2_; (try clear hb); (try clear hb2); (try clear hk); (try clear hi); (try clear ho0)) | ((with_reducible refine gate_callee (f := 30) rfl ?_); refine goesL_ (some 22) rfl rfl Try.func30 (by kernel_rfl) rfl #[.string (⟨#[97, 98, 97, 98]⟩ : ByteArray), .int .i64 2, .int .i64 7] rfl (by (try simp only [List.map_toArray, List.map_cons, List.map_nil]); first | done | rfl | (simp only [List.length_drop, List.length_take]; rfl)) ?_; (with_reducible refine (chain_Describe.calls k (⟨#[97, 98, 97, 98]⟩ : ByteArray) 2 7 t131 t132 t133 t136 t139 _ A3.out).mono ?_); rintro e w23 ⟨v134, v137, rfl, ho0, ho1, hb⟩; refine ⟨_, rfl, ?_⟩; have n0_ := Aside0.mk (Kd.R_elder' (by (with_reducible repeat (first | apply Kd.R_alloc | apply Kd.R_drewN | apply Kd.R_drew)); exact HO126.out) (Kd.R_base ho1) hb); have n1_ := Aside0.mk (Kd.R_elder' (by (with_reducible repeat (first | apply Kd.R_alloc | apply Kd.R_drewN | apply Kd.R_drew)); exact HO130.out) (Kd.R_base ho1) hb); have n2_ := Aside0.mk (Kd.R_lower ho0 (below_size (by repeat (first | (with_reducible first | exact HB.out | apply below_alloc | apply pw_below_drewN | apply below_drew1) | exact HB.out)))); have n3_ := Aside0.mk (Kd.R_lower (Kd.R_new' (Kd.R_new' ho1 (Kd.R_lt (by (with_reducible repeat (first | apply Kd.R_alloc | apply Kd.R_drewN | apply Kd.R_drew)); exact HO126.out))) (Kd.R_lt (by (with_reducible repeat (first | apply Kd.R_alloc | apply Kd.R_drewN | apply Kd.R_drew)); exact HO130.out))) (below_size (by repeat (first | (with_reducible first | exact HB.out | apply below_alloc | apply pw_below_drewN | apply below_drew1) | exact HB.out)))); have n4_ := Aside0.mk (below_step (by repeat (first | (with_reducible first | exact HB.out | apply below_alloc | apply pw_below_drewN | apply below_drew1) | exact HB.out)) hb); clear HO126; clear HO130; clear HB; have HO126 := n0_; have HO130 := n1_; have HO135 := n2_; have HO138 := n3_; have HB := n4_; clear n0_ n1_ n2_ n3_ n4_; (try clear hb); (try clear hb2); (try clear hk); (try clear hi); (try clear ho0); (try clear ho1)) | ((with_reducible refine gate_dst (N := 5) rfl ?_); (try (refine gate_guard (by rfl) ?_; dsimp only)); refine box_event ?hg (N := 5) ?hd (cs := #[.int .i64 0, .int .i64 0, .slice none 0 0]) (t := 24) ?hr ?_; (case hd => rfl); (case hg => rfl); (case hr => first | (go_simp; done) | (go_simp; rfl)); intro gb140 hg w24 hbox hb; have n0_ := Aside0.mk (Kd.R_below (by (with_reducible repeat (first | apply Kd.R_alloc | apply Kd.R_drewN | apply Kd.R_drew)); exact HO126.out) hb); have n1_ := Aside0.mk (Kd.R_below (by (with_reducible repeat (first | apply Kd.R_alloc | apply Kd.R_drewN | apply Kd.R_drew)); exact HO130.out) hb); have n2_ := Aside0.mk (Kd.R_below (by (with_reducible repeat (first | apply Kd.R_alloc | apply Kd.R_drewN | apply Kd.R_drew)); exact HO135.out) hb); have n3_ := Aside0.mk (Kd.R_below (by (with_reducible repeat (first | apply Kd.R_alloc | apply Kd.R_drewN | apply Kd.R_drew)); exact HO138.out) hb); have n4_ := Aside0.mk (below_step (by repeat (first | (with_reducible first | exact HB.out | apply below_alloc | apply pw_below_drewN | apply below_drew1) | exact HB.out)) hb); have n5_ := Aside0.mk (hbox); have n6_ := Aside0.mk ((by rw [hg]; exact (below_size (by repeat (first | (with_reducible first | exact HB.out | apply below_alloc | apply pw_below_drewN | apply below_drew1) | exact HB.out))) : w.heap.size ≤ gb140)); have n7_ := Aside0.mk ((by rw [hg]; exact (below_size (by repeat (first | (with_reducible first | exact HB.out | apply below_alloc | apply pw_below_drewN | apply below_drew1) | exact HB.out))) : w.heap.size ≤ gb140)); clear HO126; clear HO130; clear HO135; clear HO138; clear HB; have HO126 := n0_; have HO130 := n1_; have HO135 := n2_; have HO138 := n3_; have HB := n4_; have BK140 := n5_; have GW140 := n6_; have GE140 := n7_; clear n0_ n1_ n2_ n3_ n4_ n5_ n6_ n7_; clear hb hbox hg; have hcz25_0 : w24.cell? ⟨gb140, 0, none⟩ = some (.int .i64 0) := (blk_cell BK140.out 0).trans rfl; have hcz25_1 : w24.cell? ⟨gb140, 1, none⟩ = some (.int .i64 0) := (blk_cell BK140.out 1).trans rfl; have hcz25_2 : w24.cell? ⟨gb140, 2, none⟩ = some (.slice none 0 0) := (blk_cell BK140.out 2).trans rfl; have hfz25_0 := blk_frozen BK140.out 0; have hfz25_1 := blk_frozen BK140.out 1; have hfz25_2 := blk_frozen BK140.out 2; obtain ⟨Ao26, co26, eo26⟩ := Kd.R_slice HO135.out; subst eo26; obtain ⟨Ao27, co27, eo27⟩ := Kd.R_slice HO138.out; subst eo27) | ((with_reducible refine gate_callee (f := 32) rfl ?_); refine goesL_ (some 29) rfl rfl Try.func32 (by kernel_rfl) rfl #[.agg #[.int .i64 t131, .int .i64 t132, .slice Ao26 t133.length co26], .slice Ao27 t136.length co27] rfl (by (try simp only [List.map_toArray, List.map_cons, List.map_nil]); first | done | rfl | (simp only [List.length_drop, List.length_take]; rfl)) ?_; (with_reducible refine (chain_Whole.calls t131 t132 _ _ t133 _ _ t136 t141 t142 _ ?side1 ?side2 ?side3 ?side4 A4.out).mono ?_); (case side1 => refine (Kd.R_reads' (e := 3) (base := w.heap.size) (ok := fun k_ => True) (n := t133.length) (c := co26) ?_).2.2; exact (by (with_reducible repeat (first | apply Kd.R_alloc | apply Kd.R_drewN | apply Kd.R_drew)); exact (Kd.R_mono (Kd.R_far (p := ⟨gb140, 2, none⟩) (Kd.R_far (p := ⟨gb140, 1, none⟩) (Kd.R_far (p := ⟨gb140, 0, none⟩) (Kd.R_types HO135.out BK140.out (by decide)) (fun _ hk => hk.2) (.int .i64 t131)) (fun _ hk => hk.2) (.int .i64 t132)) (fun _ hk => hk.2) (.slice Ao26 t133.length co26)) (fun _ h_ => h_.1)))); (case side2 => exact (Kd.R_reads' HO135.out).2.1); (case side3 => refine (Kd.R_reads' (e := 9) (base := w.heap.size) (ok := fun k_ => ((True ∧ some k_ ≠ (v125 : Value).ownBlock) ∧ some k_ ≠ (v129 : Value).ownBlock)) (n := t136.length) (c := co27) ?_).2.2; exact (by (with_reducible repeat (first | apply Kd.R_alloc | apply Kd.R_drewN | apply Kd.R_drew)); exact (Kd.R_mono (Kd.R_far (p := ⟨gb140, 2, none⟩) (Kd.R_far (p := ⟨gb140, 1, none⟩) (Kd.R_far (p := ⟨gb140, 0, none⟩) (Kd.R_types HO138.out BK140.out (by decide)) (fun _ hk => hk.2) (.int .i64 t131)) (fun _ hk => hk.2) (.int .i64 t132)) (fun _ hk => hk.2) (.slice Ao26 t133.length co26)) (fun _ h_ => h_.1)))); (case side4 => exact (Kd.R_reads' HO138.out).2.1); rintro e w28 ⟨rfl, hb⟩; refine ⟨_, rfl, ?_⟩; have n0_ := Aside0.mk (Kd.R_below (by (with_reducible repeat (first | apply Kd.R_alloc | apply Kd.R_drewN | apply Kd.R_drew)); exact (Kd.R_mono (Kd.R_far (p := ⟨gb140, 2, none⟩) (Kd.R_far (p := ⟨gb140, 1, none⟩) (Kd.R_far (p := ⟨gb140, 0, none⟩) (Kd.R_types HO126.out BK140.out (by decide)) (fun _ hk => hk.2) (.int .i64 t131)) (fun _ hk => hk.2) (.int .i64 t132)) (fun _ hk => hk.2) (.slice Ao26 t133.length co26)) (fun _ h_ => h_.1))) hb); have n1_ := Aside0.mk (Kd.R_below (by (with_reducible repeat (first | apply Kd.R_alloc | apply Kd.R_drewN | apply Kd.R_drew)); exact (Kd.R_mono (Kd.R_far (p := ⟨gb140, 2, none⟩) (Kd.R_far (p := ⟨gb140, 1, none⟩) (Kd.R_far (p := ⟨gb140, 0, none⟩) (Kd.R_types HO130.out BK140.out (by decide)) (fun _ hk => hk.2) (.int .i64 t131)) (fun _ hk => hk.2) (.int .i64 t132)) (fun _ hk => hk.2) (.slice Ao26 t133.length co26)) (fun _ h_ => h_.1))) hb); have n2_ := Aside0.mk (Kd.R_below (by (with_reducible repeat (first | apply Kd.R_alloc | apply Kd.R_drewN | apply Kd.R_drew)); exact (Kd.R_mono (Kd.R_far (p := ⟨gb140, 2, none⟩) (Kd.R_far (p := ⟨gb140, 1, none⟩) (Kd.R_far (p := ⟨gb140, 0, none⟩) (Kd.R_types HO135.out BK140.out (by decide)) (fun _ hk => hk.2) (.int .i64 t131)) (fun _ hk => hk.2) (.int .i64 t132)) (fun _ hk => hk.2) (.slice Ao26 t133.length co26)) (fun _ h_ => h_.1))) hb); have n3_ := Aside0.mk (Kd.R_below (by (with_reducible repeat (first | apply Kd.R_alloc | apply Kd.R_drewN | apply Kd.R_drew)); exact (Kd.R_mono (Kd.R_far (p := ⟨gb140, 2, none⟩) (Kd.R_far (p := ⟨gb140, 1, none⟩) (Kd.R_far (p := ⟨gb140, 0, none⟩) (Kd.R_types HO138.out BK140.out (by decide)) (fun _ hk => hk.2) (.int .i64 t131)) (fun _ hk => hk.2) (.int .i64 t132)) (fun _ hk => hk.2) (.slice Ao26 t133.length co26)) (fun _ h_ => h_.1))) hb); have n4_ := Aside0.mk (blk_below (g := gb140) (o := .cells #[.int .i64 t131, .int .i64 t132, .slice Ao26 t133.length co26] 24 (0, 0)) (by (with_reducible repeat (first | refine blk_drewN ?_ _ | refine blk_drew ?_ | refine blk_alloc ?_ _)); refine blk_put (cs := #[.int .i64 t131, .int .i64 t132, .slice none 0 0]) ?_ 2 _ rfl; (with_reducible repeat (first | refine blk_drewN ?_ _ | refine blk_drew ?_ | refine blk_alloc ?_ _)); refine blk_put (cs := #[.int .i64 t131, .int .i64 0, .slice none 0 0]) ?_ 1 _ rfl; (with_reducible repeat (first | refine blk_drewN ?_ _ | refine blk_drew ?_ | refine blk_alloc ?_ _)); refine blk_put (cs := #[.int .i64 0, .int .i64 0, .slice none 0 0]) ?_ 0 _ rfl; (with_reducible repeat (first | refine blk_drewN ?_ _ | refine blk_drew ?_ | refine blk_alloc ?_ _)); exact BK140.out) hb); have n5_ := Aside0.mk (below_step (by repeat (first | (with_reducible first | exact HB.out | apply below_alloc | apply pw_below_drewN | apply below_drew1 | refine below_set ?_ GE140.out) | exact HB.out)) hb); clear HO126; clear HO130; clear HO135; clear HO138; clear BK140; clear HB; have HO126 := n0_; have HO130 := n1_; have HO135 := n2_; have HO138 := n3_; have BK140 := n4_; have HB := n5_; clear n0_ n1_ n2_ n3_ n4_ n5_; (try clear hb); (try clear hb2); (try clear hk); (try clear hi)) | ((with_reducible refine gate_callee (f := 28) rfl ?_); refine goesL_ (some 33) rfl rfl Try.func28 (by kernel_rfl) rfl #[.string (⟨#[97]⟩ : ByteArray), .int .i64 0] rfl (by (try simp only [List.map_toArray, List.map_cons, List.map_nil]); first | done | rfl | (simp only [List.length_drop, List.length_take]; rfl)) ?_; (with_reducible refine (chain_Cut.calls (⟨#[97]⟩ : ByteArray) 0 t143 t144 _ A5.out).mono ?_); rintro e w29 ⟨v145, rfl, ho0, hb⟩; refine ⟨_, rfl, ?_⟩; have n0_ := Aside0.mk (Kd.R_elder' (by (with_reducible repeat (first | apply Kd.R_alloc | apply Kd.R_drewN | apply Kd.R_drew)); exact HO126.out) (Kd.R_base ho0) hb); have n1_ := Aside0.mk (Kd.R_elder' (by (with_reducible repeat (first | apply Kd.R_alloc | apply Kd.R_drewN | apply Kd.R_drew)); exact HO130.out) (Kd.R_base ho0) hb); have n2_ := Aside0.mk (Kd.R_below (by (with_reducible repeat (first | apply Kd.R_alloc | apply Kd.R_drewN | apply Kd.R_drew)); exact HO135.out) hb); have n3_ := Aside0.mk (Kd.R_elder' (by (with_reducible repeat (first | apply Kd.R_alloc | apply Kd.R_drewN | apply Kd.R_drew)); exact HO138.out) (Kd.R_base ho0) hb); have n4_ := Aside0.mk (Kd.R_lower (Kd.R_new' (Kd.R_new' (Kd.R_new' ho0 (Kd.R_lt (by (with_reducible repeat (first | apply Kd.R_alloc | apply Kd.R_drewN | apply Kd.R_drew)); exact HO126.out))) (Kd.R_lt (by (with_reducible repeat (first | apply Kd.R_alloc | apply Kd.R_drewN | apply Kd.R_drew)); exact HO130.out))) (Kd.R_lt (by (with_reducible repeat (first | apply Kd.R_alloc | apply Kd.R_drewN | apply Kd.R_drew)); exact HO138.out))) (below_size (by repeat (first | (with_reducible first | exact HB.out | apply below_alloc | apply pw_below_drewN | apply below_drew1 | refine below_set ?_ GE140.out) | exact HB.out)))); have n5_ := Aside0.mk (blk_below (g := gb140) (o := .cells #[.int .i64 t131, .int .i64 t132, .slice Ao26 t133.length co26] 24 (0, 0)) (by (with_reducible repeat (first | refine blk_drewN ?_ _ | refine blk_drew ?_ | refine blk_alloc ?_ _)); exact BK140.out) hb); have n6_ := Aside0.mk (below_step (by repeat (first | (with_reducible first | exact HB.out | apply below_alloc | apply pw_below_drewN | apply below_drew1 | refine below_set ?_ GE140.out) | exact HB.out)) hb); clear HO126; clear HO130; clear HO135; clear HO138; clear BK140; clear HB; have HO126 := n0_; have HO130 := n1_; have HO135 := n2_; have HO138 := n3_; have HO146 := n4_; have BK140 := n5_; have HB := n6_; clear n0_ n1_ n2_ n3_ n4_ n5_ n6_; (try clear hb); (try clear hb2); (try clear hk); (try clear hi); (try clear ho0)) | ((with_reducible refine gate_callee (f := 42) rfl ?_); refine goesL_ (some 36) rfl rfl Try.func42 (by kernel_rfl) rfl #[.string (⟨#[97, 98]⟩ : ByteArray)] rfl (by (try simp only [List.map_toArray, List.map_cons, List.map_nil]); first | done | rfl | (simp only [List.length_drop, List.length_take]; rfl)) ?_; (with_reducible refine (crc_Sum.calls (⟨#[97, 98]⟩ : ByteArray) t147 _ A6.out).mono ?_); rintro e w30 ⟨rfl, hb⟩; refine ⟨_, rfl, ?_⟩; have n0_ := Aside0.mk (Kd.R_below (by (with_reducible repeat (first | apply Kd.R_alloc | apply Kd.R_drewN | apply Kd.R_drew)); exact HO126.out) hb); have n1_ := Aside0.mk (Kd.R_below (by (with_reducible repeat (first | apply Kd.R_alloc | apply Kd.R_drewN | apply Kd.R_drew)); exact HO130.out) hb); have n2_ := Aside0.mk (Kd.R_below (by (with_reducible repeat (first | apply Kd.R_alloc | apply Kd.R_drewN | apply Kd.R_drew)); exact HO135.out) hb); have n3_ := Aside0.mk (Kd.R_below (by (with_reducible repeat (first | apply Kd.R_alloc | apply Kd.R_drewN | apply Kd.R_drew)); exact HO138.out) hb); have n4_ := Aside0.mk (Kd.R_below (by (with_reducible repeat (first | apply Kd.R_alloc | apply Kd.R_drewN | apply Kd.R_drew)); exact HO146.out) hb); have n5_ := Aside0.mk (blk_below (g := gb140) (o := .cells #[.int .i64 t131, .int .i64 t132, .slice Ao26 t133.length co26] 24 (0, 0)) (by (with_reducible repeat (first | refine blk_drewN ?_ _ | refine blk_drew ?_ | refine blk_alloc ?_ _)); exact BK140.out) hb); have n6_ := Aside0.mk (below_step (by repeat (first | (with_reducible first | exact HB.out | apply below_alloc | apply pw_below_drewN | apply below_drew1 | refine below_set ?_ GE140.out) | exact HB.out)) hb); clear HO126; clear HO130; clear HO135; clear HO138; clear HO146; clear BK140; clear HB; have HO126 := n0_; have HO130 := n1_; have HO135 := n2_; have HO138 := n3_; have HO146 := n4_; have BK140 := n5_; have HB := n6_; clear n0_ n1_ n2_ n3_ n4_ n5_ n6_; (try clear hb); (try clear hb2); (try clear hk); (try clear hi); obtain ⟨Ao31, co31, eo31⟩ := Kd.R_slice HO126.out; subst eo31))
                      have n0_ := Aside0.mk (Kd.R_drew HO126.out)
                      have n1_ := Aside0.mk (Kd.R_drew HO130.out)
                      have n2_ := Aside0.mk (Kd.R_drew HO135.out)
                      have n3_ := Aside0.mk (Kd.R_drew HO138.out)
                      have n4_ := Aside0.mk (Kd.R_drew HO146.out)
                      have n5_ := Aside0.mk (blk_drew BK140.out)
                      have n6_ := Aside0.mk (below_drew1 HB.out)
                      clear HO126
                      clear HO130
                      clear HO135
                      clear HO138
                      clear HO146
                      clear BK140
                      clear HB
                      have HO126 := n0_
                      have HO130 := n1_
                      have HO135 := n2_
                      have HO138 := n3_
                      have HO146 := n4_
                      have BK140 := n5_
                      have HB := n6_
                      clear n0_ n1_ n2_ n3_ n4_ n5_ n6_
                      refine start_ (n := 52) (S := fun w' => w'.cell? ⟨gb140, 0, none⟩ = some (.int .i64 t131) ∧ w'.cell? ⟨gb140, 1, none⟩ = some (.int .i64 t132) ∧ w'.cell? ⟨gb140, 2, none⟩ = some (.slice Ao26 t133.length co26)) (ds := []) #[false, false, false, false, false, false, false, false, false, false, false, false, false, false, false, false, false, false, false, false, false, false, false, false, false, false, false, false, false, false, false, false, false, false, false, false, false, false, false, false, false, false, false, false, false, false, false, false, false, false, false, false] (by kernel_rfl) rfl rfl ⟨(blk_cell BK140.out 0).trans rfl, (blk_cell BK140.out 1).trans rfl, (blk_cell BK140.out 2).trans rfl⟩ (fun hHeld => ?_); refine with_tabW sextonlaw13_cutP.tab7 sextonlaw13_cutP.bits7 (fun HT_ HW_ => ?_)
                      generalize w30.drew = w32 at HO126 HO130 HO135 HO138 HO146 BK140 HB hHeld ⊢
                      refine pure_ (i := 0) (N := some 37) (v := ?_) (a' := ?_) #[true, false, false, false, false, false, false, false, false, false, false, false, false, false, false, false, false, false, false, false, false, false, false, false, false, false, false, false, false, false, false, false, false, false, false, false, false, false, false, false, false, false, false, false, false, false, false, false, false, false, false, false] rfl rfl (any_of HT_.out (by kernel_rfl)) (fun _ _ _ h => h) (Or.inl ⟨by rfl, ?_⟩) ?_ ?_
                      rotate_left
                      · intro w'
                        go_simp
                        with_reducible rfl
                      rotate_left
                      · simp only [Act.put, List.setIfInBounds_toArray, List.set_cons_zero, List.set_cons_succ, i64_w, i32_w]
                        rfl
                      refine pure_ (i := 1) (N := some 38) (v := ?_) (a' := ?_) #[true, true, false, false, false, false, false, false, false, false, false, false, false, false, false, false, false, false, false, false, false, false, false, false, false, false, false, false, false, false, false, false, false, false, false, false, false, false, false, false, false, false, false, false, false, false, false, false, false, false, false, false] rfl rfl (any_of HT_.out (by kernel_rfl)) (fun _ _ _ h => h) (Or.inl ⟨by rfl, ?_⟩) ?_ ?_
                      rotate_left
                      · intro w'
                        go_simp
                        with_reducible rfl
                      rotate_left
                      · simp only [Act.put, List.setIfInBounds_toArray, List.set_cons_zero, List.set_cons_succ, i64_w, i32_w]
                        rfl
                      refine pure_ (i := 2) (N := some 39) (v := ?_) (a' := ?_) #[true, true, true, false, false, false, false, false, false, false, false, false, false, false, false, false, false, false, false, false, false, false, false, false, false, false, false, false, false, false, false, false, false, false, false, false, false, false, false, false, false, false, false, false, false, false, false, false, false, false, false, false] rfl rfl (any_of HT_.out (by kernel_rfl)) (fun _ _ _ h => h) (Or.inl ⟨by rfl, ?_⟩) ?_ ?_
                      rotate_left
                      · intro w'
                        go_simp
                        with_reducible rfl
                      rotate_left
                      · simp only [Act.put, List.setIfInBounds_toArray, List.set_cons_zero, List.set_cons_succ, i64_w, i32_w]
                        rfl
                      refine pure_ (i := 3) (N := some 40) (v := ?_) (a' := ?_) #[true, true, true, true, false, false, false, false, false, false, false, false, false, false, false, false, false, false, false, false, false, false, false, false, false, false, false, false, false, false, false, false, false, false, false, false, false, false, false, false, false, false, false, false, false, false, false, false, false, false, false, false] rfl rfl (any_of HT_.out (by kernel_rfl)) (fun _ _ _ h => h) (Or.inl ⟨by rfl, ?_⟩) ?_ ?_
                      rotate_left
                      · intro w'
                        go_simp
                        with_reducible rfl
                      rotate_left
                      · simp only [Act.put, List.setIfInBounds_toArray, List.set_cons_zero, List.set_cons_succ, i64_w, i32_w]
                        rfl
                      refine one_ (i := 4) (N := some 41) #[true, true, true, true, true, false, false, false, false, false, false, false, false, false, false, false, false, false, false, false, false, false, false, false, false, false, false, false, false, false, false, false, false, false, false, false, false, false, false, false, false, false, false, false, false, false, false, false, false, false, false, false] rfl rfl (one_of HT_.out (by kernel_rfl)) (by decide) (fun K hK => ?_)
                      refine Kd.R_lit_step Kd.string _ 9 ?hg (N := 41) ?hd (xs := ([(⟨#[97, 98]⟩ : ByteArray), (⟨#[99, 100]⟩ : ByteArray), (⟨#[101]⟩ : ByteArray)] : List ByteArray)) (inner := [.string (⟨#[97, 98]⟩ : ByteArray), .string (⟨#[99, 100]⟩ : ByteArray), .string (⟨#[101]⟩ : ByteArray)]) (ok := fun _ => True) (okp := fun _ => True) ?hr ?hp (fun _ hk => hk) trivial (Below.refl _ _) (Nat.le_refl _) (by simp) ?_; (case hd => rfl); (case hg => rfl); (case hr => first | (go_simp; done) | (go_simp; rfl)); (case hp => exact (Reps.one (show Kd.M Kd.string _ _ _ (⟨#[97, 98]⟩ : ByteArray) [.string (⟨#[97, 98]⟩ : ByteArray)] from rfl) (Reps.one (show Kd.M Kd.string _ _ _ (⟨#[99, 100]⟩ : ByteArray) [.string (⟨#[99, 100]⟩ : ByteArray)] from rfl) (Reps.one (show Kd.M Kd.string _ _ _ (⟨#[101]⟩ : ByteArray) [.string (⟨#[101]⟩ : ByteArray)] from rfl) (Reps.none _ _)))))
                      intro v149 w33 ho34 hb hg_ hnew_
                      clear hg_ hnew_
                      (first | rw [← Ny148.out] at ho34 | (simp only [Int.reduceToNat] at ho34; rw [← Ny148.out] at ho34))
                      have n0_ := Aside0.mk (Kd.R_elder' (by (with_reducible repeat (first | apply Kd.R_alloc | apply Kd.R_drewN | apply Kd.R_drew)); exact HO126.out) (Kd.R_base ho34) hb)
                      have n1_ := Aside0.mk (Kd.R_elder' (by (with_reducible repeat (first | apply Kd.R_alloc | apply Kd.R_drewN | apply Kd.R_drew)); exact HO130.out) (Kd.R_base ho34) hb)
                      have n2_ := Aside0.mk (Kd.R_below (by (with_reducible repeat (first | apply Kd.R_alloc | apply Kd.R_drewN | apply Kd.R_drew)); exact HO135.out) hb)
                      have n3_ := Aside0.mk (Kd.R_elder' (by (with_reducible repeat (first | apply Kd.R_alloc | apply Kd.R_drewN | apply Kd.R_drew)); exact HO138.out) (Kd.R_base ho34) hb)
                      have n4_ := Aside0.mk (Kd.R_elder' (by (with_reducible repeat (first | apply Kd.R_alloc | apply Kd.R_drewN | apply Kd.R_drew)); exact HO146.out) (Kd.R_base ho34) hb)
                      have n5_ := Aside0.mk (Kd.R_lower (Kd.R_new' (Kd.R_new' (Kd.R_new' (Kd.R_new' ho34 (Kd.R_lt (by (with_reducible repeat (first | apply Kd.R_alloc | apply Kd.R_drewN | apply Kd.R_drew)); exact HO126.out))) (Kd.R_lt (by (with_reducible repeat (first | apply Kd.R_alloc | apply Kd.R_drewN | apply Kd.R_drew)); exact HO130.out))) (Kd.R_lt (by (with_reducible repeat (first | apply Kd.R_alloc | apply Kd.R_drewN | apply Kd.R_drew)); exact HO138.out))) (Kd.R_lt (by (with_reducible repeat (first | apply Kd.R_alloc | apply Kd.R_drewN | apply Kd.R_drew)); exact HO146.out))) (below_size (by repeat (first | (with_reducible first | exact HB.out | apply below_alloc | apply pw_below_drewN | apply below_drew1 | refine below_set ?_ GE140.out) | exact HB.out))))
                      have n6_ := Aside0.mk (blk_below (g := gb140) (o := .cells #[.int .i64 t131, .int .i64 t132, .slice Ao26 t133.length co26] 24 (0, 0)) (by (with_reducible repeat (first | refine blk_drewN ?_ _ | refine blk_drew ?_ | refine blk_alloc ?_ _)); exact BK140.out) hb)
                      have n7_ := Aside0.mk (below_step (by repeat (first | (with_reducible first | exact HB.out | apply below_alloc | apply pw_below_drewN | apply below_drew1 | refine below_set ?_ GE140.out) | exact HB.out)) hb)
                      clear HO126
                      clear HO130
                      clear HO135
                      clear HO138
                      clear HO146
                      clear BK140
                      clear HB
                      have HO126 := n0_
                      have HO130 := n1_
                      have HO135 := n2_
                      have HO138 := n3_
                      have HO146 := n4_
                      have HO150 := n5_
                      have BK140 := n6_
                      have HB := n7_
                      clear n0_ n1_ n2_ n3_ n4_ n5_ n6_ n7_
                      clear hb ho34
                      obtain ⟨Ao35, co35, eo35⟩ := Kd.R_slice HO150.out
                      (first | subst eo35 | (injection eo35 with f1_ f2_ f3_; have f4_ := f1_.symm; have f5_ := f3_.symm; clear f1_ f2_ f3_; subst f4_; subst f5_))
                      refine hK.out _ _ ⟨(blk_cell BK140.out 0).trans rfl, (blk_cell BK140.out 1).trans rfl, (blk_cell BK140.out 2).trans rfl⟩ (fun hHeld => ?_)
                      clear hK K
                      refine norm_ (a' := ?_) ?_ ?_
                      rotate_left
                      · show Act.put _ (some 41) _ = _
                        simp only [Act.put, List.setIfInBounds_toArray, List.set_cons_zero, List.set_cons_succ, i64_w, i32_w]
                        rfl
                      refine one_ (i := 5) (N := some 42) #[true, true, true, true, true, true, false, false, false, false, false, false, false, false, false, false, false, false, false, false, false, false, false, false, false, false, false, false, false, false, false, false, false, false, false, false, false, false, false, false, false, false, false, false, false, false, false, false, false, false, false, false] rfl rfl (one_of HT_.out (by kernel_rfl)) (by decide) (fun K hK => ?_)
                      refine goes_ Try.func34 (by kernel_rfl) rfl #[.slice Ao31 t123.length co31, .slice Ao35 y148.length co35] (by rfl) rfl rfl (by (try simp only [List.map_toArray, List.map_cons, List.map_nil]); first | done | rfl | (simp only [List.length_drop, List.length_take]; rfl)) ?_
                      with_reducible refine (sextonref01_Texts.calls k _ _ t123 _ _ y148 true _ ?side1 ?side2 ?side3 ?side4 A8.out).mono ?_
                      (case side1 => repeat (first | exact (Kd.R_reads' HO126.out).2.2 | (with_reducible refine Kd.C_alloc ?_ _) | (with_reducible refine Kd.C_drewN ?_ _) | (with_reducible refine Kd.C_drew ?_)))
                      (case side2 => exact (Kd.R_reads' HO126.out).2.1)
                      (case side3 => repeat (first | exact (Kd.R_reads' HO150.out).2.2 | (with_reducible refine Kd.C_alloc ?_ _) | (with_reducible refine Kd.C_drewN ?_ _) | (with_reducible refine Kd.C_drew ?_)))
                      (case side4 => exact (Kd.R_reads' HO150.out).2.1)
                      rintro e w' ⟨rfl, ⟨nd, rfl⟩⟩
                      refine ⟨_, rfl, ?_⟩
                      obtain ⟨Ao36, co36, eo36⟩ := Kd.R_slice HO130.out
                      (first | subst eo36 | (injection eo36 with f1_ f2_ f3_; have f4_ := f1_.symm; have f5_ := f3_.symm; clear f1_ f2_ f3_; subst f4_; subst f5_))
                      refine hK.out _ _ ⟨(blk_cell BK140.out 0).trans rfl, (blk_cell BK140.out 1).trans rfl, (blk_cell BK140.out 2).trans rfl⟩ (fun hHeld => ?_)
                      clear hK K
                      refine norm_ (a' := ?_) ?_ ?_
                      rotate_left
                      · show Act.put _ (some 42) _ = _
                        simp only [Act.put, List.setIfInBounds_toArray, List.set_cons_zero, List.set_cons_succ, i64_w, i32_w]
                        rfl
                      refine pure_ (i := 6) (N := some 43) (v := ?_) (a' := ?_) #[true, true, true, true, true, true, true, false, false, false, false, false, false, false, false, false, false, false, false, false, false, false, false, false, false, false, false, false, false, false, false, false, false, false, false, false, false, false, false, false, false, false, false, false, false, false, false, false, false, false, false, false] rfl rfl (any_of HT_.out (by kernel_rfl)) (fun _ _ _ h => h) (Or.inl ⟨by rfl, ?_⟩) ?_ ?_
                      rotate_left
                      · intro w'
                        go_simp
                        with_reducible rfl
                      rotate_left
                      · simp only [Act.put, List.setIfInBounds_toArray, List.set_cons_zero, List.set_cons_succ, i64_w, i32_w]
                        rfl
                      refine pure_ (i := 7) (N := some 44) (v := ?_) (a' := ?_) #[true, true, true, true, true, true, true, true, false, false, false, false, false, false, false, false, false, false, false, false, false, false, false, false, false, false, false, false, false, false, false, false, false, false, false, false, false, false, false, false, false, false, false, false, false, false, false, false, false, false, false, false] rfl rfl (any_of HT_.out (by kernel_rfl)) (fun _ _ _ h => h) (Or.inl ⟨by rfl, ?_⟩) ?_ ?_
                      rotate_left
                      · intro w'
                        go_simp
                        with_reducible rfl
                      rotate_left
                      · simp only [Act.put, List.setIfInBounds_toArray, List.set_cons_zero, List.set_cons_succ, i64_w, i32_w]
                        rfl
                      refine pure_ (i := 8) (N := some 45) (v := ?_) (a' := ?_) #[true, true, true, true, true, true, true, true, true, false, false, false, false, false, false, false, false, false, false, false, false, false, false, false, false, false, false, false, false, false, false, false, false, false, false, false, false, false, false, false, false, false, false, false, false, false, false, false, false, false, false, false] rfl rfl (any_of HT_.out (by kernel_rfl)) (fun _ _ _ h => h) (Or.inl ⟨by rfl, ?_⟩) ?_ ?_
                      rotate_left
                      · intro w'
                        go_simp
                        with_reducible rfl
                      rotate_left
                      · simp only [Act.put, List.setIfInBounds_toArray, List.set_cons_zero, List.set_cons_succ, i64_w, i32_w]
                        rfl
                      refine pure_ (i := 9) (N := some 46) (v := ?_) (a' := ?_) #[true, true, true, true, true, true, true, true, true, true, false, false, false, false, false, false, false, false, false, false, false, false, false, false, false, false, false, false, false, false, false, false, false, false, false, false, false, false, false, false, false, false, false, false, false, false, false, false, false, false, false, false] rfl rfl (any_of HT_.out (by kernel_rfl)) (fun _ _ _ h => h) (Or.inl ⟨by rfl, ?_⟩) ?_ ?_
                      rotate_left
                      · intro w'
                        go_simp
                        with_reducible rfl
                      rotate_left
                      · simp only [Act.put, List.setIfInBounds_toArray, List.set_cons_zero, List.set_cons_succ, i64_w, i32_w]
                        rfl
                      refine pure_ (i := 10) (N := some 47) (v := ?_) (a' := ?_) #[true, true, true, true, true, true, true, true, true, true, true, false, false, false, false, false, false, false, false, false, false, false, false, false, false, false, false, false, false, false, false, false, false, false, false, false, false, false, false, false, false, false, false, false, false, false, false, false, false, false, false, false] rfl rfl (any_of HT_.out (by kernel_rfl)) (fun _ _ _ h => h) (Or.inl ⟨by rfl, ?_⟩) ?_ ?_
                      rotate_left
                      · intro w'
                        go_simp
                        with_reducible rfl
                      rotate_left
                      · simp only [Act.put, List.setIfInBounds_toArray, List.set_cons_zero, List.set_cons_succ, i64_w, i32_w]
                        rfl
                      refine pure_ (i := 11) (N := some 48) (v := ?_) (a' := ?_) #[true, true, true, true, true, true, true, true, true, true, true, true, false, false, false, false, false, false, false, false, false, false, false, false, false, false, false, false, false, false, false, false, false, false, false, false, false, false, false, false, false, false, false, false, false, false, false, false, false, false, false, false] rfl rfl (any_of HT_.out (by kernel_rfl)) (fun _ _ _ h => h) (Or.inl ⟨by rfl, ?_⟩) ?_ ?_
                      rotate_left
                      · intro w'
                        go_simp
                        with_reducible rfl
                      rotate_left
                      · simp only [Act.put, List.setIfInBounds_toArray, List.set_cons_zero, List.set_cons_succ, i64_w, i32_w]
                        rfl
                      refine pure_ (i := 12) (N := some 49) (v := ?_) (a' := ?_) #[true, true, true, true, true, true, true, true, true, true, true, true, true, false, false, false, false, false, false, false, false, false, false, false, false, false, false, false, false, false, false, false, false, false, false, false, false, false, false, false, false, false, false, false, false, false, false, false, false, false, false, false] rfl rfl (any_of HT_.out (by kernel_rfl)) (fun _ _ _ h => h) (Or.inl ⟨by rfl, ?_⟩) ?_ ?_
                      rotate_left
                      · intro w'
                        go_simp
                        with_reducible rfl
                      rotate_left
                      · simp only [Act.put, List.setIfInBounds_toArray, List.set_cons_zero, List.set_cons_succ, i64_w, i32_w]
                        rfl
                      refine pure_ (i := 13) (N := some 50) (v := ?_) (a' := ?_) #[true, true, true, true, true, true, true, true, true, true, true, true, true, true, false, false, false, false, false, false, false, false, false, false, false, false, false, false, false, false, false, false, false, false, false, false, false, false, false, false, false, false, false, false, false, false, false, false, false, false, false, false] rfl rfl (any_of HT_.out (by kernel_rfl)) (fun _ _ _ h => h) (Or.inl ⟨by rfl, ?_⟩) ?_ ?_
                      rotate_left
                      · intro w'
                        go_simp
                        with_reducible rfl
                      rotate_left
                      · simp only [Act.put, List.setIfInBounds_toArray, List.set_cons_zero, List.set_cons_succ, i64_w, i32_w]
                        rfl
                      refine pure_ (i := 14) (N := some 51) (v := ?_) (a' := ?_) #[true, true, true, true, true, true, true, true, true, true, true, true, true, true, true, false, false, false, false, false, false, false, false, false, false, false, false, false, false, false, false, false, false, false, false, false, false, false, false, false, false, false, false, false, false, false, false, false, false, false, false, false] rfl rfl (any_of HT_.out (by kernel_rfl)) (fun _ _ _ h => h) (Or.inl ⟨by rfl, ?_⟩) ?_ ?_
                      rotate_left
                      · intro w'
                        go_simp
                        with_reducible rfl
                      rotate_left
                      · simp only [Act.put, List.setIfInBounds_toArray, List.set_cons_zero, List.set_cons_succ, i64_w, i32_w]
                        rfl
                      refine pure_ (i := 15) (N := some 52) (v := ?_) (a' := ?_) #[true, true, true, true, true, true, true, true, true, true, true, true, true, true, true, true, false, false, false, false, false, false, false, false, false, false, false, false, false, false, false, false, false, false, false, false, false, false, false, false, false, false, false, false, false, false, false, false, false, false, false, false] rfl rfl (any_of HT_.out (by kernel_rfl)) (fun _ _ _ h => h) (Or.inl ⟨by rfl, ?_⟩) ?_ ?_
                      rotate_left
                      · intro w'
                        go_simp
                        with_reducible rfl
                      rotate_left
                      · simp only [Act.put, List.setIfInBounds_toArray, List.set_cons_zero, List.set_cons_succ, i64_w, i32_w]
                        rfl
                      refine pure_ (i := 16) (N := some 53) (v := ?_) (a' := ?_) #[true, true, true, true, true, true, true, true, true, true, true, true, true, true, true, true, true, false, false, false, false, false, false, false, false, false, false, false, false, false, false, false, false, false, false, false, false, false, false, false, false, false, false, false, false, false, false, false, false, false, false, false] rfl rfl (any_of HT_.out (by kernel_rfl)) (fun _ _ _ h => h) (Or.inl ⟨by rfl, ?_⟩) ?_ ?_
                      rotate_left
                      · intro w'
                        go_simp
                        with_reducible rfl
                      rotate_left
                      · simp only [Act.put, List.setIfInBounds_toArray, List.set_cons_zero, List.set_cons_succ, i64_w, i32_w]
                        rfl
                      refine pure_ (i := 17) (N := some 54) (v := ?_) (a' := ?_) #[true, true, true, true, true, true, true, true, true, true, true, true, true, true, true, true, true, true, false, false, false, false, false, false, false, false, false, false, false, false, false, false, false, false, false, false, false, false, false, false, false, false, false, false, false, false, false, false, false, false, false, false] rfl rfl (any_of HT_.out (by kernel_rfl)) (fun _ _ _ h => h) (Or.inl ⟨by rfl, ?_⟩) ?_ ?_
                      rotate_left
                      · intro w'
                        go_simp
                        with_reducible rfl
                      rotate_left
                      · simp only [Act.put, List.setIfInBounds_toArray, List.set_cons_zero, List.set_cons_succ, i64_w, i32_w]
                        rfl
                      refine pure_ (i := 18) (N := some 55) (v := ?_) (a' := ?_) #[true, true, true, true, true, true, true, true, true, true, true, true, true, true, true, true, true, true, true, false, false, false, false, false, false, false, false, false, false, false, false, false, false, false, false, false, false, false, false, false, false, false, false, false, false, false, false, false, false, false, false, false] rfl rfl (any_of HT_.out (by kernel_rfl)) (fun _ _ _ h => h) (Or.inl ⟨by rfl, ?_⟩) ?_ ?_
                      rotate_left
                      · intro w'
                        go_simp
                        with_reducible rfl
                      rotate_left
                      · simp only [Act.put, List.setIfInBounds_toArray, List.set_cons_zero, List.set_cons_succ, i64_w, i32_w]
                        rfl
                      refine pure_ (i := 19) (N := some 56) (v := ?_) (a' := ?_) #[true, true, true, true, true, true, true, true, true, true, true, true, true, true, true, true, true, true, true, true, false, false, false, false, false, false, false, false, false, false, false, false, false, false, false, false, false, false, false, false, false, false, false, false, false, false, false, false, false, false, false, false] rfl rfl (any_of HT_.out (by kernel_rfl)) (fun _ _ _ h => h) (Or.inl ⟨by rfl, ?_⟩) ?_ ?_
                      rotate_left
                      · intro w'
                        go_simp
                        with_reducible rfl
                      rotate_left
                      · simp only [Act.put, List.setIfInBounds_toArray, List.set_cons_zero, List.set_cons_succ, i64_w, i32_w]
                        rfl
                      refine pure_ (i := 20) (N := some 57) (v := ?_) (a' := ?_) #[true, true, true, true, true, true, true, true, true, true, true, true, true, true, true, true, true, true, true, true, true, false, false, false, false, false, false, false, false, false, false, false, false, false, false, false, false, false, false, false, false, false, false, false, false, false, false, false, false, false, false, false] rfl rfl (any_of HT_.out (by kernel_rfl)) (fun _ _ _ h => h) (Or.inl ⟨by rfl, ?_⟩) ?_ ?_
                      rotate_left
                      · intro w'
                        go_simp
                        with_reducible rfl
                      rotate_left
                      · simp only [Act.put, List.setIfInBounds_toArray, List.set_cons_zero, List.set_cons_succ, i64_w, i32_w]
                        rfl
                      refine pure_ (i := 21) (N := some 58) (v := ?_) (a' := ?_) #[true, true, true, true, true, true, true, true, true, true, true, true, true, true, true, true, true, true, true, true, true, true, false, false, false, false, false, false, false, false, false, false, false, false, false, false, false, false, false, false, false, false, false, false, false, false, false, false, false, false, false, false] rfl rfl (any_of HT_.out (by kernel_rfl)) (fun _ _ _ h => h) (Or.inl ⟨by rfl, ?_⟩) ?_ ?_
                      rotate_left
                      · intro w'
                        go_simp
                        with_reducible rfl
                      rotate_left
                      · simp only [Act.put, List.setIfInBounds_toArray, List.set_cons_zero, List.set_cons_succ, i64_w, i32_w]
                        rfl
                      refine pure_ (i := 22) (N := some 59) (v := ?_) (a' := ?_) #[true, true, true, true, true, true, true, true, true, true, true, true, true, true, true, true, true, true, true, true, true, true, true, false, false, false, false, false, false, false, false, false, false, false, false, false, false, false, false, false, false, false, false, false, false, false, false, false, false, false, false, false] rfl rfl (any_of HT_.out (by kernel_rfl)) (fun _ _ _ h => h) (Or.inl ⟨by rfl, ?_⟩) ?_ ?_
                      rotate_left
                      · intro w'
                        go_simp
                        with_reducible rfl
                      rotate_left
                      · simp only [Act.put, List.setIfInBounds_toArray, List.set_cons_zero, List.set_cons_succ, i64_w, i32_w]
                        rfl
                      refine pure_ (i := 24) (N := some 61) (v := ?_) (a' := ?_) #[true, true, true, true, true, true, true, true, true, true, true, true, true, true, true, true, true, true, true, true, true, true, true, false, true, false, false, false, false, false, false, false, false, false, false, false, false, false, false, false, false, false, false, false, false, false, false, false, false, false, false, false] rfl rfl (any_of HT_.out (by kernel_rfl)) (fun _ _ _ h => h) (Or.inl ⟨by rfl, ?_⟩) ?_ ?_
                      rotate_left
                      · intro w'
                        go_simp
                        with_reducible rfl
                      rotate_left
                      · simp only [Act.put, List.setIfInBounds_toArray, List.set_cons_zero, List.set_cons_succ, i64_w, i32_w]
                        rfl
                      refine pure_ (i := 25) (N := some 62) (v := ?_) (a' := ?_) #[true, true, true, true, true, true, true, true, true, true, true, true, true, true, true, true, true, true, true, true, true, true, true, false, true, true, false, false, false, false, false, false, false, false, false, false, false, false, false, false, false, false, false, false, false, false, false, false, false, false, false, false] rfl rfl (any_of HT_.out (by kernel_rfl)) (fun _ _ _ h => h) (Or.inl ⟨by rfl, ?_⟩) ?_ ?_
                      rotate_left
                      · intro w'
                        go_simp
                        with_reducible rfl
                      rotate_left
                      · simp only [Act.put, List.setIfInBounds_toArray, List.set_cons_zero, List.set_cons_succ, i64_w, i32_w]
                        rfl
                      refine take_ (i := 23) (N := some 60) (v := ?_) (a' := ?_) #[true, true, true, true, true, true, true, true, true, true, true, true, true, true, true, true, true, true, true, true, true, true, true, true, true, true, false, false, false, false, false, false, false, false, false, false, false, false, false, false, false, false, false, false, false, false, false, false, false, false, false, false] rfl rfl (take_ofW HT_.out HW_.out (by kernel_rfl)) (fun _ _ _ h => h) (Or.inl ⟨by rfl, ?_⟩) hHeld ?_ ?_
                      rotate_left
                      · rintro w' ⟨s0, s1, s2⟩
                        go_simp
                        with_reducible rfl
                      rotate_left
                      · simp only [Act.put, List.setIfInBounds_toArray, List.set_cons_zero, List.set_cons_succ, i64_w, i32_w]
                        rfl
                      refine one_ (i := 26) (N := some 63) #[true, true, true, true, true, true, true, true, true, true, true, true, true, true, true, true, true, true, true, true, true, true, true, true, true, true, true, false, false, false, false, false, false, false, false, false, false, false, false, false, false, false, false, false, false, false, false, false, false, false, false, false] rfl rfl (one_of HT_.out (by kernel_rfl)) (by decide) (fun K hK => ?_)
                      refine Kd.R_lit_step (Kd.int .i64) _ 3 ?hg (N := 63) ?hd (xs := ([t147, t147] : List Int)) (inner := [.int .i64 t147, .int .i64 t147]) (ok := fun _ => True) (okp := fun _ => True) ?hr ?hp (fun _ hk => hk) trivial (Below.refl _ _) (Nat.le_refl _) (by simp) ?_; (case hd => rfl); (case hg => rfl); (case hr => first | (go_simp; done) | (go_simp; rfl)); (case hp => exact (Reps.one (show Kd.M (Kd.int .i64) _ _ _ t147 [.int .i64 t147] from rfl) (Reps.one (show Kd.M (Kd.int .i64) _ _ _ t147 [.int .i64 t147] from rfl) (Reps.none _ _))))
                      intro v153 w37 ho38 hb hg_ hnew_
                      clear hg_ hnew_
                      (first | rw [← Ny152.out] at ho38 | (simp only [Int.reduceToNat] at ho38; rw [← Ny152.out] at ho38))
                      have n0_ := Aside0.mk (Kd.R_below (by (with_reducible repeat (first | apply Kd.R_alloc | apply Kd.R_drewN | apply Kd.R_drew)); exact HO126.out) hb)
                      have n1_ := Aside0.mk (Kd.R_below (by (with_reducible repeat (first | apply Kd.R_alloc | apply Kd.R_drewN | apply Kd.R_drew)); exact HO130.out) hb)
                      have n2_ := Aside0.mk (Kd.R_elder' (by (with_reducible repeat (first | apply Kd.R_alloc | apply Kd.R_drewN | apply Kd.R_drew)); exact HO135.out) (Kd.R_base ho38) hb)
                      have n3_ := Aside0.mk (Kd.R_below (by (with_reducible repeat (first | apply Kd.R_alloc | apply Kd.R_drewN | apply Kd.R_drew)); exact HO138.out) hb)
                      have n4_ := Aside0.mk (Kd.R_below (by (with_reducible repeat (first | apply Kd.R_alloc | apply Kd.R_drewN | apply Kd.R_drew)); exact HO146.out) hb)
                      have n5_ := Aside0.mk (Kd.R_below (by (with_reducible repeat (first | apply Kd.R_alloc | apply Kd.R_drewN | apply Kd.R_drew)); exact HO150.out) hb)
                      have n6_ := Aside0.mk (Kd.R_lower (Kd.R_new' ho38 (Kd.R_lt (by (with_reducible repeat (first | apply Kd.R_alloc | apply Kd.R_drewN | apply Kd.R_drew)); exact HO135.out))) (below_size (by repeat (first | (with_reducible first | exact HB.out | apply below_alloc | apply pw_below_drewN | apply below_drew1 | refine below_set ?_ GE140.out) | exact HB.out))))
                      have n7_ := Aside0.mk (blk_below (g := gb140) (o := .cells #[.int .i64 t131, .int .i64 t132, .slice Ao26 t133.length co26] 24 (0, 0)) (by (with_reducible repeat (first | refine blk_drewN ?_ _ | refine blk_drew ?_ | refine blk_alloc ?_ _)); exact BK140.out) hb)
                      have n8_ := Aside0.mk (below_step (by repeat (first | (with_reducible first | exact HB.out | apply below_alloc | apply pw_below_drewN | apply below_drew1 | refine below_set ?_ GE140.out) | exact HB.out)) hb)
                      clear HO126
                      clear HO130
                      clear HO135
                      clear HO138
                      clear HO146
                      clear HO150
                      clear BK140
                      clear HB
                      have HO126 := n0_
                      have HO130 := n1_
                      have HO135 := n2_
                      have HO138 := n3_
                      have HO146 := n4_
                      have HO150 := n5_
                      have HO154 := n6_
                      have BK140 := n7_
                      have HB := n8_
                      clear n0_ n1_ n2_ n3_ n4_ n5_ n6_ n7_ n8_
                      clear hb ho38
                      obtain ⟨Ao39, co39, eo39⟩ := Kd.R_slice HO154.out
                      (first | subst eo39 | (injection eo39 with f1_ f2_ f3_; have f4_ := f1_.symm; have f5_ := f3_.symm; clear f1_ f2_ f3_; subst f4_; subst f5_))
                      refine hK.out _ _ ⟨(blk_cell BK140.out 0).trans rfl, (blk_cell BK140.out 1).trans rfl, (blk_cell BK140.out 2).trans rfl⟩ (fun hHeld => ?_)
                      clear hK K
                      refine norm_ (a' := ?_) ?_ ?_
                      rotate_left
                      · show Act.put _ (some 63) _ = _
                        simp only [Act.put, List.setIfInBounds_toArray, List.set_cons_zero, List.set_cons_succ, i64_w, i32_w]
                        rfl
                      refine pure_ (i := 27) (N := some 64) (v := ?_) (a' := ?_) #[true, true, true, true, true, true, true, true, true, true, true, true, true, true, true, true, true, true, true, true, true, true, true, true, true, true, true, true, false, false, false, false, false, false, false, false, false, false, false, false, false, false, false, false, false, false, false, false, false, false, false, false] rfl rfl (any_of HT_.out (by kernel_rfl)) (fun _ _ _ h => h) (Or.inl ⟨by rfl, ?_⟩) ?_ ?_
                      rotate_left
                      · intro w'
                        go_simp
                        with_reducible rfl
                      rotate_left
                      · simp only [Act.put, List.setIfInBounds_toArray, List.set_cons_zero, List.set_cons_succ, i64_w, i32_w]
                        rfl
                      refine one_ (i := 28) (N := some 65) #[true, true, true, true, true, true, true, true, true, true, true, true, true, true, true, true, true, true, true, true, true, true, true, true, true, true, true, true, true, false, false, false, false, false, false, false, false, false, false, false, false, false, false, false, false, false, false, false, false, false, false, false] rfl rfl (one_of HT_.out (by kernel_rfl)) (by decide) (fun K hK => ?_)
                      refine goes_ Try.func25 (by kernel_rfl) rfl #[.agg #[.int .i64 t131, .int .i64 t132, .slice Ao26 t133.length co26], .agg #[.int .i64 4, .int .i64 7, .slice Ao39 y152.length co39]] (by rfl) rfl rfl (by (try simp only [List.map_toArray, List.map_cons, List.map_nil]); first | done | rfl | (simp only [List.length_drop, List.length_take]; rfl)) ?_
                      with_reducible refine (sextonref12_Same.calls k t131 t132 _ _ t133 4 7 _ _ y152 true _ ?side1 ?side2 ?side3 ?side4 A13.out).mono ?_
                      (case side1 => repeat (first | exact (Kd.R_reads' HO135.out).2.2 | (with_reducible refine Kd.C_alloc ?_ _) | (with_reducible refine Kd.C_drewN ?_ _) | (with_reducible refine Kd.C_drew ?_)))
                      (case side2 => exact (Kd.R_reads' HO135.out).2.1)
                      (case side3 => repeat (first | exact (Kd.R_reads' HO154.out).2.2 | (with_reducible refine Kd.C_alloc ?_ _) | (with_reducible refine Kd.C_drewN ?_ _) | (with_reducible refine Kd.C_drew ?_)))
                      (case side4 => exact (Kd.R_reads' HO154.out).2.1)
                      rintro e w40 ⟨rfl, hb⟩
                      refine ⟨_, rfl, ?_⟩
                      have n0_ := Aside0.mk (Kd.R_below (by (with_reducible repeat (first | apply Kd.R_alloc | apply Kd.R_drewN | apply Kd.R_drew)); exact HO126.out) hb)
                      have n1_ := Aside0.mk (Kd.R_below (by (with_reducible repeat (first | apply Kd.R_alloc | apply Kd.R_drewN | apply Kd.R_drew)); exact HO130.out) hb)
                      have n2_ := Aside0.mk (Kd.R_below (by (with_reducible repeat (first | apply Kd.R_alloc | apply Kd.R_drewN | apply Kd.R_drew)); exact HO135.out) hb)
                      have n3_ := Aside0.mk (Kd.R_below (by (with_reducible repeat (first | apply Kd.R_alloc | apply Kd.R_drewN | apply Kd.R_drew)); exact HO138.out) hb)
                      have n4_ := Aside0.mk (Kd.R_below (by (with_reducible repeat (first | apply Kd.R_alloc | apply Kd.R_drewN | apply Kd.R_drew)); exact HO146.out) hb)
                      have n5_ := Aside0.mk (Kd.R_below (by (with_reducible repeat (first | apply Kd.R_alloc | apply Kd.R_drewN | apply Kd.R_drew)); exact HO150.out) hb)
                      have n6_ := Aside0.mk (Kd.R_below (by (with_reducible repeat (first | apply Kd.R_alloc | apply Kd.R_drewN | apply Kd.R_drew)); exact HO154.out) hb)
                      have n7_ := Aside0.mk (blk_below (g := gb140) (o := .cells #[.int .i64 t131, .int .i64 t132, .slice Ao26 t133.length co26] 24 (0, 0)) (by (with_reducible repeat (first | refine blk_drewN ?_ _ | refine blk_drew ?_ | refine blk_alloc ?_ _)); exact BK140.out) hb)
                      have n8_ := Aside0.mk (below_step (by repeat (first | (with_reducible first | exact HB.out | apply below_alloc | apply pw_below_drewN | apply below_drew1 | refine below_set ?_ GE140.out) | exact HB.out)) hb)
                      clear HO126
                      clear HO130
                      clear HO135
                      clear HO138
                      clear HO146
                      clear HO150
                      clear HO154
                      clear BK140
                      clear HB
                      have HO126 := n0_
                      have HO130 := n1_
                      have HO135 := n2_
                      have HO138 := n3_
                      have HO146 := n4_
                      have HO150 := n5_
                      have HO154 := n6_
                      have BK140 := n7_
                      have HB := n8_
                      clear n0_ n1_ n2_ n3_ n4_ n5_ n6_ n7_ n8_
                      (try clear hb)
                      (try clear hb2)
                      (try clear hk)
                      (try clear hi)
                      have q41 : (1 : Int) ≤ ((t136.length : Int) : Int) := of_decide_eq_true (by first | (with_reducible assumption) | assumption)
                      obtain ⟨i041, hi041, _, hsz41, _⟩ := info_parts info9
                      have hroom41 : t136.length ≤ co27 := (Kd.R_reads' HO138.out).2.1
                      have hC41 : Kd.C Kd.string _ Ao27 t136.length t136 := (Kd.R_reads' HO138.out).2.2
                      have hcut41 := cut_to (P := Try.prog) 40 9 .i64 Try.underlying40 hi041 Ao27 t136.length co27 1 (by omega) q41 hroom41
                      have hr41 := Kd.C_take (m := 1) hC41 (by omega)
                      have hy41 : y156.length = (1 : Int).toNat := (by rw [Ny156.out, List.length_take]; omega)
                      rw [← Ny156.out] at hr41
                      rw [← hy41] at hcut41
                      have HR159 := Aside0.mk hr41
                      have HC159 := Aside0.mk (show y156.length ≤ co27 from by omega)
                      clear hr41 hC41 hroom41 hi041 hsz41
                      have KY41 := Aside0.mk hy41
                      clear hy41
                      have KL41 := Aside0.mk (show 1 ≤ t136.length from by omega)
                      replace q41 := eq_true q41
                      refine hK.out _ _ ⟨(blk_cell BK140.out 0).trans rfl, (blk_cell BK140.out 1).trans rfl, (blk_cell BK140.out 2).trans rfl⟩ (fun hHeld => ?_)
                      clear hK K
                      refine norm_ (a' := ?_) ?_ ?_
                      rotate_left
                      · show Act.put _ (some 65) _ = _
                        simp only [Act.put, List.setIfInBounds_toArray, List.set_cons_zero, List.set_cons_succ, i64_w, i32_w]
                        rfl
                      refine pure_ (i := 29) (N := some 66) (v := ?_) (a' := ?_) #[true, true, true, true, true, true, true, true, true, true, true, true, true, true, true, true, true, true, true, true, true, true, true, true, true, true, true, true, true, true, false, false, false, false, false, false, false, false, false, false, false, false, false, false, false, false, false, false, false, false, false, false] rfl rfl (any_of HT_.out (by kernel_rfl)) (fun _ _ _ h => h) (Or.inl ⟨by rfl, ?_⟩) ?_ ?_
                      rotate_left
                      · intro w'
                        go_simp
                        with_reducible rfl
                      rotate_left
                      · simp only [Act.put, List.setIfInBounds_toArray, List.set_cons_zero, List.set_cons_succ, i64_w, i32_w]
                        rfl
                      refine pure_ (i := 30) (N := some 67) (v := ?_) (a' := ?_) #[true, true, true, true, true, true, true, true, true, true, true, true, true, true, true, true, true, true, true, true, true, true, true, true, true, true, true, true, true, true, true, false, false, false, false, false, false, false, false, false, false, false, false, false, false, false, false, false, false, false, false, false] rfl rfl (any_of HT_.out (by kernel_rfl)) (fun _ _ _ h => h) (Or.inl ⟨by rfl, ?_⟩) ?_ ?_
                      rotate_left
                      · intro w'
                        go_simp
                        with_reducible rfl
                      rotate_left
                      · simp only [Act.put, List.setIfInBounds_toArray, List.set_cons_zero, List.set_cons_succ, i64_w, i32_w]
                        rfl
                      refine pure_ (i := 31) (N := some 68) (v := ?_) (a' := ?_) #[true, true, true, true, true, true, true, true, true, true, true, true, true, true, true, true, true, true, true, true, true, true, true, true, true, true, true, true, true, true, true, true, false, false, false, false, false, false, false, false, false, false, false, false, false, false, false, false, false, false, false, false] rfl rfl (any_of HT_.out (by kernel_rfl)) (fun _ _ _ h => h) (Or.inl ⟨by rfl, ?_⟩) ?_ ?_
                      rotate_left
                      · intro w'
                        go_simp
                        with_reducible rfl
                      rotate_left
                      · simp only [Act.put, List.setIfInBounds_toArray, List.set_cons_zero, List.set_cons_succ, i64_w, i32_w]
                        rfl
                      refine pure_ (i := 32) (N := some 69) (v := ?_) (a' := ?_) #[true, true, true, true, true, true, true, true, true, true, true, true, true, true, true, true, true, true, true, true, true, true, true, true, true, true, true, true, true, true, true, true, true, false, false, false, false, false, false, false, false, false, false, false, false, false, false, false, false, false, false, false] rfl rfl (any_of HT_.out (by kernel_rfl)) (fun _ _ _ h => h) (Or.inl ⟨by rfl, ?_⟩) ?_ ?_
                      rotate_left
                      · intro w'
                        go_simp
                        with_reducible rfl
                      rotate_left
                      · simp only [Act.put, List.setIfInBounds_toArray, List.set_cons_zero, List.set_cons_succ, i64_w, i32_w]
                        rfl
                      refine pure_ (i := 33) (N := some 70) (v := ?_) (a' := ?_) #[true, true, true, true, true, true, true, true, true, true, true, true, true, true, true, true, true, true, true, true, true, true, true, true, true, true, true, true, true, true, true, true, true, true, false, false, false, false, false, false, false, false, false, false, false, false, false, false, false, false, false, false] rfl rfl (any_of HT_.out (by kernel_rfl)) (fun _ _ _ h => h) (Or.inl ⟨by rfl, ?_⟩) ?_ ?_
                      rotate_left
                      · intro w'
                        go_simp
                        with_reducible rfl
                      rotate_left
                      · simp only [Act.put, List.setIfInBounds_toArray, List.set_cons_zero, List.set_cons_succ, i64_w, i32_w]
                        rfl
                      refine pure_ (i := 34) (N := some 71) (v := ?_) (a' := ?_) #[true, true, true, true, true, true, true, true, true, true, true, true, true, true, true, true, true, true, true, true, true, true, true, true, true, true, true, true, true, true, true, true, true, true, true, false, false, false, false, false, false, false, false, false, false, false, false, false, false, false, false, false] rfl rfl (any_of HT_.out (by kernel_rfl)) (fun _ _ _ h => h) (Or.inl ⟨by rfl, ?_⟩) ?_ ?_
                      rotate_left
                      · intro w'
                        go_simp
                        with_reducible rfl
                      rotate_left
                      · simp only [Act.put, List.setIfInBounds_toArray, List.set_cons_zero, List.set_cons_succ, i64_w, i32_w]
                        rfl
                      refine pure_ (i := 35) (N := some 72) (v := ?_) (a' := ?_) #[true, true, true, true, true, true, true, true, true, true, true, true, true, true, true, true, true, true, true, true, true, true, true, true, true, true, true, true, true, true, true, true, true, true, true, true, false, false, false, false, false, false, false, false, false, false, false, false, false, false, false, false] rfl rfl (any_of HT_.out (by kernel_rfl)) (fun _ _ _ h => h) (Or.inl ⟨by rfl, ?_⟩) ?_ ?_
                      rotate_left
                      · intro w'
                        go_simp
                        with_reducible rfl
                      rotate_left
                      · simp only [Act.put, List.setIfInBounds_toArray, List.set_cons_zero, List.set_cons_succ, i64_w, i32_w]
                        rfl
                      refine pure_ (i := 36) (N := some 73) (v := ?_) (a' := ?_) #[true, true, true, true, true, true, true, true, true, true, true, true, true, true, true, true, true, true, true, true, true, true, true, true, true, true, true, true, true, true, true, true, true, true, true, true, true, false, false, false, false, false, false, false, false, false, false, false, false, false, false, false] rfl rfl (any_of HT_.out (by kernel_rfl)) (fun _ _ _ h => h) (Or.inl ⟨by rfl, ?_⟩) ?_ ?_
                      rotate_left
                      · intro w'
                        go_simp
                        with_reducible rfl
                      rotate_left
                      · simp only [Act.put, List.setIfInBounds_toArray, List.set_cons_zero, List.set_cons_succ, i64_w, i32_w]
                        rfl
                      refine pure_ (i := 37) (N := some 74) (v := ?_) (a' := ?_) #[true, true, true, true, true, true, true, true, true, true, true, true, true, true, true, true, true, true, true, true, true, true, true, true, true, true, true, true, true, true, true, true, true, true, true, true, true, true, false, false, false, false, false, false, false, false, false, false, false, false, false, false] rfl rfl (any_of HT_.out (by kernel_rfl)) (fun _ _ _ h => h) (Or.inl ⟨by rfl, ?_⟩) ?_ ?_
                      rotate_left
                      · intro w'
                        go_simp
                        with_reducible rfl
                      rotate_left
                      · simp only [Act.put, List.setIfInBounds_toArray, List.set_cons_zero, List.set_cons_succ, i64_w, i32_w]
                        rfl
                      refine pure_ (i := 38) (N := some 75) (v := ?_) (a' := ?_) #[true, true, true, true, true, true, true, true, true, true, true, true, true, true, true, true, true, true, true, true, true, true, true, true, true, true, true, true, true, true, true, true, true, true, true, true, true, true, true, false, false, false, false, false, false, false, false, false, false, false, false, false] rfl rfl (any_of HT_.out (by kernel_rfl)) (fun _ _ _ h => h) (Or.inl ⟨by rfl, ?_⟩) ?_ ?_
                      rotate_left
                      · intro w'
                        go_simp
                        with_reducible rfl
                      rotate_left
                      · simp only [Act.put, List.setIfInBounds_toArray, List.set_cons_zero, List.set_cons_succ, i64_w, i32_w]
                        rfl
                      refine pure_ (i := 39) (N := some 76) (v := ?_) (a' := ?_) #[true, true, true, true, true, true, true, true, true, true, true, true, true, true, true, true, true, true, true, true, true, true, true, true, true, true, true, true, true, true, true, true, true, true, true, true, true, true, true, true, false, false, false, false, false, false, false, false, false, false, false, false] rfl rfl (any_of HT_.out (by kernel_rfl)) (fun _ _ _ h => h) (Or.inl ⟨by rfl, ?_⟩) ?_ ?_
                      rotate_left
                      · intro w'
                        go_simp
                        with_reducible rfl
                      rotate_left
                      · simp only [Act.put, List.setIfInBounds_toArray, List.set_cons_zero, List.set_cons_succ, i64_w, i32_w]
                        rfl
                      refine pure_ (i := 40) (N := some 77) (v := ?_) (a' := ?_) #[true, true, true, true, true, true, true, true, true, true, true, true, true, true, true, true, true, true, true, true, true, true, true, true, true, true, true, true, true, true, true, true, true, true, true, true, true, true, true, true, true, false, false, false, false, false, false, false, false, false, false, false] rfl rfl (any_of HT_.out (by kernel_rfl)) (fun _ _ _ h => h) (Or.inl ⟨by rfl, ?_⟩) ?_ ?_
                      rotate_left
                      · intro w'
                        go_simp
                        with_reducible rfl
                      rotate_left
                      · simp only [Act.put, List.setIfInBounds_toArray, List.set_cons_zero, List.set_cons_succ, i64_w, i32_w]
                        rfl
                      refine pure_ (i := 41) (N := some 78) (v := ?_) (a' := ?_) #[true, true, true, true, true, true, true, true, true, true, true, true, true, true, true, true, true, true, true, true, true, true, true, true, true, true, true, true, true, true, true, true, true, true, true, true, true, true, true, true, true, true, false, false, false, false, false, false, false, false, false, false] rfl rfl (any_of HT_.out (by kernel_rfl)) (fun _ _ _ h => h) (Or.inl ⟨by rfl, ?_⟩) ?_ ?_
                      rotate_left
                      · intro w'
                        go_simp
                        with_reducible rfl
                      rotate_left
                      · simp only [Act.put, List.setIfInBounds_toArray, List.set_cons_zero, List.set_cons_succ, i64_w, i32_w]
                        rfl
                      refine pure_ (i := 42) (N := some 79) (v := ?_) (a' := ?_) #[true, true, true, true, true, true, true, true, true, true, true, true, true, true, true, true, true, true, true, true, true, true, true, true, true, true, true, true, true, true, true, true, true, true, true, true, true, true, true, true, true, true, true, false, false, false, false, false, false, false, false, false] rfl rfl (any_of HT_.out (by kernel_rfl)) (fun _ _ _ h => h) (Or.inl ⟨by rfl, ?_⟩) ?_ ?_
                      rotate_left
                      · intro w'
                        go_simp
                        with_reducible rfl
                      rotate_left
                      · simp only [Act.put, List.setIfInBounds_toArray, List.set_cons_zero, List.set_cons_succ, i64_w, i32_w]
                        rfl
                      refine pure_ (i := 43) (N := some 80) (v := ?_) (a' := ?_) #[true, true, true, true, true, true, true, true, true, true, true, true, true, true, true, true, true, true, true, true, true, true, true, true, true, true, true, true, true, true, true, true, true, true, true, true, true, true, true, true, true, true, true, true, false, false, false, false, false, false, false, false] rfl rfl (any_of HT_.out (by kernel_rfl)) (fun _ _ _ h => h) (Or.inl ⟨by rfl, ?_⟩) ?_ ?_
                      rotate_left
                      · intro w'
                        go_simp
                        with_reducible rfl
                      rotate_left
                      · simp only [Act.put, List.setIfInBounds_toArray, List.set_cons_zero, List.set_cons_succ, i64_w, i32_w]
                        rfl
                      refine pure_ (i := 45) (N := some 82) (v := ?_) (a' := ?_) #[true, true, true, true, true, true, true, true, true, true, true, true, true, true, true, true, true, true, true, true, true, true, true, true, true, true, true, true, true, true, true, true, true, true, true, true, true, true, true, true, true, true, true, true, false, true, false, false, false, false, false, false] rfl rfl (any_of HT_.out (by kernel_rfl)) (fun _ _ _ h => h) (Or.inl ⟨by rfl, ?_⟩) ?_ ?_
                      rotate_left
                      · intro w'
                        go_simp
                        with_reducible rfl
                      rotate_left
                      · simp only [Act.put, List.setIfInBounds_toArray, List.set_cons_zero, List.set_cons_succ, i64_w, i32_w]
                        rfl
                      refine pure_ (i := 46) (N := some 83) (v := ?_) (a' := ?_) #[true, true, true, true, true, true, true, true, true, true, true, true, true, true, true, true, true, true, true, true, true, true, true, true, true, true, true, true, true, true, true, true, true, true, true, true, true, true, true, true, true, true, true, true, false, true, true, false, false, false, false, false] rfl rfl (any_of HT_.out (by kernel_rfl)) (fun _ _ _ h => h) (Or.inl ⟨by rfl, ?_⟩) ?_ ?_
                      rotate_left
                      · intro w'
                        go_simp
                        with_reducible rfl
                      rotate_left
                      · simp only [Act.put, List.setIfInBounds_toArray, List.set_cons_zero, List.set_cons_succ, i64_w, i32_w]
                        rfl
                      refine take_ (i := 44) (N := some 81) (v := ?_) (a' := ?_) #[true, true, true, true, true, true, true, true, true, true, true, true, true, true, true, true, true, true, true, true, true, true, true, true, true, true, true, true, true, true, true, true, true, true, true, true, true, true, true, true, true, true, true, true, true, true, true, false, false, false, false, false] rfl rfl (take_ofW HT_.out HW_.out (by kernel_rfl)) (fun _ _ _ h => h) (Or.inl ⟨by rfl, ?_⟩) hHeld ?_ ?_
                      rotate_left
                      · rintro w' ⟨s0, s1, s2⟩
                        go_simp
                        with_reducible rfl
                      rotate_left
                      · simp only [Act.put, List.setIfInBounds_toArray, List.set_cons_zero, List.set_cons_succ, i64_w, i32_w]
                        rfl
                      refine join_ (σ := Value × Value) 3 #[true, true, true, true, true, true, true, true, true, true, true, true, true, true, true, true, true, true, true, true, true, true, true, true, true, true, true, true, true, true, true, true, true, true, true, true, true, true, true, true, true, true, true, true, true, true, true, true, true, false, false, false] (fun s_ => [(84, s_.1), (85, s_.2)]) (fun s_ w' => (w'.cell? ⟨gb140, 0, none⟩ = some (.int .i64 t131) ∧ w'.cell? ⟨gb140, 1, none⟩ = some (.int .i64 t132) ∧ w'.cell? ⟨gb140, 2, none⟩ = some (.slice Ao26 t133.length co26)) ∧ (Kd.R Kd.string 9 w' w.heap.size (fun k_ => some k_ ≠ (.slice Ao36 t127.length co36 : Value).ownBlock ∧ some k_ ≠ (.slice Ao27 t136.length co27 : Value).ownBlock ∧ some k_ ≠ (v145 : Value).ownBlock ∧ some k_ ≠ (.slice Ao35 y148.length co35 : Value).ownBlock) (.slice Ao31 t123.length co31) t123) ∧ (Kd.R Kd.string 9 w' w.heap.size (fun k_ => some k_ ≠ (.slice Ao31 t123.length co31 : Value).ownBlock ∧ some k_ ≠ (.slice Ao27 t136.length co27 : Value).ownBlock ∧ some k_ ≠ (v145 : Value).ownBlock ∧ some k_ ≠ (.slice Ao35 y148.length co35 : Value).ownBlock) (.slice Ao36 t127.length co36) t127) ∧ (Kd.R (Kd.int .i64) 3 w' w.heap.size (fun k_ => some k_ ≠ (.slice Ao39 y152.length co39 : Value).ownBlock ∧ some k_ ≠ (s_.1 : Value).ownBlock ∧ some k_ ≠ (s_.2 : Value).ownBlock) (.slice Ao26 t133.length co26) t133) ∧ (Kd.R Kd.string 9 w' w.heap.size (fun k_ => some k_ ≠ (.slice Ao31 t123.length co31 : Value).ownBlock ∧ some k_ ≠ (.slice Ao36 t127.length co36 : Value).ownBlock ∧ some k_ ≠ (v145 : Value).ownBlock ∧ some k_ ≠ (.slice Ao35 y148.length co35 : Value).ownBlock) (.slice Ao27 t136.length co27) t136) ∧ (Kd.R Kd.string 9 w' w.heap.size (fun k_ => some k_ ≠ (.slice Ao31 t123.length co31 : Value).ownBlock ∧ some k_ ≠ (.slice Ao36 t127.length co36 : Value).ownBlock ∧ some k_ ≠ (.slice Ao27 t136.length co27 : Value).ownBlock ∧ some k_ ≠ (.slice Ao35 y148.length co35 : Value).ownBlock) v145 t143) ∧ (Kd.R Kd.string 9 w' w.heap.size (fun k_ => some k_ ≠ (.slice Ao31 t123.length co31 : Value).ownBlock ∧ some k_ ≠ (.slice Ao36 t127.length co36 : Value).ownBlock ∧ some k_ ≠ (.slice Ao27 t136.length co27 : Value).ownBlock ∧ some k_ ≠ (v145 : Value).ownBlock) (.slice Ao35 y148.length co35) y148) ∧ (Kd.R (Kd.int .i64) 3 w' w.heap.size (fun k_ => some k_ ≠ (.slice Ao26 t133.length co26 : Value).ownBlock ∧ some k_ ≠ (s_.1 : Value).ownBlock ∧ some k_ ≠ (s_.2 : Value).ownBlock) (.slice Ao39 y152.length co39) y152) ∧ (Kd.R (Kd.int .i64) 3 w' w.heap.size (fun k_ => some k_ ≠ (.slice Ao26 t133.length co26 : Value).ownBlock ∧ some k_ ≠ (.slice Ao39 y152.length co39 : Value).ownBlock ∧ some k_ ≠ (s_.2 : Value).ownBlock) s_.1 t160) ∧ (Kd.R (Kd.int .i64) 3 w' w.heap.size (fun k_ => some k_ ≠ (.slice Ao26 t133.length co26 : Value).ownBlock ∧ some k_ ≠ (.slice Ao39 y152.length co39 : Value).ownBlock ∧ some k_ ≠ (s_.1 : Value).ownBlock) s_.2 y163) ∧ (w'.heap[gb140]? = some (.cells #[.int .i64 t131, .int .i64 t132, .slice Ao26 t133.length co26] 24 (0, 0))) ∧ (Below w.heap.size w w')) ?_ ?_
                      rotate_left
                      · intro hCont
                        refine two_ (i := 47) (j := 48) (Ni := some 84) (Nj := some 85) #[true, true, true, true, true, true, true, true, true, true, true, true, true, true, true, true, true, true, true, true, true, true, true, true, true, true, true, true, true, true, true, true, true, true, true, true, true, true, true, true, true, true, true, true, true, true, true, true, false, false, false, false] #[true, true, true, true, true, true, true, true, true, true, true, true, true, true, true, true, true, true, true, true, true, true, true, true, true, true, true, true, true, true, true, true, true, true, true, true, true, true, true, true, true, true, true, true, true, true, true, false, true, false, false, false] rfl rfl rfl rfl (two_of HT_.out (by kernel_rfl)) (by decide) (by decide) (fun K hK => ?_) (fun K hK => ?_)
                        · skip
                          refine goes_ Try.func39 (by kernel_rfl) rfl #[.agg #[.int .i64 t131, .int .i64 t132, .slice Ao26 t133.length co26], .slice Ao27 y156.length co27] (by rfl) rfl rfl (by (try simp only [List.map_toArray, List.map_cons, List.map_nil]); first | done | rfl | (simp only [List.length_drop, List.length_take]; rfl)) ?_
                          with_reducible refine (chain_Have.calls t131 t132 _ _ t133 _ _ y156 t160 _ ?side1 ?side2 ?side3 ?side4 A19.out).mono ?_
                          (case side1 => repeat (first | exact (Kd.R_reads' HO135.out).2.2 | (with_reducible refine Kd.C_alloc ?_ _) | (with_reducible refine Kd.C_drewN ?_ _) | (with_reducible refine Kd.C_drew ?_)))
                          (case side2 => exact (Kd.R_reads' HO135.out).2.1)
                          (case side3 => repeat (first | exact (by repeat (first | (with_reducible exact HR159.out) | (with_reducible refine Kd.C_alloc ?_ _) | (with_reducible refine Kd.C_drewN ?_ _) | (with_reducible refine Kd.C_drew ?_) | exact HR159.out)) | (with_reducible refine Kd.C_alloc ?_ _) | (with_reducible refine Kd.C_drewN ?_ _) | (with_reducible refine Kd.C_drew ?_)))
                          (case side4 => exact HC159.out)
                          rintro e w42 ⟨v161, rfl, ho0, hb⟩
                          refine ⟨_, rfl, ?_⟩
                          have n0_ := Aside0.mk (Kd.R_below (by (with_reducible repeat (first | apply Kd.R_alloc | apply Kd.R_drewN | apply Kd.R_drew)); exact HO126.out) hb)
                          have n1_ := Aside0.mk (Kd.R_below (by (with_reducible repeat (first | apply Kd.R_alloc | apply Kd.R_drewN | apply Kd.R_drew)); exact HO130.out) hb)
                          have n2_ := Aside0.mk (Kd.R_elder' (by (with_reducible repeat (first | apply Kd.R_alloc | apply Kd.R_drewN | apply Kd.R_drew)); exact HO135.out) (Kd.R_base ho0) hb)
                          have n3_ := Aside0.mk (Kd.R_below (by (with_reducible repeat (first | apply Kd.R_alloc | apply Kd.R_drewN | apply Kd.R_drew)); exact HO138.out) hb)
                          have n4_ := Aside0.mk (Kd.R_below (by (with_reducible repeat (first | apply Kd.R_alloc | apply Kd.R_drewN | apply Kd.R_drew)); exact HO146.out) hb)
                          have n5_ := Aside0.mk (Kd.R_below (by (with_reducible repeat (first | apply Kd.R_alloc | apply Kd.R_drewN | apply Kd.R_drew)); exact HO150.out) hb)
                          have n6_ := Aside0.mk (Kd.R_elder' (by (with_reducible repeat (first | apply Kd.R_alloc | apply Kd.R_drewN | apply Kd.R_drew)); exact HO154.out) (Kd.R_base ho0) hb)
                          have n7_ := Aside0.mk (Kd.R_lower (Kd.R_new' (Kd.R_new' ho0 (Kd.R_lt (by (with_reducible repeat (first | apply Kd.R_alloc | apply Kd.R_drewN | apply Kd.R_drew)); exact HO135.out))) (Kd.R_lt (by (with_reducible repeat (first | apply Kd.R_alloc | apply Kd.R_drewN | apply Kd.R_drew)); exact HO154.out))) (below_size (by repeat (first | (with_reducible first | exact HB.out | apply below_alloc | apply pw_below_drewN | apply below_drew1 | refine below_set ?_ GE140.out) | exact HB.out))))
                          have n8_ := Aside0.mk (blk_below (g := gb140) (o := .cells #[.int .i64 t131, .int .i64 t132, .slice Ao26 t133.length co26] 24 (0, 0)) (by (with_reducible repeat (first | refine blk_drewN ?_ _ | refine blk_drew ?_ | refine blk_alloc ?_ _)); exact BK140.out) hb)
                          have n9_ := Aside0.mk (Kd.C_below HR159.out (below_step (by repeat (first | (with_reducible exact Below.refl _ _) | apply below_alloc | apply pw_below_drewN | apply below_drew1)) hb))
                          have n10_ := Aside0.mk (below_step (by repeat (first | (with_reducible first | exact HB.out | apply below_alloc | apply pw_below_drewN | apply below_drew1 | refine below_set ?_ GE140.out) | exact HB.out)) hb)
                          clear HO126
                          clear HO130
                          clear HO135
                          clear HO138
                          clear HO146
                          clear HO150
                          clear HO154
                          clear BK140
                          clear HR159
                          clear HB
                          have HO126 := n0_
                          have HO130 := n1_
                          have HO135 := n2_
                          have HO138 := n3_
                          have HO146 := n4_
                          have HO150 := n5_
                          have HO154 := n6_
                          have HO162 := n7_
                          have BK140 := n8_
                          have HR159 := n9_
                          have HB := n10_
                          clear n0_ n1_ n2_ n3_ n4_ n5_ n6_ n7_ n8_ n9_ n10_
                          (try clear hb)
                          (try clear hb2)
                          (try clear hk)
                          (try clear hi)
                          (try clear ho0)
                          refine hK.out _ _ ⟨(blk_cell BK140.out 0).trans rfl, (blk_cell BK140.out 1).trans rfl, (blk_cell BK140.out 2).trans rfl⟩ (fun hHeld => ?_)
                          clear hK K
                          refine norm_ (a' := ?_) ?_ ?_
                          rotate_left
                          · show Act.put _ (some 84) _ = _
                            simp only [Act.put, List.setIfInBounds_toArray, List.set_cons_zero, List.set_cons_succ, i64_w, i32_w]
                            rfl
                          refine one_ (i := 48) (N := some 85) #[true, true, true, true, true, true, true, true, true, true, true, true, true, true, true, true, true, true, true, true, true, true, true, true, true, true, true, true, true, true, true, true, true, true, true, true, true, true, true, true, true, true, true, true, true, true, true, true, true, false, false, false] rfl rfl (one_of HT_.out (by kernel_rfl)) (by decide) (fun K hK => ?_)
                          refine Kd.R_lit_step (Kd.int .i64) _ 3 ?hg (N := 85) ?hd (xs := ([0, 1] : List Int)) (inner := [.int .i64 0, .int .i64 1]) (ok := fun _ => True) (okp := fun _ => True) ?hr ?hp (fun _ hk => hk) trivial (Below.refl _ _) (Nat.le_refl _) (by simp) ?_; (case hd => rfl); (case hg => rfl); (case hr => first | (go_simp; done) | (go_simp; rfl)); (case hp => exact (Reps.one (show Kd.M (Kd.int .i64) _ _ _ 0 [.int .i64 0] from rfl) (Reps.one (show Kd.M (Kd.int .i64) _ _ _ 1 [.int .i64 1] from rfl) (Reps.none _ _))))
                          intro v164 w43 ho44 hb hg_ hnew_
                          clear hg_ hnew_
                          (first | rw [← Ny163.out] at ho44 | (simp only [Int.reduceToNat] at ho44; rw [← Ny163.out] at ho44))
                          have n0_ := Aside0.mk (Kd.R_below (by (with_reducible repeat (first | apply Kd.R_alloc | apply Kd.R_drewN | apply Kd.R_drew)); exact HO126.out) hb)
                          have n1_ := Aside0.mk (Kd.R_below (by (with_reducible repeat (first | apply Kd.R_alloc | apply Kd.R_drewN | apply Kd.R_drew)); exact HO130.out) hb)
                          have n2_ := Aside0.mk (Kd.R_elder' (by (with_reducible repeat (first | apply Kd.R_alloc | apply Kd.R_drewN | apply Kd.R_drew)); exact HO135.out) (Kd.R_base ho44) hb)
                          have n3_ := Aside0.mk (Kd.R_below (by (with_reducible repeat (first | apply Kd.R_alloc | apply Kd.R_drewN | apply Kd.R_drew)); exact HO138.out) hb)
                          have n4_ := Aside0.mk (Kd.R_below (by (with_reducible repeat (first | apply Kd.R_alloc | apply Kd.R_drewN | apply Kd.R_drew)); exact HO146.out) hb)
                          have n5_ := Aside0.mk (Kd.R_below (by (with_reducible repeat (first | apply Kd.R_alloc | apply Kd.R_drewN | apply Kd.R_drew)); exact HO150.out) hb)
                          have n6_ := Aside0.mk (Kd.R_elder' (by (with_reducible repeat (first | apply Kd.R_alloc | apply Kd.R_drewN | apply Kd.R_drew)); exact HO154.out) (Kd.R_base ho44) hb)
                          have n7_ := Aside0.mk (Kd.R_elder' (by (with_reducible repeat (first | apply Kd.R_alloc | apply Kd.R_drewN | apply Kd.R_drew)); exact HO162.out) (Kd.R_base ho44) hb)
                          have n8_ := Aside0.mk (Kd.R_lower (Kd.R_new' (Kd.R_new' (Kd.R_new' ho44 (Kd.R_lt (by (with_reducible repeat (first | apply Kd.R_alloc | apply Kd.R_drewN | apply Kd.R_drew)); exact HO135.out))) (Kd.R_lt (by (with_reducible repeat (first | apply Kd.R_alloc | apply Kd.R_drewN | apply Kd.R_drew)); exact HO154.out))) (Kd.R_lt (by (with_reducible repeat (first | apply Kd.R_alloc | apply Kd.R_drewN | apply Kd.R_drew)); exact HO162.out))) (below_size (by repeat (first | (with_reducible first | exact HB.out | apply below_alloc | apply pw_below_drewN | apply below_drew1 | refine below_set ?_ GE140.out) | exact HB.out))))
                          have n9_ := Aside0.mk (blk_below (g := gb140) (o := .cells #[.int .i64 t131, .int .i64 t132, .slice Ao26 t133.length co26] 24 (0, 0)) (by (with_reducible repeat (first | refine blk_drewN ?_ _ | refine blk_drew ?_ | refine blk_alloc ?_ _)); exact BK140.out) hb)
                          have n10_ := Aside0.mk (Kd.C_below HR159.out (below_step (by repeat (first | (with_reducible exact Below.refl _ _) | apply below_alloc | apply pw_below_drewN | apply below_drew1)) hb))
                          have n11_ := Aside0.mk (below_step (by repeat (first | (with_reducible first | exact HB.out | apply below_alloc | apply pw_below_drewN | apply below_drew1 | refine below_set ?_ GE140.out) | exact HB.out)) hb)
                          clear HO126
                          clear HO130
                          clear HO135
                          clear HO138
                          clear HO146
                          clear HO150
                          clear HO154
                          clear HO162
                          clear BK140
                          clear HR159
                          clear HB
                          have HO126 := n0_
                          have HO130 := n1_
                          have HO135 := n2_
                          have HO138 := n3_
                          have HO146 := n4_
                          have HO150 := n5_
                          have HO154 := n6_
                          have HO162 := n7_
                          have HO165 := n8_
                          have BK140 := n9_
                          have HR159 := n10_
                          have HB := n11_
                          clear n0_ n1_ n2_ n3_ n4_ n5_ n6_ n7_ n8_ n9_ n10_ n11_
                          clear hb ho44
                          refine hK.out _ _ ⟨(blk_cell BK140.out 0).trans rfl, (blk_cell BK140.out 1).trans rfl, (blk_cell BK140.out 2).trans rfl⟩ (fun hHeld => ?_)
                          clear hK K
                          refine norm_ (a' := ?_) ?_ ?_
                          rotate_left
                          · show Act.put _ (some 85) _ = _
                            simp only [Act.put, List.setIfInBounds_toArray, List.set_cons_zero, List.set_cons_succ, i64_w, i32_w]
                            rfl
                          exact norm_ (by simp only [putAll, Act.put, List.setIfInBounds_toArray, List.set_cons_zero, List.set_cons_succ]) (hCont (v161, v164) _ ⟨hHeld, (by (with_reducible repeat (first | apply Kd.R_alloc | apply Kd.R_drewN | apply Kd.R_drew)); exact Kd.R_mono HO126.out (fun _ hk => ⟨hk.1.1.1.2, ⟨hk.1.1.2, ⟨hk.1.2, hk.2⟩⟩⟩)), (by (with_reducible repeat (first | apply Kd.R_alloc | apply Kd.R_drewN | apply Kd.R_drew)); exact Kd.R_mono HO130.out (fun _ hk => ⟨hk.1.1.1.2, ⟨hk.1.1.2, ⟨hk.1.2, hk.2⟩⟩⟩)), (by (with_reducible repeat (first | apply Kd.R_alloc | apply Kd.R_drewN | apply Kd.R_drew)); exact Kd.R_mono HO135.out (fun _ hk => ⟨hk.1.1.2, ⟨hk.1.2, hk.2⟩⟩)), (by (with_reducible repeat (first | apply Kd.R_alloc | apply Kd.R_drewN | apply Kd.R_drew)); exact Kd.R_mono HO138.out (fun _ hk => ⟨hk.1.1.1.2, ⟨hk.1.1.2, ⟨hk.1.2, hk.2⟩⟩⟩)), (by (with_reducible repeat (first | apply Kd.R_alloc | apply Kd.R_drewN | apply Kd.R_drew)); exact Kd.R_mono HO146.out (fun _ hk => ⟨hk.1.1.1.2, ⟨hk.1.1.2, ⟨hk.1.2, hk.2⟩⟩⟩)), (by (with_reducible repeat (first | apply Kd.R_alloc | apply Kd.R_drewN | apply Kd.R_drew)); exact Kd.R_mono HO150.out (fun _ hk => ⟨hk.1.1.1.2, ⟨hk.1.1.2, ⟨hk.1.2, hk.2⟩⟩⟩)), (by (with_reducible repeat (first | apply Kd.R_alloc | apply Kd.R_drewN | apply Kd.R_drew)); exact Kd.R_mono HO154.out (fun _ hk => ⟨hk.1.1.2, ⟨hk.1.2, hk.2⟩⟩)), (by (with_reducible repeat (first | apply Kd.R_alloc | apply Kd.R_drewN | apply Kd.R_drew)); exact Kd.R_mono HO162.out (fun _ hk => ⟨hk.1.1.2, ⟨hk.1.2, hk.2⟩⟩)), (by (with_reducible repeat (first | apply Kd.R_alloc | apply Kd.R_drewN | apply Kd.R_drew)); exact Kd.R_mono HO165.out (fun _ hk => ⟨hk.1.1.2, ⟨hk.1.2, hk.2⟩⟩)), (by (with_reducible repeat (first | refine blk_drewN ?_ _ | refine blk_drew ?_ | refine blk_alloc ?_ _)); exact BK140.out), (by repeat (first | (with_reducible first | exact HB.out | apply below_alloc | apply pw_below_drewN | apply below_drew1 | refine below_set ?_ GE140.out) | exact HB.out))⟩)
                        · skip
                          refine Kd.R_lit_step (Kd.int .i64) _ 3 ?hg (N := 85) ?hd (xs := ([0, 1] : List Int)) (inner := [.int .i64 0, .int .i64 1]) (ok := fun _ => True) (okp := fun _ => True) ?hr ?hp (fun _ hk => hk) trivial (Below.refl _ _) (Nat.le_refl _) (by simp) ?_; (case hd => rfl); (case hg => rfl); (case hr => first | (go_simp; done) | (go_simp; rfl)); (case hp => exact (Reps.one (show Kd.M (Kd.int .i64) _ _ _ 0 [.int .i64 0] from rfl) (Reps.one (show Kd.M (Kd.int .i64) _ _ _ 1 [.int .i64 1] from rfl) (Reps.none _ _))))
                          intro v164 w42 ho43 hb hg_ hnew_
                          clear hg_ hnew_
                          (first | rw [← Ny163.out] at ho43 | (simp only [Int.reduceToNat] at ho43; rw [← Ny163.out] at ho43))
                          have n0_ := Aside0.mk (Kd.R_below (by (with_reducible repeat (first | apply Kd.R_alloc | apply Kd.R_drewN | apply Kd.R_drew)); exact HO126.out) hb)
                          have n1_ := Aside0.mk (Kd.R_below (by (with_reducible repeat (first | apply Kd.R_alloc | apply Kd.R_drewN | apply Kd.R_drew)); exact HO130.out) hb)
                          have n2_ := Aside0.mk (Kd.R_elder' (by (with_reducible repeat (first | apply Kd.R_alloc | apply Kd.R_drewN | apply Kd.R_drew)); exact HO135.out) (Kd.R_base ho43) hb)
                          have n3_ := Aside0.mk (Kd.R_below (by (with_reducible repeat (first | apply Kd.R_alloc | apply Kd.R_drewN | apply Kd.R_drew)); exact HO138.out) hb)
                          have n4_ := Aside0.mk (Kd.R_below (by (with_reducible repeat (first | apply Kd.R_alloc | apply Kd.R_drewN | apply Kd.R_drew)); exact HO146.out) hb)
                          have n5_ := Aside0.mk (Kd.R_below (by (with_reducible repeat (first | apply Kd.R_alloc | apply Kd.R_drewN | apply Kd.R_drew)); exact HO150.out) hb)
                          have n6_ := Aside0.mk (Kd.R_elder' (by (with_reducible repeat (first | apply Kd.R_alloc | apply Kd.R_drewN | apply Kd.R_drew)); exact HO154.out) (Kd.R_base ho43) hb)
                          have n7_ := Aside0.mk (Kd.R_lower (Kd.R_new' (Kd.R_new' ho43 (Kd.R_lt (by (with_reducible repeat (first | apply Kd.R_alloc | apply Kd.R_drewN | apply Kd.R_drew)); exact HO135.out))) (Kd.R_lt (by (with_reducible repeat (first | apply Kd.R_alloc | apply Kd.R_drewN | apply Kd.R_drew)); exact HO154.out))) (below_size (by repeat (first | (with_reducible first | exact HB.out | apply below_alloc | apply pw_below_drewN | apply below_drew1 | refine below_set ?_ GE140.out) | exact HB.out))))
                          have n8_ := Aside0.mk (blk_below (g := gb140) (o := .cells #[.int .i64 t131, .int .i64 t132, .slice Ao26 t133.length co26] 24 (0, 0)) (by (with_reducible repeat (first | refine blk_drewN ?_ _ | refine blk_drew ?_ | refine blk_alloc ?_ _)); exact BK140.out) hb)
                          have n9_ := Aside0.mk (Kd.C_below HR159.out (below_step (by repeat (first | (with_reducible exact Below.refl _ _) | apply below_alloc | apply pw_below_drewN | apply below_drew1)) hb))
                          have n10_ := Aside0.mk (below_step (by repeat (first | (with_reducible first | exact HB.out | apply below_alloc | apply pw_below_drewN | apply below_drew1 | refine below_set ?_ GE140.out) | exact HB.out)) hb)
                          clear HO126
                          clear HO130
                          clear HO135
                          clear HO138
                          clear HO146
                          clear HO150
                          clear HO154
                          clear BK140
                          clear HR159
                          clear HB
                          have HO126 := n0_
                          have HO130 := n1_
                          have HO135 := n2_
                          have HO138 := n3_
                          have HO146 := n4_
                          have HO150 := n5_
                          have HO154 := n6_
                          have HO165 := n7_
                          have BK140 := n8_
                          have HR159 := n9_
                          have HB := n10_
                          clear n0_ n1_ n2_ n3_ n4_ n5_ n6_ n7_ n8_ n9_ n10_
                          clear hb ho43
                          refine hK.out _ _ ⟨(blk_cell BK140.out 0).trans rfl, (blk_cell BK140.out 1).trans rfl, (blk_cell BK140.out 2).trans rfl⟩ (fun hHeld => ?_)
                          clear hK K
                          refine norm_ (a' := ?_) ?_ ?_
                          rotate_left
                          · show Act.put _ (some 85) _ = _
                            simp only [Act.put, List.setIfInBounds_toArray, List.set_cons_zero, List.set_cons_succ, i64_w, i32_w]
                            rfl
                          refine one_ (i := 47) (N := some 84) #[true, true, true, true, true, true, true, true, true, true, true, true, true, true, true, true, true, true, true, true, true, true, true, true, true, true, true, true, true, true, true, true, true, true, true, true, true, true, true, true, true, true, true, true, true, true, true, true, true, false, false, false] rfl rfl (one_of HT_.out (by kernel_rfl)) (by decide) (fun K hK => ?_)
                          refine goes_ Try.func39 (by kernel_rfl) rfl #[.agg #[.int .i64 t131, .int .i64 t132, .slice Ao26 t133.length co26], .slice Ao27 y156.length co27] (by rfl) rfl rfl (by (try simp only [List.map_toArray, List.map_cons, List.map_nil]); first | done | rfl | (simp only [List.length_drop, List.length_take]; rfl)) ?_
                          with_reducible refine (chain_Have.calls t131 t132 _ _ t133 _ _ y156 t160 _ ?side1 ?side2 ?side3 ?side4 A19.out).mono ?_
                          (case side1 => repeat (first | exact (Kd.R_reads' HO135.out).2.2 | (with_reducible refine Kd.C_alloc ?_ _) | (with_reducible refine Kd.C_drewN ?_ _) | (with_reducible refine Kd.C_drew ?_)))
                          (case side2 => exact (Kd.R_reads' HO135.out).2.1)
                          (case side3 => repeat (first | exact (by repeat (first | (with_reducible exact HR159.out) | (with_reducible refine Kd.C_alloc ?_ _) | (with_reducible refine Kd.C_drewN ?_ _) | (with_reducible refine Kd.C_drew ?_) | exact HR159.out)) | (with_reducible refine Kd.C_alloc ?_ _) | (with_reducible refine Kd.C_drewN ?_ _) | (with_reducible refine Kd.C_drew ?_)))
                          (case side4 => exact HC159.out)
                          rintro e w44 ⟨v161, rfl, ho0, hb⟩
                          refine ⟨_, rfl, ?_⟩
                          have n0_ := Aside0.mk (Kd.R_below (by (with_reducible repeat (first | apply Kd.R_alloc | apply Kd.R_drewN | apply Kd.R_drew)); exact HO126.out) hb)
                          have n1_ := Aside0.mk (Kd.R_below (by (with_reducible repeat (first | apply Kd.R_alloc | apply Kd.R_drewN | apply Kd.R_drew)); exact HO130.out) hb)
                          have n2_ := Aside0.mk (Kd.R_elder' (by (with_reducible repeat (first | apply Kd.R_alloc | apply Kd.R_drewN | apply Kd.R_drew)); exact HO135.out) (Kd.R_base ho0) hb)
                          have n3_ := Aside0.mk (Kd.R_below (by (with_reducible repeat (first | apply Kd.R_alloc | apply Kd.R_drewN | apply Kd.R_drew)); exact HO138.out) hb)
                          have n4_ := Aside0.mk (Kd.R_below (by (with_reducible repeat (first | apply Kd.R_alloc | apply Kd.R_drewN | apply Kd.R_drew)); exact HO146.out) hb)
                          have n5_ := Aside0.mk (Kd.R_below (by (with_reducible repeat (first | apply Kd.R_alloc | apply Kd.R_drewN | apply Kd.R_drew)); exact HO150.out) hb)
                          have n6_ := Aside0.mk (Kd.R_elder' (by (with_reducible repeat (first | apply Kd.R_alloc | apply Kd.R_drewN | apply Kd.R_drew)); exact HO154.out) (Kd.R_base ho0) hb)
                          have n7_ := Aside0.mk (Kd.R_elder' (by (with_reducible repeat (first | apply Kd.R_alloc | apply Kd.R_drewN | apply Kd.R_drew)); exact HO165.out) (Kd.R_base ho0) hb)
                          have n8_ := Aside0.mk (Kd.R_lower (Kd.R_new' (Kd.R_new' (Kd.R_new' ho0 (Kd.R_lt (by (with_reducible repeat (first | apply Kd.R_alloc | apply Kd.R_drewN | apply Kd.R_drew)); exact HO135.out))) (Kd.R_lt (by (with_reducible repeat (first | apply Kd.R_alloc | apply Kd.R_drewN | apply Kd.R_drew)); exact HO154.out))) (Kd.R_lt (by (with_reducible repeat (first | apply Kd.R_alloc | apply Kd.R_drewN | apply Kd.R_drew)); exact HO165.out))) (below_size (by repeat (first | (with_reducible first | exact HB.out | apply below_alloc | apply pw_below_drewN | apply below_drew1 | refine below_set ?_ GE140.out) | exact HB.out))))
                          have n9_ := Aside0.mk (blk_below (g := gb140) (o := .cells #[.int .i64 t131, .int .i64 t132, .slice Ao26 t133.length co26] 24 (0, 0)) (by (with_reducible repeat (first | refine blk_drewN ?_ _ | refine blk_drew ?_ | refine blk_alloc ?_ _)); exact BK140.out) hb)
                          have n10_ := Aside0.mk (Kd.C_below HR159.out (below_step (by repeat (first | (with_reducible exact Below.refl _ _) | apply below_alloc | apply pw_below_drewN | apply below_drew1)) hb))
                          have n11_ := Aside0.mk (below_step (by repeat (first | (with_reducible first | exact HB.out | apply below_alloc | apply pw_below_drewN | apply below_drew1 | refine below_set ?_ GE140.out) | exact HB.out)) hb)
                          clear HO126
                          clear HO130
                          clear HO135
                          clear HO138
                          clear HO146
                          clear HO150
                          clear HO154
                          clear HO165
                          clear BK140
                          clear HR159
                          clear HB
                          have HO126 := n0_
                          have HO130 := n1_
                          have HO135 := n2_
                          have HO138 := n3_
                          have HO146 := n4_
                          have HO150 := n5_
                          have HO154 := n6_
                          have HO165 := n7_
                          have HO162 := n8_
                          have BK140 := n9_
                          have HR159 := n10_
                          have HB := n11_
                          clear n0_ n1_ n2_ n3_ n4_ n5_ n6_ n7_ n8_ n9_ n10_ n11_
                          (try clear hb)
                          (try clear hb2)
                          (try clear hk)
                          (try clear hi)
                          (try clear ho0)
                          refine hK.out _ _ ⟨(blk_cell BK140.out 0).trans rfl, (blk_cell BK140.out 1).trans rfl, (blk_cell BK140.out 2).trans rfl⟩ (fun hHeld => ?_)
                          clear hK K
                          refine norm_ (a' := ?_) ?_ ?_
                          rotate_left
                          · show Act.put _ (some 84) _ = _
                            simp only [Act.put, List.setIfInBounds_toArray, List.set_cons_zero, List.set_cons_succ, i64_w, i32_w]
                            rfl
                          exact norm_ (by simp only [putAll, Act.put, List.setIfInBounds_toArray, List.set_cons_zero, List.set_cons_succ]) (hCont (v161, v164) _ ⟨hHeld, (by (with_reducible repeat (first | apply Kd.R_alloc | apply Kd.R_drewN | apply Kd.R_drew)); exact Kd.R_mono HO126.out (fun _ hk => ⟨hk.1.1.1.2, ⟨hk.1.1.2, ⟨hk.1.2, hk.2⟩⟩⟩)), (by (with_reducible repeat (first | apply Kd.R_alloc | apply Kd.R_drewN | apply Kd.R_drew)); exact Kd.R_mono HO130.out (fun _ hk => ⟨hk.1.1.1.2, ⟨hk.1.1.2, ⟨hk.1.2, hk.2⟩⟩⟩)), (by (with_reducible repeat (first | apply Kd.R_alloc | apply Kd.R_drewN | apply Kd.R_drew)); exact Kd.R_mono HO135.out (fun _ hk => ⟨hk.1.1.2, ⟨hk.2, hk.1.2⟩⟩)), (by (with_reducible repeat (first | apply Kd.R_alloc | apply Kd.R_drewN | apply Kd.R_drew)); exact Kd.R_mono HO138.out (fun _ hk => ⟨hk.1.1.1.2, ⟨hk.1.1.2, ⟨hk.1.2, hk.2⟩⟩⟩)), (by (with_reducible repeat (first | apply Kd.R_alloc | apply Kd.R_drewN | apply Kd.R_drew)); exact Kd.R_mono HO146.out (fun _ hk => ⟨hk.1.1.1.2, ⟨hk.1.1.2, ⟨hk.1.2, hk.2⟩⟩⟩)), (by (with_reducible repeat (first | apply Kd.R_alloc | apply Kd.R_drewN | apply Kd.R_drew)); exact Kd.R_mono HO150.out (fun _ hk => ⟨hk.1.1.1.2, ⟨hk.1.1.2, ⟨hk.1.2, hk.2⟩⟩⟩)), (by (with_reducible repeat (first | apply Kd.R_alloc | apply Kd.R_drewN | apply Kd.R_drew)); exact Kd.R_mono HO154.out (fun _ hk => ⟨hk.1.1.2, ⟨hk.2, hk.1.2⟩⟩)), (by (with_reducible repeat (first | apply Kd.R_alloc | apply Kd.R_drewN | apply Kd.R_drew)); exact Kd.R_mono HO162.out (fun _ hk => ⟨hk.1.1.2, ⟨hk.1.2, hk.2⟩⟩)), (by (with_reducible repeat (first | apply Kd.R_alloc | apply Kd.R_drewN | apply Kd.R_drew)); exact Kd.R_mono HO165.out (fun _ hk => ⟨hk.1.1.2, ⟨hk.1.2, hk.2⟩⟩)), (by (with_reducible repeat (first | refine blk_drewN ?_ _ | refine blk_drew ?_ | refine blk_alloc ?_ _)); exact BK140.out), (by repeat (first | (with_reducible first | exact HB.out | apply below_alloc | apply pw_below_drewN | apply below_drew1 | refine below_set ?_ GE140.out) | exact HB.out))⟩)
                      rintro ⟨v161, v164⟩ w45 ⟨hS_, h0_, h1_, h2_, h3_, h4_, h5_, h6_, h7_, h8_, h9_, h10_⟩
                      have n0_ : Aside0 (Kd.R Kd.string 9 w45 w.heap.size (fun k_ => some k_ ≠ (.slice Ao36 t127.length co36 : Value).ownBlock ∧ some k_ ≠ (.slice Ao27 t136.length co27 : Value).ownBlock ∧ some k_ ≠ (v145 : Value).ownBlock ∧ some k_ ≠ (.slice Ao35 y148.length co35 : Value).ownBlock) (.slice Ao31 t123.length co31) t123) := ⟨h0_⟩
                      have n1_ : Aside0 (Kd.R Kd.string 9 w45 w.heap.size (fun k_ => some k_ ≠ (.slice Ao31 t123.length co31 : Value).ownBlock ∧ some k_ ≠ (.slice Ao27 t136.length co27 : Value).ownBlock ∧ some k_ ≠ (v145 : Value).ownBlock ∧ some k_ ≠ (.slice Ao35 y148.length co35 : Value).ownBlock) (.slice Ao36 t127.length co36) t127) := ⟨h1_⟩
                      have n2_ : Aside0 (Kd.R (Kd.int .i64) 3 w45 w.heap.size (fun k_ => some k_ ≠ (.slice Ao39 y152.length co39 : Value).ownBlock ∧ some k_ ≠ (v161 : Value).ownBlock ∧ some k_ ≠ (v164 : Value).ownBlock) (.slice Ao26 t133.length co26) t133) := ⟨h2_⟩
                      have n3_ : Aside0 (Kd.R Kd.string 9 w45 w.heap.size (fun k_ => some k_ ≠ (.slice Ao31 t123.length co31 : Value).ownBlock ∧ some k_ ≠ (.slice Ao36 t127.length co36 : Value).ownBlock ∧ some k_ ≠ (v145 : Value).ownBlock ∧ some k_ ≠ (.slice Ao35 y148.length co35 : Value).ownBlock) (.slice Ao27 t136.length co27) t136) := ⟨h3_⟩
                      have n4_ : Aside0 (Kd.R Kd.string 9 w45 w.heap.size (fun k_ => some k_ ≠ (.slice Ao31 t123.length co31 : Value).ownBlock ∧ some k_ ≠ (.slice Ao36 t127.length co36 : Value).ownBlock ∧ some k_ ≠ (.slice Ao27 t136.length co27 : Value).ownBlock ∧ some k_ ≠ (.slice Ao35 y148.length co35 : Value).ownBlock) v145 t143) := ⟨h4_⟩
                      have n5_ : Aside0 (Kd.R Kd.string 9 w45 w.heap.size (fun k_ => some k_ ≠ (.slice Ao31 t123.length co31 : Value).ownBlock ∧ some k_ ≠ (.slice Ao36 t127.length co36 : Value).ownBlock ∧ some k_ ≠ (.slice Ao27 t136.length co27 : Value).ownBlock ∧ some k_ ≠ (v145 : Value).ownBlock) (.slice Ao35 y148.length co35) y148) := ⟨h5_⟩
                      have n6_ : Aside0 (Kd.R (Kd.int .i64) 3 w45 w.heap.size (fun k_ => some k_ ≠ (.slice Ao26 t133.length co26 : Value).ownBlock ∧ some k_ ≠ (v161 : Value).ownBlock ∧ some k_ ≠ (v164 : Value).ownBlock) (.slice Ao39 y152.length co39) y152) := ⟨h6_⟩
                      have n7_ : Aside0 (Kd.R (Kd.int .i64) 3 w45 w.heap.size (fun k_ => some k_ ≠ (.slice Ao26 t133.length co26 : Value).ownBlock ∧ some k_ ≠ (.slice Ao39 y152.length co39 : Value).ownBlock ∧ some k_ ≠ (v164 : Value).ownBlock) v161 t160) := ⟨h7_⟩
                      have n8_ : Aside0 (Kd.R (Kd.int .i64) 3 w45 w.heap.size (fun k_ => some k_ ≠ (.slice Ao26 t133.length co26 : Value).ownBlock ∧ some k_ ≠ (.slice Ao39 y152.length co39 : Value).ownBlock ∧ some k_ ≠ (v161 : Value).ownBlock) v164 y163) := ⟨h8_⟩
                      have n9_ : Aside0 (w45.heap[gb140]? = some (.cells #[.int .i64 t131, .int .i64 t132, .slice Ao26 t133.length co26] 24 (0, 0))) := ⟨h9_⟩
                      have n10_ : Aside0 (Below w.heap.size w w45) := ⟨h10_⟩
                      clear HO126
                      clear HO130
                      clear HO135
                      clear HO138
                      clear HO146
                      clear BK140
                      clear HB
                      clear h0_ h1_ h2_ h3_ h4_ h5_ h6_ h7_ h8_ h9_ h10_
                      have HO126 := n0_
                      have HO130 := n1_
                      have HO135 := n2_
                      have HO138 := n3_
                      have HO146 := n4_
                      have HO150 := n5_
                      have HO154 := n6_
                      have HO162 := n7_
                      have HO165 := n8_
                      have BK140 := n9_
                      have HB := n10_
                      clear n0_ n1_ n2_ n3_ n4_ n5_ n6_ n7_ n8_ n9_ n10_
                      have hHeld : w45.cell? ⟨gb140, 0, none⟩ = some (.int .i64 t131) ∧ w45.cell? ⟨gb140, 1, none⟩ = some (.int .i64 t132) ∧ w45.cell? ⟨gb140, 2, none⟩ = some (.slice Ao26 t133.length co26) := hS_
                      obtain ⟨Ao46, co46, eo46⟩ := Kd.R_slice HO162.out
                      (first | subst eo46 | (injection eo46 with f1_ f2_ f3_; have f4_ := f1_.symm; have f5_ := f3_.symm; clear f1_ f2_ f3_; subst f4_; subst f5_))
                      obtain ⟨Ao47, co47, eo47⟩ := Kd.R_slice HO165.out
                      (first | subst eo47 | (injection eo47 with f1_ f2_ f3_; have f4_ := f1_.symm; have f5_ := f3_.symm; clear f1_ f2_ f3_; subst f4_; subst f5_))
                      refine norm_ (a' := ?_) ?_ ?_
                      rotate_left
                      · simp only [putAll, Act.put, List.setIfInBounds_toArray, List.set_cons_zero, List.set_cons_succ]
                        rfl
                      refine one_ (i := 49) (N := some 86) #[true, true, true, true, true, true, true, true, true, true, true, true, true, true, true, true, true, true, true, true, true, true, true, true, true, true, true, true, true, true, true, true, true, true, true, true, true, true, true, true, true, true, true, true, true, true, true, true, true, true, false, false] rfl rfl (one_of HT_.out (by kernel_rfl)) (by decide) (fun K hK => ?_)
                      refine goes_ Try.func36 (by kernel_rfl) rfl #[.slice Ao46 t160.length co46, .slice Ao47 y163.length co47] (by rfl) rfl rfl (by (try simp only [List.map_toArray, List.map_cons, List.map_nil]); first | done | rfl | (simp only [List.length_drop, List.length_take]; rfl)) ?_
                      with_reducible refine (sextonref01_Ints.calls k _ _ t160 _ _ y163 t166 _ ?side1 ?side2 ?side3 ?side4 A20.out).mono ?_
                      (case side1 => repeat (first | exact (Kd.R_reads' HO162.out).2.2 | (with_reducible refine Kd.C_alloc ?_ _) | (with_reducible refine Kd.C_drewN ?_ _) | (with_reducible refine Kd.C_drew ?_)))
                      (case side2 => exact (Kd.R_reads' HO162.out).2.1)
                      (case side3 => repeat (first | exact (Kd.R_reads' HO165.out).2.2 | (with_reducible refine Kd.C_alloc ?_ _) | (with_reducible refine Kd.C_drewN ?_ _) | (with_reducible refine Kd.C_drew ?_)))
                      (case side4 => exact (Kd.R_reads' HO165.out).2.1)
                      rintro e w' ⟨rfl, ⟨nd, rfl⟩⟩
                      refine ⟨_, rfl, ?_⟩
                      refine hK.out _ _ ⟨(blk_cell BK140.out 0).trans rfl, (blk_cell BK140.out 1).trans rfl, (blk_cell BK140.out 2).trans rfl⟩ (fun hHeld => ?_)
                      clear hK K
                      refine norm_ (a' := ?_) ?_ ?_
                      rotate_left
                      · show Act.put _ (some 86) _ = _
                        simp only [Act.put, List.setIfInBounds_toArray, List.set_cons_zero, List.set_cons_succ, i64_w, i32_w]
                        rfl
                      refine pure_ (i := 50) (N := some 87) (v := ?_) (a' := ?_) #[true, true, true, true, true, true, true, true, true, true, true, true, true, true, true, true, true, true, true, true, true, true, true, true, true, true, true, true, true, true, true, true, true, true, true, true, true, true, true, true, true, true, true, true, true, true, true, true, true, true, true, false] rfl rfl (any_of HT_.out (by kernel_rfl)) (fun _ _ _ h => h) (Or.inl ⟨by rfl, ?_⟩) ?_ ?_
                      rotate_left
                      · intro w'
                        go_simp
                        with_reducible rfl
                      rotate_left
                      · simp only [Act.put, List.setIfInBounds_toArray, List.set_cons_zero, List.set_cons_succ, i64_w, i32_w]
                        rfl
                      refine pure_ (i := 51) (N := some 0) (v := ?_) (a' := ?_) #[true, true, true, true, true, true, true, true, true, true, true, true, true, true, true, true, true, true, true, true, true, true, true, true, true, true, true, true, true, true, true, true, true, true, true, true, true, true, true, true, true, true, true, true, true, true, true, true, true, true, true, true] rfl rfl (any_of HT_.out (by kernel_rfl)) (fun _ _ _ h => h) (Or.inl ⟨by rfl, ?_⟩) ?_ ?_
                      rotate_left
                      · intro w'
                        go_simp
                        with_reducible rfl
                      rotate_left
                      · simp only [Act.put, List.setIfInBounds_toArray, List.set_cons_zero, List.set_cons_succ, i64_w, i32_w]
                        rfl
                      refine done_ (done_of HT_.out (by kernel_rfl)) ?_
                      try go_wp2
                      go_ret
                      exact ⟨by first | rfl | (simp [errW_none, errW_some] <;> rfl) | (simp [*, errW_none, errW_some] <;> rfl), by repeat (first | (with_reducible first | exact HB.out | apply below_alloc | apply pw_below_drewN | apply below_drew1 | refine below_set ?_ GE140.out) | exact HB.out)⟩
                    · rw [if_neg c18] at H
                      exact absurd H (by simp)
                  · rw [if_neg c17] at H
                    exact absurd (H.trans (congrArg some HRT.out)) (by decide)
                · rw [if_neg c16] at H
                  exact absurd (H.trans (congrArg some HRT.out)) (by decide)
              · rw [if_neg c15] at H
                exact absurd (H.trans (congrArg some HRT.out)) (by decide)
            · replace c14 := Bool.eq_false_iff.mpr c14
              subst c14
              have H1 : (some false) = some r := by rw [if_neg (show ¬ (false = true) by decide)] at H; exact H
              exact absurd (H1.trans (congrArg some HRT.out)) (by decide)
          · rw [if_neg c12] at H
            exact absurd (H.trans (congrArg some HRT.out)) (by decide)
        · rw [if_neg c11] at H
          exact absurd (H.trans (congrArg some HRT.out)) (by decide)
      · rw [if_neg c10] at H
        exact absurd (H.trans (congrArg some HRT.out)) (by decide)
    · replace c9 := Bool.eq_false_iff.mpr c9
      subst c9
      have H1 : (some false) = some r := by rw [if_neg (show ¬ (false = true) by decide)] at H; exact H
      exact absurd (H1.trans (congrArg some HRT.out)) (by decide)
  · rw [if_neg c7] at H
    exact absurd (H.trans (congrArg some HRT.out)) (by decide)

/-- THE ONE PURE STATEMENT of sextonlaw13_cutP: yours. -/

theorem sextonlaw13_cutP_true : sextonlaw13_cutP.f 40 = some true := by decide +kernel
/-- What it answers. -/
def sextonlaw13_cut.f : Option Bool := some true
theorem sextonlaw13_cut.calls (r : Bool) (w : World) (h : sextonlaw13_cut.f = some r) :
    Calls Try.prog 35 #[] w fun e w' => e = .returned (.bool r) ∧ Below w.heap.size w w' := by
  obtain rfl := Option.some.inj h
  exact sextonlaw13_cutP.calls 40 true (w := w) (h := sextonlaw13_cutP_true)
end Go.Proofs.Ytfdpebipnapelaa.P
/-
  Chunks, told plainly: what is cut is, put together, what it was.
-/
namespace Go.Proofs.Ytfdpebipnapelaa.P
open Go.RowKit Go.Proofs Go.Proofs.CodecPlain Go.Proofs.YtfdpebipnapelaaW.PrintWords Go.Proofs.YtfdpebipnapelaaW.PrintLast

theorem cutV_length (s : ByteArray) (n : Nat) : (cutV s n).length = chunks s.size n := by simp [cutV]
theorem cutV_get (s : ByteArray) (n k : Nat) (h : k < chunks s.size n) : (cutV s n)[k]? = some (cutS s n k) := by
  unfold cutV
  rw [List.getElem?_map, List.getElem?_range h]; rfl
theorem cutV_rd (s : ByteArray) (n k : Nat) (h : k < chunks s.size n) : rdOf ByteArray.empty (cutV s n) (k : Int) = cutS s n k := by
  simp [rdOf, List.getD_eq_getElem?_getD, cutV_get s n k h]
theorem cutS_list (s : ByteArray) (n k : Nat) : (cutS s n k).data.toList = (s.data.toList.drop (k * n)).take (min n (s.size - k * n)) := by
  unfold cutS
  rw [ByteArray.data_extract, Array.toList_extract, List.extract_eq_take_drop]
  rw [show min (k * n + n) s.size - k * n = min n (s.size - k * n) by omega]
theorem cutS_size (s : ByteArray) (n k : Nat) : (cutS s n k).size = min n (s.size - k * n) := by
  have h : (cutS s n k).data.toList.length = (cutS s n k).size := by rw [Array.length_toList]; rfl
  rw [← h, cutS_list, List.length_take, List.length_drop, Array.length_toList]
  have : s.data.size = s.size := rfl
  omega
theorem chunks_last {L n k : Nat} (hn : 1 ≤ n) (h : k + 1 < chunks L n) : k * n + n ≤ L := by
  have := chunk_lt h
  rw [Nat.succ_mul] at this
  omega
theorem chunks_end {L n : Nat} (hn : 1 ≤ n) : L ≤ chunks L n * n := by
  unfold chunks
  have h := Nat.div_add_mod (L + n - 1) n
  have h2 := Nat.mod_lt (L + n - 1) hn
  rw [Nat.mul_comm] at h
  omega
theorem cat_take (s : ByteArray) (n : Nat) (k : Nat) (h : k ≤ chunks s.size n) : (catStr ((cutV s n).take k)).data.toList = s.data.toList.take (k * n) := by
  induction k with
  | zero => simp [catStr]
  | succ k ih =>
    have hk : k < chunks s.size n := by omega
    have hlt := chunk_lt hk
    have ht : (cutV s n).take (k + 1) = (cutV s n).take k ++ [cutS s n k] := by
      rw [List.take_add_one, cutV_get s n k hk]; rfl
    rw [ht, catStr_append]
    have hsn : catStr [cutS s n k] = cutS s n k := by
      apply ByteArray.ext
      simp [catStr, ByteArray.data_append]
    rw [hsn, ByteArray.data_append, Array.toList_append, ih (by omega), cutS_list, Nat.succ_mul, List.take_add]
    congr 1
    by_cases hc : n ≤ s.size - k * n
    · rw [Nat.min_eq_left hc]
    · rw [Nat.min_eq_right (by omega), List.take_of_length_le, List.take_of_length_le]
      · rw [List.length_drop, Array.length_toList]; have : s.data.size = s.size := rfl; omega
      · rw [List.length_drop, Array.length_toList]; have : s.data.size = s.size := rfl; omega
theorem cat_cut (s : ByteArray) (n : Nat) (hn : 1 ≤ n) : catStr (cutV s n) = s := by
  have h := cat_take s n (chunks s.size n) (Nat.le_refl _)
  rw [← cutV_length, List.take_length, cutV_length] at h
  apply ByteArray.ext
  apply Array.toList_inj.1
  rw [h, List.take_of_length_le]
  rw [Array.length_toList]
  exact chunks_end hn

/-- What chain.Cut answers, in two cases. -/
theorem cut_cases (s : ByteArray) (n : Int) : (∃ e, e ≠ 0 ∧ chain_Cut.f s n = some ([], e) ∧ (n < 1 ∨ 4000 < n ∨ n * 16 < (s.size : Int))) ∨ (∃ m : Nat, n = m ∧ 1 ≤ m ∧ m ≤ 4000 ∧ s.size ≤ 16 * m ∧ chain_Cut.f s n = some (cutV s m, 0)) := by
  unfold chain_Cut.f
  by_cases c1 : n < 1 ∨ 4000 < n
  · rw [if_pos c1]
    exact .inl ⟨1, by decide, rfl, by omega⟩
  · rw [if_neg c1]
    by_cases c2 : n * 16 < (s.size : Int)
    · rw [if_pos c2]
      exact .inl ⟨2, by decide, rfl, by omega⟩
    · rw [if_neg c2]
      exact .inr ⟨n.toNat, by omega, by omega, by omega, by omega, rfl⟩
theorem mem_cut {s : ByteArray} {n : Nat} {x : ByteArray} (h : x ∈ cutV s n) : x.size ≤ n := by
  unfold cutV at h
  obtain ⟨k, _, rfl⟩ := List.mem_map.1 h
  rw [cutS_size]
  omega
theorem sums_f {l : List ByteArray} (h1 : l.length ≤ 1000000000) (h2 : ∀ s ∈ l, s.size ≤ 1000000000) : chain_Sums.f l = some (l.map sumV) := by
  unfold chain_Sums.f
  rw [if_pos h1, if_pos (List.all_eq_true.2 (fun s h => decide_eq_true (h2 s h)))]
theorem describe_cases (s : ByteArray) (n mode : Int) : (∃ e, e ≠ 0 ∧ ∀ k, 17 ≤ k → chain_Describe.f k s n mode = some (0, 0, [], [], e)) ∨
    (∃ m : Nat, n = m ∧ 1 ≤ m ∧ m ≤ 4000 ∧ s.size ≤ 16 * m ∧ metaB (s.size : Int) mode ((cutV s m).map sumV) = true ∧ ∀ k, 17 ≤ k → chain_Describe.f k s n mode = some ((s.size : Int), mode, (cutV s m).map sumV, cutV s m, 0)) := by
  rcases cut_cases s n with ⟨e, he, hc, _⟩ | ⟨m, rfl, h1, h2, h3, hc⟩
  · refine .inl ⟨e, he, fun k _ => ?_⟩
    unfold chain_Describe.f
    rw [hc, Option.bind_some, if_neg he]
  · have hl := chunks_le h3
    have hsm := sums_f (l := cutV s m) (by rw [cutV_length]; omega) (fun x hx => by have := mem_cut hx; omega)
    have hmi := fun k (hk : 17 ≤ k) => meta_is_f k (s.size : Int) mode ((cutV s m).map sumV) (by rw [List.length_map, cutV_length]; omega) (by rw [List.length_map, cutV_length]; omega)
    by_cases hb : metaB (s.size : Int) mode ((cutV s m).map sumV) = true
    · refine .inr ⟨m, rfl, h1, h2, h3, hb, fun k hk => ?_⟩
      unfold chain_Describe.f
      rw [hc, Option.bind_some, if_pos rfl, hsm, Option.bind_some, hmi k hk, Option.bind_some, if_pos hb]
    · refine .inl ⟨1, by decide, fun k hk => ?_⟩
      unfold chain_Describe.f
      rw [hc, Option.bind_some, if_pos rfl, hsm, Option.bind_some, hmi k hk, Option.bind_some, if_neg hb]
end Go.Proofs.Ytfdpebipnapelaa.P
/-
  Which chunks are there, told plainly.
-/
namespace Go.Proofs.Ytfdpebipnapelaa.P
open Go.RowKit Go.Proofs Go.Proofs.CodecPlain Go.Proofs.YtfdpebipnapelaaW.PrintWords Go.Proofs.YtfdpebipnapelaaW.PrintLast

theorem findT_none {l : List ByteArray} {n : Int} (h : ∀ s ∈ l, sumV s ≠ n) : findT l n = none := by
  unfold findT
  rw [List.find?_eq_none]
  intro s hs
  have := h s hs
  simpa using this
theorem findT_some {l : List ByteArray} {n : Int} {s : ByteArray} (h : findT l n = some s) : s ∈ l ∧ sumV s = n := by
  unfold findT at h
  exact ⟨List.mem_of_find?_eq_some h, by simpa using List.find?_some h⟩
theorem findT_mem {l : List ByteArray} {s : ByteArray} (h : s ∈ l) : ∃ t, findT l (sumV s) = some t ∧ t ∈ l ∧ sumV t = sumV s := by
  cases e : findT l (sumV s) with
  | some t => exact ⟨t, rfl, findT_some e⟩
  | none =>
    unfold findT at e
    rw [List.find?_eq_none] at e
    have := e s h
    simp at this
theorem inI_sum (s : ByteArray) : inI (sumV s) = true := by
  have h := sumV_wf s
  simp only [Lit.wf, Bool.and_eq_true, decide_eq_true_eq] at h
  unfold inI
  rw [decide_eq_true (show -9223372036854775808 ≤ sumV s from h.1), decide_eq_true (show sumV s ≤ 9223372036854775807 from h.2)]
  rfl
theorem inI_sums (l : List ByteArray) : (l.map sumV).all inI = true := by
  rw [List.all_eq_true]
  intro n hn
  obtain ⟨s, _, rfl⟩ := List.mem_map.1 hn
  exact inI_sum s
theorem have_f {m : List Int} {l : List ByteArray} (a b : Int) (h1 : l.length ≤ 1000000000) (h2 : ∀ s ∈ l, s.size ≤ 1000000000) (h3 : m.length ≤ 1000000000) (h4 : m.all inI = true) : chain_Have.f a b m l = some (haveK l m m.length) := by
  unfold chain_Have.f
  rw [if_pos]
  rw [decide_eq_true h1, decide_eq_true h3, h4, List.all_eq_true.2 (fun s h => decide_eq_true (h2 s h))]
  rfl
theorem whole_f {m : List Int} {l : List ByteArray} (a b : Int) (h1 : l.length ≤ 1000000000) (h2 : ∀ s ∈ l, s.size ≤ 1000000000) (h3 : m.length ≤ 1000000000) : chain_Whole.f a b m l = some (wholeV a b m l) := by
  unfold chain_Whole.f
  rw [if_pos]
  rw [decide_eq_true h1, decide_eq_true h3, List.all_eq_true.2 (fun s h => decide_eq_true (h2 s h))]
  rfl
theorem haveK_all {l : List ByteArray} {m : List Int} (h : ∀ n ∈ m, (findT l n).isSome = true) : (haveK l m m.length).length = m.length := by
  unfold haveK
  rw [List.length_map, List.filter_eq_self.2]
  · exact List.length_range
  · intro i hi
    have hi' := List.mem_range.1 hi
    have : m.getD i 0 = m[i] := by simp [List.getD_eq_getElem?_getD, hi']
    show (findT l (m.getD i 0)).isSome = true
    rw [this]
    exact h _ (List.getElem_mem hi')
theorem haveK_less {l : List ByteArray} {m : List Int} {i : Nat} (hi : i < m.length) (h : findT l m[i] = none) : (haveK l m m.length).length < m.length := by
  unfold haveK
  rw [List.length_map]
  have h0 : (List.range m.length).length = m.length := List.length_range
  have h1 : ((List.range m.length).filter (fun i : Nat => (findT l (m.getD i 0)).isSome)).length < (List.range m.length).length := by
    rw [List.length_filter_lt_length_iff_exists]
    refine ⟨i, List.mem_range.2 hi, ?_⟩
    have : m.getD i 0 = m[i] := by simp [List.getD_eq_getElem?_getD, hi]
    rw [this, h]
    simp
  omega
theorem crcSum_f {s : ByteArray} (h : s.size ≤ 1000000000) : crc_Sum.f s = some (sumV s) := by
  unfold crc_Sum.f
  rw [if_pos h]
end Go.Proofs.Ytfdpebipnapelaa.P
/-
  The sum's plain mathematics: the reference's sum is the program's.
-/
namespace Go.Proofs.Ytfdpebipnapelaa.P
open Go.RowKit Go.Proofs.CodecPlain Go.Proofs.YtfdpebipnapelaaW.PrintWords Go.Proofs.YtfdpebipnapelaaW.PrintLast

theorem bt_list (s : ByteArray) (i : Nat) (h : i < s.data.toList.length) : bt s (i : Int) = (s.data.toList[i].toNat : Int) := by
  have h' : i < s.size := by rw [len_list] at h; exact h
  unfold bt
  rw [dif_pos (by simpa using h')]
  rfl

def In32 (x : Int) : Prop := 0 ≤ x ∧ x < 4294967296

theorem xor_rng {x y : Int} (hx : In32 x) (hy : In32 y) : In32 (bits BinOp.xor IntKind.i64 x y) := by
  obtain ⟨a, rfl⟩ : ∃ a : Nat, x = a := ⟨x.toNat, by have := hx.1; omega⟩
  obtain ⟨b, rfl⟩ : ∃ b : Nat, y = b := ⟨y.toNat, by have := hy.1; omega⟩
  have ha : a < 2 ^ 32 := by have := hx.2; omega
  have hb : b < 2 ^ 32 := by have := hy.2; omega
  have hn : (BitVec.ofInt 64 (a : Int) ^^^ BitVec.ofInt 64 (b : Int)).toNat < 2 ^ 32 := by
    rw [BitVec.toNat_xor]
    refine Nat.xor_lt_two_pow ?_ ?_
    · simp [BitVec.toNat_ofInt]; omega
    · simp [BitVec.toNat_ofInt]; omega
  show In32 (IntKind.wrap .i64 (((BitVec.ofInt 64 (a : Int) ^^^ BitVec.ofInt 64 (b : Int)).toNat : Nat) : Int))
  generalize (BitVec.ofInt 64 (a : Int) ^^^ BitVec.ofInt 64 (b : Int)).toNat = n at *
  have : IntKind.wrap .i64 (n : Int) = n := by
    simp [IntKind.wrap, IntKind.signed, IntKind.bits]
    omega
  unfold In32
  omega

theorem crc1_rng {c : Int} (h : In32 c) : In32 (crc1 c) := by
  have h2 : In32 (c / 2) := by unfold In32 at *; omega
  unfold crc1
  split
  · exact xor_rng h2 ⟨by omega, by omega⟩
  · exact h2

theorem crcN_rng {c : Int} (h : In32 c) : ∀ n, In32 (crcN n c)
  | 0 => h
  | n + 1 => crc1_rng (crcN_rng h n)

theorem stepV_rng {c b : Int} (h : In32 c) : In32 (stepV c b) := by
  unfold stepV
  have := and255 (bits BinOp.xor IntKind.i64 c b)
  refine xor_rng ?_ ?_
  · unfold In32 at *; omega
  · refine crcN_rng ?_ 8
    unfold stepI In32
    omega

theorem sumC_rng : ∀ (l : List UInt8) {c : Int}, In32 c → In32 (sumC l c)
  | [], c, h => h
  | b :: l, c, h => sumC_rng l (stepV_rng h)

theorem sumV_rng (s : ByteArray) : In32 (sumV s) := xor_rng (sumC_rng _ ⟨by omega, by omega⟩) ⟨by omega, by omega⟩

def gN (x : Nat) : Nat := (x / 2) ^^^ (if x % 2 = 1 then 3988292384 else 0)

def gI : Nat → Nat → Nat
  | 0, x => x
  | n + 1, x => gN (gI n x)

theorem bit0 (x : Nat) : x.testBit 0 = decide (x % 2 = 1) := by rw [Nat.testBit_eq_decide_div_mod_eq]; simp

theorem gN_lin (x y : Nat) : gN (x ^^^ y) = gN x ^^^ gN y := by
  unfold gN
  have hb : ((x ^^^ y) % 2 = 1) = ((x % 2 = 1) ≠ (y % 2 = 1)) := by
    have h := Nat.testBit_xor x y 0
    rw [bit0, bit0, bit0] at h
    have h2 : decide ((x ^^^ y) % 2 = 1) = true ↔ ((decide (x % 2 = 1)) ^^ (decide (y % 2 = 1))) = true := by rw [h]
    by_cases hx : x % 2 = 1 <;> by_cases hy : y % 2 = 1 <;> simp [hx, hy] at h2 ⊢ <;> omega
  rw [Nat.xor_div_two]
  generalize 3988292384 = P
  have e : (if (x ^^^ y) % 2 = 1 then P else 0) = (if x % 2 = 1 then P else 0) ^^^ (if y % 2 = 1 then P else 0) := by
    by_cases hx : x % 2 = 1 <;> by_cases hy : y % 2 = 1 <;> simp [hb, hx, hy]
  rw [e]
  generalize (if x % 2 = 1 then P else 0) = A
  generalize (if y % 2 = 1 then P else 0) = B
  generalize x / 2 = u
  generalize y / 2 = v
  apply Nat.eq_of_testBit_eq
  intro i
  simp only [Nat.testBit_xor]
  cases u.testBit i <;> cases v.testBit i <;> cases A.testBit i <;> cases B.testBit i <;> rfl

theorem gI_lin (x y : Nat) : ∀ n, gI n (x ^^^ y) = gI n x ^^^ gI n y
  | 0 => rfl
  | n + 1 => by simp only [gI]; rw [gI_lin x y n, gN_lin]

theorem gI_front (x : Nat) : ∀ n, gI (n + 1) x = gI n (gN x)
  | 0 => rfl
  | n + 1 => by show gN (gI (n + 1) x) = _; rw [gI_front x n]; rfl

theorem gI_even (h : Nat) : ∀ n, gI n (h * 2 ^ n) = h
  | 0 => by simp [gI]
  | n + 1 => by
    rw [gI_front]
    have : gN (h * 2 ^ (n + 1)) = h * 2 ^ n := by
      unfold gN
      have e : h * 2 ^ (n + 1) = 2 * (h * 2 ^ n) := by rw [Nat.pow_succ, ← Nat.mul_assoc, Nat.mul_comm]
      rw [e, if_neg (by omega), Nat.xor_zero]
      omega
    rw [this, gI_even h n]

theorem parts (x : Nat) : x = (x / 256 * 2 ^ 8) ^^^ (x % 256) := by
  apply Nat.eq_of_testBit_eq
  intro i
  rw [Nat.testBit_xor, Nat.testBit_mul_two_pow, show (256 : Nat) = 2 ^ 8 from rfl, Nat.testBit_mod_two_pow, Nat.testBit_div_two_pow]
  by_cases h : i < 8
  · have : ¬ 8 ≤ i := by omega
    simp [h, this]
  · have h8 : 8 ≤ i := by omega
    have : i - 8 + 8 = i := by omega
    simp [h, h8, this]

theorem gI_parts (x : Nat) : gI 8 x = (x / 256) ^^^ gI 8 (x % 256) := by
  have := gI_lin (x / 256 * 2 ^ 8) (x % 256) 8
  rw [← parts x, gI_even] at this
  exact this

theorem gN_lt {x : Nat} (h : x < 2 ^ 32) : gN x < 2 ^ 32 := by
  unfold gN
  refine Nat.xor_lt_two_pow (by omega) ?_
  split <;> omega

theorem gI_lt {x : Nat} (h : x < 2 ^ 32) : ∀ n, gI n x < 2 ^ 32
  | 0 => h
  | n + 1 => gN_lt (gI_lt h n)

theorem xor_step (a b i : Nat) : (a ^^^ b) % 2 ^ (i + 1) = (a ^^^ b) % 2 ^ i + (if a / 2 ^ i % 2 = b / 2 ^ i % 2 then 0 else 2 ^ i) := by
  have hm : ∀ x : Nat, x % 2 ^ (i + 1) = x % 2 ^ i + 2 ^ i * (x / 2 ^ i % 2) := fun x => by
    rw [Nat.pow_succ, Nat.mod_mul]
  rw [hm, Nat.xor_div_two_pow]
  have h := Nat.testBit_xor (a / 2 ^ i) (b / 2 ^ i) 0
  rw [bit0, bit0, bit0] at h
  generalize a / 2 ^ i = u at *
  generalize b / 2 ^ i = v at *
  generalize u ^^^ v = w at *
  rcases Nat.mod_two_eq_zero_or_one u with hu | hu <;> rcases Nat.mod_two_eq_zero_or_one v with hv | hv <;> rcases Nat.mod_two_eq_zero_or_one w with hw | hw <;> simp_all

theorem ofn (a : Nat) (h : a < 4294967296) : (BitVec.ofInt 64 (a : Int)).toNat = a := by
  simp [BitVec.toNat_ofInt]; omega

theorem wrapn (n : Nat) (h : n < 4294967296) : IntKind.wrap .i64 (n : Int) = n := by
  simp [IntKind.wrap, IntKind.signed, IntKind.bits]; omega

theorem xor_nat (a b : Nat) (ha : a < 4294967296) (hb : b < 4294967296) : bits BinOp.xor IntKind.i64 (a : Int) (b : Int) = ((a ^^^ b : Nat) : Int) := by
  show IntKind.wrap .i64 (((BitVec.ofInt 64 (a : Int) ^^^ BitVec.ofInt 64 (b : Int)).toNat : Nat) : Int) = _
  rw [BitVec.toNat_xor, ofn a ha, ofn b hb, wrapn _ (Nat.xor_lt_two_pow (n := 32) ha hb)]

theorem and_nat (a m : Nat) (j : Nat) (hm : m = 2 ^ j - 1) (ha : a < 4294967296) (hb : m < 4294967296) : bits BinOp.and IntKind.i64 (a : Int) (m : Int) = ((a % 2 ^ j : Nat) : Int) := by
  show IntKind.wrap .i64 (((BitVec.ofInt 64 (a : Int) &&& BitVec.ofInt 64 (m : Int)).toNat : Nat) : Int) = _
  rw [BitVec.toNat_and, ofn a ha, ofn m hb, hm, Nat.and_two_pow_sub_one_eq_mod, wrapn]
  have := Nat.mod_le a (2 ^ j)
  omega

theorem crc1_nat (x : Nat) (h : x < 4294967296) : crc1 (x : Int) = ((gN x : Nat) : Int) := by
  unfold crc1 gN
  rw [show (1 : Int) = ((1 : Nat) : Int) from rfl, and_nat x 1 1 rfl h (by decide)]
  by_cases hx : x % 2 = 1
  · rw [if_pos (by simp [hx]), if_pos hx, show (x : Int) / 2 = ((x / 2 : Nat) : Int) by omega, show (3988292384 : Int) = ((3988292384 : Nat) : Int) from rfl, xor_nat _ _ (by omega) (by decide)]
  · rw [if_neg (by simp; omega), if_neg hx, Nat.xor_zero]
    omega

theorem crcN_nat (x : Nat) (h : x < 4294967296) : ∀ n, crcN n (x : Int) = ((gI n x : Nat) : Int)
  | 0 => rfl
  | n + 1 => by
    show crc1 (crcN n (x : Int)) = _
    rw [crcN_nat x h n, crc1_nat _ (gI_lt h n)]
    rfl

theorem stepV_nat (c b : Nat) (hc : c < 4294967296) (hb : b < 256) : stepV (c : Int) (b : Int) = ((gI 8 (c ^^^ b) : Nat) : Int) := by
  have hx : c ^^^ b < 4294967296 := Nat.xor_lt_two_pow (n := 32) hc (by omega)
  unfold stepV stepI
  rw [xor_nat c b hc (by omega), show (255 : Int) = ((255 : Nat) : Int) from rfl, and_nat _ 255 8 rfl hx (by decide), Int.toNat_natCast]
  unfold crcT
  rw [crcN_nat _ (by omega), show (c : Int) / 256 = ((c / 256 : Nat) : Int) by omega, xor_nat _ _ (by omega) (gI_lt (by omega) 8), gI_parts (c ^^^ b)]
  have : (c ^^^ b) / 256 = c / 256 := by
    rw [show (256 : Nat) = 2 ^ 8 from rfl, Nat.xor_div_two_pow, Nat.div_eq_of_lt (a := b) (by omega), Nat.xor_zero]
  rw [this]

theorem unlike_l0 (a b : Nat) (ha : a < 4294967296) (hb : b < 4294967296) (d : Nat) : ∀ i : Nat, i + d = 32 →
    Ev (fun r => sextonref03_Unlike.l0 r (a : Int) (b : Int) (((a ^^^ b) % 2 ^ i : Nat) : Int) ((2 ^ i : Nat) : Int) (i : Int)) ((a ^^^ b : Nat) : Int) := by
  have hx : a ^^^ b < 4294967296 := Nat.xor_lt_two_pow (n := 32) ha hb
  induction d with
  | zero =>
    intro i hi
    obtain rfl : i = 32 := by omega
    refine Ev.step (f := fun _ => some ((a ^^^ b : Nat) : Int)) (fun r => ?_) (Ev.now _)
    simp only [sextonref03_Unlike.l0]
    rw [if_neg (by decide), Nat.mod_eq_of_lt hx]
  | succ d ih =>
    intro i hi
    have hp : 2 ^ i ≤ 4294967296 := Nat.pow_le_pow_right (n := 2) (by decide) (show i ≤ 32 by omega)
    have hp0 : 0 < 2 ^ i := Nat.two_pow_pos i
    have hs := xor_step a b i
    have hlt := Nat.mod_lt (a ^^^ b) hp0
    have ht : ∀ x : Nat, x < 4294967296 → Int.tmod (wrap64 (Int.tdiv (x : Int) ((2 ^ i : Nat) : Int))) 2 = ((x / 2 ^ i % 2 : Nat) : Int) := fun x hx => by
      have hd : x / 2 ^ i ≤ x := Nat.div_le_self _ _
      rw [Int.tdiv_eq_ediv_of_nonneg (by omega), ← Int.natCast_ediv]
      generalize x / 2 ^ i = y at *
      rw [wrap_id (by omega) (by omega), Int.tmod_eq_emod_of_nonneg (by omega)]
      rfl
    have h2 : 2 ^ (i + 1) = 2 * 2 ^ i := by rw [Nat.pow_succ]; omega
    have hn := ih (i + 1) (by omega)
    refine Ev.step (f := fun r => sextonref03_Unlike.l0 r (a : Int) (b : Int) (((a ^^^ b) % 2 ^ (i + 1) : Nat) : Int) ((2 ^ (i + 1) : Nat) : Int) ((i + 1 : Nat) : Int)) (fun r => ?_) hn
    simp only [sextonref03_Unlike.l0]
    rw [if_pos (by omega), if_neg (by omega), ht a ha, ht b hb, hs, h2]
    generalize 2 ^ i = q at *
    generalize (a ^^^ b) % q = z at *
    rw [wrap_id (x := 2 * (q : Int)) (by omega) (by omega), wrap_id (x := (i : Int) + 1) (by omega) (by omega), show (2 : Int) * (q : Int) = ((2 * q : Nat) : Int) by omega, show (i : Int) + 1 = ((i + 1 : Nat) : Int) by omega]
    by_cases h : a / q % 2 = b / q % 2
    · rw [if_pos (by rw [h]), if_pos h]; rfl
    · rw [if_neg (by omega), if_neg h, wrap_id (x := (z : Int) + (q : Int)) (by omega) (by omega), show (z : Int) + (q : Int) = ((z + q : Nat) : Int) by omega]

theorem unlike_ev (a b : Nat) (ha : a < 4294967296) (hb : b < 4294967296) : Ev (fun k => sextonref03_Unlike.f k (a : Int) (b : Int)) ((a ^^^ b : Nat) : Int) := by
  have := unlike_l0 a b ha hb 32 0 (by omega)
  simpa [sextonref03_Unlike.f, Nat.mod_one] using this

theorem step_l0 (x : Nat) (hx : x < 4294967296) (d : Nat) : ∀ i : Nat, i + d = 8 → Ev (fun r => sextonref03_Step.l0 r ((gI i x : Nat) : Int) (i : Int)) (((gI 8 x : Nat) : Int), true) := by
  induction d with
  | zero =>
    intro i hi
    obtain rfl : i = 8 := by omega
    exact Ev.step (f := fun _ => some (((gI 8 x : Nat) : Int), true)) (fun r => by simp only [sextonref03_Step.l0]; rw [if_neg (by decide)]) (Ev.now _)
  | succ d ih =>
    intro i hi
    have hlt := gI_lt hx i
    have hn := ih (i + 1) (by omega)
    have he : gI (i + 1) x = gN (gI i x) := rfl
    rw [he] at hn
    generalize gI i x = c at *
    have ht : Int.tmod (c : Int) 2 = ((c % 2 : Nat) : Int) := by rw [Int.tmod_eq_emod_of_nonneg (by omega)]; rfl
    have hd : wrap64 (Int.tdiv (c : Int) 2) = ((c / 2 : Nat) : Int) := by rw [Int.tdiv_eq_ediv_of_nonneg (by omega), wrap_id (by omega) (by omega)]; rfl
    have hw : wrap64 ((i : Int) + 1) = ((i + 1 : Nat) : Int) := by rw [wrap_id (by omega) (by omega)]; rfl
    unfold gN at hn
    by_cases hc : c % 2 = 1
    · rw [if_pos hc] at hn
      refine Ev.step (f := fun r => (sextonref03_Unlike.f r ((c / 2 : Nat) : Int) ((3988292384 : Nat) : Int)).bind fun t191 => (sextonref03_Step.l0 r t191 ((i + 1 : Nat) : Int))) (fun r => ?_) ?_
      · simp only [sextonref03_Step.l0]
        rw [if_pos (by omega), ht, if_pos (by omega), hd, hw]
        rfl
      · exact Ev.bind (unlike_ev (c / 2) 3988292384 (by omega) (by decide)) hn
    · rw [if_neg hc, Nat.xor_zero] at hn
      refine Ev.step (f := fun r => sextonref03_Step.l0 r ((c / 2 : Nat) : Int) ((i + 1 : Nat) : Int)) (fun r => ?_) hn
      simp only [sextonref03_Step.l0]
      rw [if_pos (by omega), ht, if_neg (by omega), hd, hw]

theorem step_ev (c : Int) (b : Nat) (hb : b < 256) : Ev (fun k => sextonref03_Step.f k c (b : Int)) (if 0 ≤ c ∧ c ≤ 4294967295 then (stepV c (b : Int), true) else (0, false)) := by
  have no : Ev (fun k => sextonref03_Step.j0 k c (b : Int) true) (0, false) := Ev.step (f := fun _ => some (0, false)) (fun k => by simp only [sextonref03_Step.j0]; rw [if_pos trivial]) (Ev.now _)
  by_cases h0 : c < 0
  · rw [if_neg (by omega)]
    exact Ev.congr (fun k => by unfold sextonref03_Step.f; rw [if_pos h0]) no
  · by_cases h1 : c > 4294967295
    · rw [if_neg (by omega)]
      exact Ev.congr (f := fun k => sextonref03_Step.j0 k c (b : Int) true) (fun k => by unfold sextonref03_Step.f; rw [if_neg h0, decide_eq_true h1]) no
    · rw [if_pos (by omega)]
      obtain ⟨n, rfl⟩ : ∃ n : Nat, c = n := ⟨c.toNat, by omega⟩
      rw [stepV_nat n b (by omega) hb]
      refine Ev.congr (f := fun k => sextonref03_Step.j0 k (n : Int) (b : Int) false) (fun k => by unfold sextonref03_Step.f; rw [if_neg h0, decide_eq_false h1]) ?_
      refine Ev.step (f := fun k => (sextonref03_Unlike.f k (n : Int) (b : Int)).bind fun t190 => (sextonref03_Step.l0 k t190 0)) (fun k => by simp only [sextonref03_Step.j0]; rw [if_neg (by decide), wrap_id (by omega) (by omega)]) ?_
      exact Ev.bind (unlike_ev n b (by omega) (by omega)) (step_l0 (n ^^^ b) (Nat.xor_lt_two_pow (n := 32) (by omega) (by omega)) 8 0 (by omega))

theorem sum_l0 (s : ByteArray) (hs : s.size ≤ 1000000000) (d : Nat) : ∀ k : Nat, k + d = s.size → Ev (fun r => sextonref03_Sum.l0 r s (sumC (s.data.toList.take k) 4294967295) (k : Int)) (sumV s) := by
  induction d with
  | zero =>
    intro k hk
    obtain rfl : k = s.size := by omega
    have hw : sumC (s.data.toList.take s.size) 4294967295 = sumC s.data.toList 4294967295 := by rw [List.take_of_length_le (by simp)]
    have hr := sumC_rng s.data.toList (c := 4294967295) ⟨by omega, by omega⟩
    rw [hw]
    unfold sumV
    obtain ⟨n, hn⟩ : ∃ n : Nat, sumC s.data.toList 4294967295 = n := ⟨(sumC s.data.toList 4294967295).toNat, by have := hr.1; omega⟩
    rw [hn] at hr ⊢
    have hlt := hr.2
    have hx := xor_nat n 4294967295 (by omega) (by decide)
    have hx' : bits BinOp.xor IntKind.i64 (n : Int) 4294967295 = ((n ^^^ 4294967295 : Nat) : Int) := hx
    rw [hx']
    refine Ev.step (f := fun r => (sextonref03_Unlike.f r (n : Int) ((4294967295 : Nat) : Int)).bind fun t194 => (some t194)) (fun r => by simp only [sextonref03_Sum.l0]; rw [if_neg (by omega)]; rfl) ?_
    exact Ev.bind (unlike_ev n 4294967295 (by omega) (by decide)) (Ev.now _)
  | succ d ih =>
    intro k hk
    have hlt : k < s.size := by omega
    have hl : k < s.data.toList.length := by rw [len_list]; exact hlt
    have hr := sumC_rng (s.data.toList.take k) (c := 4294967295) ⟨by omega, by omega⟩
    have hst := step_ev (sumC (s.data.toList.take k) 4294967295) (s.data.toList[k].toNat) (s.data.toList[k].toNat_lt)
    rw [if_pos ⟨hr.1, by have := hr.2; omega⟩] at hst
    have hn := ih (k + 1) (by omega)
    rw [List.take_succ_eq_append_getElem hl, sumC_snoc] at hn
    refine Ev.step (f := fun r => (sextonref03_Step.f r (sumC (s.data.toList.take k) 4294967295) (s.data.toList[k].toNat : Int)).bind fun bt192 => (sextonref03_Sum.l0 r s bt192.1 ((k + 1 : Nat) : Int))) (fun r => ?_) (Ev.bind hst hn)
    simp only [sextonref03_Sum.l0]
    rw [if_pos (by omega), if_pos (by omega), bt_list s k hl, wrap_id (by omega) (by omega)]
    rfl

theorem sum_ev (s : ByteArray) (hs : s.size ≤ 1000000000) : Ev (fun k => sextonref03_Sum.f k s) (sumV s) := sum_l0 s hs s.size 0 (by omega)
end Go.Proofs.Ytfdpebipnapelaa.P
/-
  sextonref12.Is, told plainly.
-/
namespace Go.Proofs.Ytfdpebipnapelaa.P
open Go.RowKit Go.Proofs.CodecPlain Go.Proofs.YtfdpebipnapelaaW.PrintWords Go.Proofs.YtfdpebipnapelaaW.PrintLast

/-- What is told where some have been read is told of the end. -/
theorem refMetaIs_l0 (a b : Int) (l : List Int) (hl : l.length ≤ 9223372036854775807) (d : Nat) : ∀ i : Nat, i + d = l.length → Ev (fun k => sextonref12_Is.l0 k (i : Int) a b l) ((l.drop i).all (fun n => inM n 4294967295)) := by
  induction d with
  | zero =>
    intro i hi
    rw [List.drop_of_length_le (by omega)]
    exact Ev.step (f := fun _ => some true) (fun k => by simp only [sextonref12_Is.l0]; rw [if_neg (by omega)]) (Ev.now _)
  | succ d ih =>
    intro i hi
    have hlt : i < l.length := by omega
    have hr : rd l (i : Int) = l[i] := by simp [rd, List.getD_eq_getElem?_getD, hlt]
    have hw : wrap64 ((i : Int) + 1) = ((i + 1 : Nat) : Int) := by unfold wrap64; omega
    rw [show l.drop i = l[i] :: l.drop (i + 1) from List.drop_eq_getElem_cons hlt, List.all_cons]
    by_cases h0 : l[i] < 0
    · have e : inM l[i] 4294967295 = false := by unfold inM; rw [decide_eq_false (by omega)]; rfl
      rw [e]
      exact Ev.step (f := fun _ => some false) (fun k => by simp only [sextonref12_Is.l0]; rw [if_pos (by omega), if_pos (by omega), hr, if_pos h0]) (Ev.now _)
    · by_cases h1 : l[i] > 4294967295
      · have e : inM l[i] 4294967295 = false := by unfold inM; rw [decide_eq_false (show ¬ l[i] ≤ 4294967295 by omega), Bool.and_false]
        rw [e]
        exact Ev.step (f := fun _ => some false) (fun k => by simp only [sextonref12_Is.l0]; rw [if_pos (by omega), if_pos (by omega), hr, if_neg h0, if_pos h1]) (Ev.now _)
      · have e : inM l[i] 4294967295 = true := by unfold inM; rw [decide_eq_true (by omega), decide_eq_true (by omega)]; rfl
        rw [e, Bool.true_and]
        exact Ev.step (f := fun k => sextonref12_Is.l0 k ((i + 1 : Nat) : Int) a b l) (fun k => by simp only [sextonref12_Is.l0]; rw [if_pos (by omega), if_pos (by omega), hr, if_neg h0, if_neg h1, hw]) (ih (i + 1) (by omega))

theorem refMetaIs (a b : Int) (l : List Int) (hl : l.length ≤ 9223372036854775807) : Ev (fun k => sextonref12_Is.f k a b l) (metaB a b l) := by
  have hl0 := refMetaIs_l0 a b l hl l.length 0 (by omega)
  have hj : ∀ t : Bool, Ev (fun k => sextonref12_Is.j0 k t a b l) (!t && l.all (fun n => inM n 4294967295)) := by
    intro t
    cases t
    · refine Ev.step (f := fun k => sextonref12_Is.l0 k 0 a b l) (fun k => by simp [sextonref12_Is.j0]) ?_
      simpa using hl0
    · exact Ev.step (f := fun _ => some false) (fun k => by simp [sextonref12_Is.j0]) (Ev.now _)
  have hm : metaB a b l = (!(decide (a < 0) || decide (a > 1000000000) || decide (b < 0) || decide (b > 4095) || decide ((l.length : Int) > 16)) && l.all (fun n => inM n 4294967295)) := by
    unfold metaB inM
    rw [Bool.and_comm]
    congr 1
    by_cases h0 : a < 0 <;> by_cases h1 : a > 1000000000 <;> by_cases h2 : b < 0 <;> by_cases h3 : b > 4095 <;> by_cases h4 : (l.length : Int) > 16 <;> simp [h0, h1, h2, h3, h4] <;> omega
  rw [hm]
  by_cases h0 : a < 0
  · exact Ev.congr (f := fun k => sextonref12_Is.j0 k true a b l) (fun k => by unfold sextonref12_Is.f; rw [if_pos h0]) (by simpa [h0] using hj true)
  by_cases h1 : a > 1000000000
  · exact Ev.congr (f := fun k => sextonref12_Is.j0 k true a b l) (fun k => by unfold sextonref12_Is.f; rw [if_neg h0, if_pos h1]) (by simpa [h0, h1] using hj true)
  by_cases h2 : b < 0
  · exact Ev.congr (f := fun k => sextonref12_Is.j0 k true a b l) (fun k => by unfold sextonref12_Is.f; rw [if_neg h0, if_neg h1, if_pos h2]) (by simpa [h0, h1, h2] using hj true)
  by_cases h3 : b > 4095
  · exact Ev.congr (f := fun k => sextonref12_Is.j0 k true a b l) (fun k => by unfold sextonref12_Is.f; rw [if_neg h0, if_neg h1, if_neg h2, if_pos h3]) (by simpa [h0, h1, h2, h3] using hj true)
  exact Ev.congr (f := fun k => sextonref12_Is.j0 k (decide ((l.length : Int) > 16)) a b l) (fun k => by unfold sextonref12_Is.f; rw [if_neg h0, if_neg h1, if_neg h2, if_neg h3]) (by simpa [h0, h1, h2, h3] using hj (decide ((l.length : Int) > 16)))
end Go.Proofs.Ytfdpebipnapelaa.P
/-
  The references of chapter 13, told plainly.
-/
namespace Go.Proofs.Ytfdpebipnapelaa.P
open Go.RowKit Go.Proofs Go.Proofs.CodecPlain Go.Proofs.YtfdpebipnapelaaW.PrintWords Go.Proofs.YtfdpebipnapelaaW.PrintLast Go.Proofs.YtfdpebipnapelaaW.PrintMore

theorem sums_l0 (l : List ByteArray) (hl : l.length ≤ 1000000000) (hs : ∀ s ∈ l, s.size ≤ 1000000000) (d : Nat) : ∀ i, i + d = l.length → Ev (fun k => sextonref13_Sums.l0 k l ((l.map sumV).take i) (i : Int)) (l.map sumV) := by
  have hm : (l.map sumV).length = l.length := List.length_map _
  induction d with
  | zero =>
    intro i hi
    refine Ev.step (f := fun _ => some _) (fun r => ?_) (Ev.now _)
    simp only [sextonref13_Sums.l0]
    rw [if_neg (by omega), List.take_of_length_le (by omega)]
  | succ d ih =>
    intro i hi
    have hlt : i < l.length := by omega
    have hrd := sums_rd l i hlt
    have hw : wrap64 ((i : Int) + 1) = ((i + 1 : Nat) : Int) := wrap_id (by omega) (by omega)
    have hsm := sum_ev l[i] (hs _ (List.getElem_mem hlt))
    have hnx := sums_next l i hlt
    have hlen : ((l.map sumV).take i).length = i := by rw [List.length_take]; omega
    have hih := ih (i + 1) (by omega)
    rw [hnx] at hih
    refine Ev.step (f := fun r => (sextonref03_Sum.f r l[i]).bind fun t308 => sextonref13_Sums.l0 r l ((l.map sumV).take i ++ [t308]) ((i + 1 : Nat) : Int)) (fun r => ?_) (Ev.bind hsm hih)
    simp only [sextonref13_Sums.l0]
    rw [if_pos (by omega), if_pos (by omega), hrd, hw]
    simp only [hlen, show i < 17592186044416 from by omega, if_true]
theorem refSums (l : List ByteArray) (hl : l.length ≤ 1000000000) (hs : ∀ s ∈ l, s.size ≤ 1000000000) : Ev (fun k => sextonref13_Sums.f k l) (l.map sumV) := sums_l0 l hl hs l.length 0 (by omega)
def findP (l : List ByteArray) (n : Int) : ByteArray × Bool := match findT l n with | some s => (s, true) | none => (⟨#[]⟩, false)
theorem find_l0 (l : List ByteArray) (n : Int) (hl : l.length ≤ 1000000000) (hs : ∀ s ∈ l, s.size ≤ 1000000000) (d : Nat) : ∀ i, i + d = l.length → Ev (fun k => sextonref13_find.l0 k l n (i : Int)) (findP (l.drop i) n) := by
  induction d with
  | zero =>
    intro i hi
    refine Ev.step (f := fun _ => some _) (fun r => ?_) (Ev.now _)
    simp only [sextonref13_find.l0]
    rw [if_neg (by omega), List.drop_of_length_le (by omega)]
    rfl
  | succ d ih =>
    intro i hi
    have hlt : i < l.length := by omega
    have hrd := sums_rd l i hlt
    have hw : wrap64 ((i : Int) + 1) = ((i + 1 : Nat) : Int) := wrap_id (by omega) (by omega)
    have hsm := sum_ev l[i] (hs _ (List.getElem_mem hlt))
    have hih := ih (i + 1) (by omega)
    have hdr : l.drop i = l[i] :: l.drop (i + 1) := List.drop_eq_getElem_cons hlt
    refine Ev.step (f := fun r => (sextonref03_Sum.f r l[i]).bind fun t323 => (if t323 = n then (some (l[i], true)) else (sextonref13_find.l0 r l n ((i + 1 : Nat) : Int)))) (fun r => ?_) (Ev.bind hsm ?_)
    · simp only [sextonref13_find.l0]
      rw [if_pos (by omega), if_pos (by omega), hrd, hw]
    · by_cases e : sumV l[i] = n
      · have : findP (l.drop i) n = (l[i], true) := by
          unfold findP findT
          rw [hdr, List.find?_cons_of_pos (by simpa using e)]
        rw [this]
        exact ⟨0, fun k _ => by simp only; rw [if_pos e]⟩
      · have : findP (l.drop i) n = findP (l.drop (i + 1)) n := by
          unfold findP findT
          rw [hdr, List.find?_cons_of_neg (by simpa using e)]
        rw [this]
        obtain ⟨K, hK⟩ := hih
        exact ⟨K, fun k hk => by simp only; rw [if_neg e]; exact hK k hk⟩
theorem refFind (l : List ByteArray) (n : Int) (hl : l.length ≤ 1000000000) (hs : ∀ s ∈ l, s.size ≤ 1000000000) : Ev (fun k => sextonref13_find.f k l n) (findP l n) := by
  have := find_l0 l n hl hs l.length 0 (by omega)
  rwa [List.drop_zero] at this
theorem rd_get (m : List Int) (i : Nat) (h : i < m.length) : rd m (i : Int) = m[i] := by simp [rd, h]
theorem refHave_l0 (a b : Int) (m : List Int) (l : List ByteArray) (hm : m.length ≤ 1000000000) (hl : l.length ≤ 1000000000) (hs : ∀ s ∈ l, s.size ≤ 1000000000) (d : Nat) : ∀ i, i + d = m.length → Ev (fun k => sextonref13_Have.l0 k l (haveK l m i) (i : Int) a b m) (haveK l m m.length) := by
  induction d with
  | zero =>
    intro i hi
    obtain rfl : i = m.length := by omega
    refine Ev.step (f := fun _ => some _) (fun r => ?_) (Ev.now _)
    simp only [sextonref13_Have.l0]
    rw [if_neg (by omega)]
  | succ d ih =>
    intro i hi
    have hlt : i < m.length := by omega
    have hrd := rd_get m i hlt
    have hw : wrap64 ((i : Int) + 1) = ((i + 1 : Nat) : Int) := wrap_id (by omega) (by omega)
    have hih := ih (i + 1) (by omega)
    have hlen := haveK_length l m i
    have hgd : m.getD i 0 = m[i] := by simp [List.getD_eq_getElem?_getD, hlt]
    rw [haveK_succ, hgd] at hih
    refine Ev.step (f := fun r => (sextonref13_find.f r l m[i]).bind fun bt334 => (if bt334.2 = true then (sextonref13_Have.l0 r l (haveK l m i ++ [(i : Int)]) ((i + 1 : Nat) : Int) a b m) else (sextonref13_Have.l0 r l (haveK l m i) ((i + 1 : Nat) : Int) a b m))) (fun r => ?_) (Ev.bind (refFind l m[i] hl hs) ?_)
    · simp only [sextonref13_Have.l0]
      rw [if_pos (by omega), if_pos (by omega), hrd, hw]
      simp only [show (haveK l m i).length < 17592186044416 from by omega, if_true]
    · unfold findP
      cases e : findT l m[i] with
      | some s =>
        rw [e] at hih
        simpa using hih
      | none =>
        rw [e] at hih
        simpa using hih
theorem refHave (a b : Int) (m : List Int) (l : List ByteArray) (hm : m.length ≤ 1000000000) (hl : l.length ≤ 1000000000) (hs : ∀ s ∈ l, s.size ≤ 1000000000) : Ev (fun k => sextonref13_Have.f k a b m l) (haveK l m m.length) := refHave_l0 a b m l hm hl hs m.length 0 (by omega)
theorem whole_size (l : List ByteArray) (m : List Int) (hs : ∀ s ∈ l, s.size ≤ 1000000000) : (wholeT l m).size ≤ m.length * 1000000000 := by
  have := cat_le (l := m.map (textT l)) (fun x hx => by
    obtain ⟨n, _, rfl⟩ := List.mem_map.1 hx
    exact textT_mem hs)
  rwa [List.length_map] at this
theorem wholeT_succ (l : List ByteArray) (m : List Int) (k : Nat) (h : k < m.length) : wholeT l (m.take (k + 1)) = wholeT l (m.take k) ++ textT l m[k] := by
  apply ByteArray.ext
  apply Array.toList_inj.1
  rw [← wholeT_next l m k h]
  simp
theorem refWhole_l0 (a b : Int) (m : List Int) (l : List ByteArray) (hb : metaB a b m = true) (hl : l.length ≤ 1000000000) (hs : ∀ s ∈ l, s.size ≤ 1000000000) (d : Nat) : ∀ i, i + d = m.length → (∀ n ∈ m.take i, (findT l n).isSome = true) → Ev (fun k => sextonref13_Whole.l0 k l (wholeT l (m.take i)) (i : Int) a b m) (wholeV a b m l) := by
  have hm := (metaB_bd hb).1
  induction d with
  | zero =>
    intro i hi hall
    obtain rfl : i = m.length := by omega
    rw [List.take_length] at hall ⊢
    refine Ev.step (f := fun _ => some _) (fun r => ?_) (Ev.now _)
    simp only [sextonref13_Whole.l0]
    unfold wholeV
    rw [if_neg (by omega), if_pos hb, if_pos (List.all_eq_true.2 hall)]
    split <;> rfl
  | succ d ih =>
    intro i hi hall
    have hlt : i < m.length := by omega
    have hrd := rd_get m i hlt
    have hw : wrap64 ((i : Int) + 1) = ((i + 1 : Nat) : Int) := wrap_id (by omega) (by omega)
    have hsz := whole_size l (m.take i) hs
    rw [List.length_take] at hsz
    have ht := textT_mem (n := m[i]) hs
    refine Ev.step (f := fun r => (sextonref13_find.f r l m[i]).bind fun bt328 => (if bt328.2 = true then (if (wholeT l (m.take i)).size + bt328.1.size ≤ 9223372036854775807 then (sextonref13_Whole.l0 r l (wholeT l (m.take i) ++ bt328.1) ((i + 1 : Nat) : Int) a b m) else (none)) else (some ((⟨#[]⟩ : ByteArray), 80)))) (fun r => ?_) (Ev.bind (refFind l m[i] hl hs) ?_)
    · simp only [sextonref13_Whole.l0]
      rw [if_pos (by omega), if_pos (by omega), hrd, hw]
    · unfold findP
      cases e : findT l m[i] with
      | some s =>
        have hts : textT l m[i] = s := by unfold textT; rw [e]; rfl
        rw [hts] at ht
        have hih := ih (i + 1) (by omega) (fun n hn => by
          rw [List.take_succ_eq_append_getElem hlt] at hn
          rcases List.mem_append.1 hn with h | h
          · exact hall n h
          · rw [List.mem_singleton.1 h, e]; rfl)
        rw [wholeT_succ l m i hlt, hts] at hih
        obtain ⟨K, hK⟩ := hih
        exact ⟨K, fun k hk => by simp only; rw [if_pos trivial, if_pos (by omega)]; exact hK k hk⟩
      | none =>
        have : wholeV a b m l = (⟨#[]⟩, 80) := by
          unfold wholeV
          rw [if_pos hb, if_neg]
          intro h
          have := List.all_eq_true.1 h m[i] (List.getElem_mem hlt)
          rw [e] at this; cases this
        rw [this]
        exact ⟨0, fun k _ => by simp⟩
theorem refWhole (a b : Int) (m : List Int) (l : List ByteArray) (hm : m.length ≤ 1000000000) (hl : l.length ≤ 1000000000) (hs : ∀ s ∈ l, s.size ≤ 1000000000) : Ev (fun k => sextonref13_Whole.f k a b m l) (wholeV a b m l) := by
  unfold sextonref13_Whole.f
  refine Ev.bind (refMetaIs a b m (by omega)) ?_
  by_cases hb : metaB a b m = true
  · have h := refWhole_l0 a b m l hb hl hs m.length 0 (by omega) (by simp)
    obtain ⟨K, hK⟩ := h
    exact ⟨K, fun k hk => by simp only; rw [if_pos hb]; exact hK k hk⟩
  · have : wholeV a b m l = (⟨#[]⟩, 1) := by unfold wholeV; rw [if_neg hb]
    rw [this]
    exact ⟨0, fun k _ => by simp only; rw [if_neg hb]⟩

theorem ref_chunks_gt {L n : Nat} (hn : 1 ≤ n) : 16 < chunks L n ↔ 16 * n < L := by
  constructor
  · intro h
    have := chunk_lt h
    omega
  · intro h
    have h1 := chunks_end (L := L) hn
    rcases Nat.lt_or_ge 16 (chunks L n) with hc | hc
    · exact hc
    · have := Nat.mul_le_mul_right n hc
      omega
theorem chunks_small {L n : Nat} (hn : 1 ≤ n) : chunks L n ≤ L := by
  rcases Nat.lt_or_ge L (chunks L n) with h | h
  · have := chunk_lt h
    have := Nat.mul_le_mul_left L hn
    omega
  · exact h
theorem refCut_step (s : ByteArray) (n x : Nat) (c : ByteArray) (L : List ByteArray) (r : List ByteArray × Int) (hx : x < s.size) (hs : s.size ≤ 5000) (h2 : n ≤ 4000) (hL : L.length ≤ 5000) (hce : s.extract x (min (x + n) s.size) = c)
    (h : Ev (fun k => sextonref13_Cut.l0 k s (n : Int) (L ++ [c]) ((x + n : Nat) : Int)) r) : Ev (fun k => sextonref13_Cut.l0 k s (n : Int) L (x : Int)) r := by
  have hw0 : wrap64 ((x : Int) + (n : Int)) = (x : Int) + (n : Int) := wrap_id (by omega) (by omega)
  have hw : wrap64 ((x : Int) + (n : Int)) = ((x + n : Nat) : Int) := by rw [hw0]; omega
  have hmn : mn ((x + n : Nat) : Int) (s.size : Int) = ((min (x + n) s.size : Nat) : Int) := by unfold mn; split <;> omega
  refine Ev.step (f := fun q => sextonref13_Cut.l0 q s (n : Int) (L ++ [c]) ((x + n : Nat) : Int)) (fun q => ?_) h
  simp only [sextonref13_Cut.l0]
  rw [if_pos (by omega), if_pos (by omega), hw, hmn, if_pos (by omega), if_pos (by omega), if_pos (by omega), Int.toNat_natCast, Int.toNat_natCast, hce]
theorem refCut_l0 (s : ByteArray) (n : Nat) (h1 : 1 ≤ n) (h2 : n ≤ 4000) (hs : s.size ≤ 5000) (r : List ByteArray × Int) (hr : r = if 16 < chunks s.size n then ([], 2) else (cutV s n, 0)) (d : Nat) : ∀ i, i + d = chunks s.size n → Ev (fun k => sextonref13_Cut.l0 k s (n : Int) ((cutV s n).take i) ((i * n : Nat) : Int)) r := by
  have hl := cutV_length s n
  have hsm := chunks_small (L := s.size) h1
  have hend := chunks_end (L := s.size) h1
  induction d with
  | zero =>
    intro i hi
    obtain rfl : i = chunks s.size n := by omega
    have ht : (cutV s n).take (chunks s.size n) = cutV s n := List.take_of_length_le (by omega)
    refine Ev.step (f := fun _ => some r) (fun q => ?_) (Ev.now _)
    simp only [sextonref13_Cut.l0, ht]
    rw [if_neg (by omega), hr]
    by_cases hc : 16 < chunks s.size n
    · rw [if_pos hc, if_pos (by omega)]
    · rw [if_neg hc, if_neg (by omega)]
  | succ d ih =>
    intro i hi
    have hlt : i < chunks s.size n := by omega
    have hk := chunk_lt hlt
    have hnx : (cutV s n).take (i + 1) = (cutV s n).take i ++ [cutS s n i] := by
      rw [List.take_add_one, cutV_get s n i hlt]; rfl
    have hlen : ((cutV s n).take i).length = i := by rw [List.length_take]; omega
    have hih := ih (i + 1) (by omega)
    have hx : (i + 1) * n = i * n + n := Nat.succ_mul i n
    rw [hnx, hx] at hih
    have hce : s.extract (i * n) (min (i * n + n) s.size) = cutS s n i := rfl
    generalize i * n = x at *
    generalize cutS s n i = c at *
    exact refCut_step s n x c _ r hk hs h2 (by omega) hce hih
theorem refCut (s : ByteArray) (n : Int) (hs : s.size ≤ 5000) : ∃ r, chain_Cut.f s n = some r ∧ Ev (fun k => sextonref13_Cut.f k s n) r ∧ r.1.length ≤ 16 ∧ ∀ x ∈ r.1, x.size ≤ 4000 := by
  by_cases c1 : n < 1
  · refine ⟨([], 1), by unfold chain_Cut.f; rw [if_pos (.inl c1)], ⟨1, fun k hk => ?_⟩, by simp, by simp⟩
    obtain ⟨k, rfl⟩ : ∃ m, k = m + 1 := ⟨k - 1, by omega⟩
    simp only [sextonref13_Cut.f]
    rw [if_pos c1]
    simp only [sextonref13_Cut.j0]
    rw [if_pos trivial]
  by_cases c2 : n > 4000
  · refine ⟨([], 1), by unfold chain_Cut.f; rw [if_pos (.inr c2)], ⟨1, fun k hk => ?_⟩, by simp, by simp⟩
    obtain ⟨k, rfl⟩ : ∃ m, k = m + 1 := ⟨k - 1, by omega⟩
    simp only [sextonref13_Cut.f]
    rw [if_neg c1, decide_eq_true c2]
    simp only [sextonref13_Cut.j0]
    rw [if_pos trivial]
  obtain ⟨m, rfl⟩ : ∃ m : Nat, n = m := ⟨n.toNat, by omega⟩
  have hg := ref_chunks_gt (L := s.size) (n := m) (by omega)
  have hev : Ev (fun k => sextonref13_Cut.f k s (m : Int)) (if 16 < chunks s.size m then ([], 2) else (cutV s m, 0)) := by
    have h := refCut_l0 s m (by omega) (by omega) hs _ rfl (chunks s.size m) 0 (by omega)
    rw [List.take_zero, Nat.zero_mul] at h
    refine Ev.step (fun k => ?_) h
    simp only [sextonref13_Cut.f]
    rw [if_neg c1, decide_eq_false c2]
    simp only [sextonref13_Cut.j0]
    rw [if_neg (by decide)]
    rfl
  by_cases c3 : 16 < chunks s.size m
  · rw [if_pos c3] at hev
    refine ⟨_, ?_, hev, by simp, by simp⟩
    unfold chain_Cut.f
    rw [if_neg (by omega), if_pos (by have := hg.1 c3; omega)]
  · rw [if_neg c3] at hev
    refine ⟨_, ?_, hev, by rw [cutV_length]; omega, fun x hx => by have := mem_cut hx; omega⟩
    unfold chain_Cut.f
    rw [if_neg (by omega), if_neg (by have := fun h => c3 (hg.2 h); omega), Int.toNat_natCast]
theorem refDescribe (s : ByteArray) (n mode : Int) (hs : s.size ≤ 5000) : ∃ r, (∀ k, 17 ≤ k → chain_Describe.f k s n mode = some r) ∧ Ev (fun k => sextonref13_Describe.f k s n mode) r ∧ r.2.2.1.length ≤ 16 ∧ r.2.2.2.1.length ≤ 16 := by
  obtain ⟨⟨l, e⟩, h1, h2, h3, h4⟩ := refCut s n hs
  simp only at h3 h4
  have hsz : ∀ x ∈ l, x.size ≤ 1000000000 := fun x hx => by have := h4 x hx; omega
  have hsm := sums_f (l := l) (by omega) hsz
  have hml : (l.map sumV).length ≤ 16 := by rw [List.length_map]; exact h3
  have hmi := fun k (hk : 17 ≤ k) => meta_is_f k (s.size : Int) mode (l.map sumV) (by omega) (by omega)
  unfold chain_Describe.f sextonref13_Describe.f
  by_cases he : e = 0
  · by_cases hb : metaB (s.size : Int) mode (l.map sumV) = true
    · refine ⟨((s.size : Int), mode, l.map sumV, l, 0), fun k hk => ?_, Ev.bind h2 ?_, hml, h3⟩
      · rw [h1, Option.bind_some, if_pos he, hsm, Option.bind_some, hmi k hk, Option.bind_some, if_pos hb]
      · simp only [he, if_true]
        refine Ev.bind (refSums l (by omega) hsz) (Ev.bind (refMetaIs _ _ _ (by omega)) ?_)
        rw [hb]
        exact ⟨0, fun k _ => by simp⟩
    · refine ⟨(0, 0, [], [], 1), fun k hk => ?_, Ev.bind h2 ?_, by simp, by simp⟩
      · rw [h1, Option.bind_some, if_pos he, hsm, Option.bind_some, hmi k hk, Option.bind_some, if_neg hb]
      · simp only [he, if_true]
        refine Ev.bind (refSums l (by omega) hsz) (Ev.bind (refMetaIs _ _ _ (by omega)) ?_)
        rw [show metaB (s.size : Int) mode (l.map sumV) = false by simpa using hb]
        exact ⟨0, fun k _ => by simp⟩
  · refine ⟨(0, 0, [], [], e), fun k hk => ?_, Ev.bind h2 ?_, by simp, by simp⟩
    · rw [h1, Option.bind_some, if_neg he]
    · simp only [he, if_false]
      exact ⟨0, fun k _ => rfl⟩
end Go.Proofs.Ytfdpebipnapelaa.P
/-
  sextonref01.Ints and sextonref12.Same, told plainly.
-/
namespace Go.Proofs.Ytfdpebipnapelaa.P
open Go.RowKit Go.Proofs.CodecPlain Go.Proofs.YtfdpebipnapelaaW.PrintWords Go.Proofs.YtfdpebipnapelaaW.PrintLast

theorem ints_l0 (a b : List Int) (hl : a.length = b.length) (hm : a.length ≤ 9223372036854775806) (d : Nat) : ∀ k : Nat, k + d = a.length → Ev (fun r => sextonref01_Ints.l0 r a b (k : Int)) (decide (a.drop k = b.drop k)) := by
  induction d with
  | zero =>
    intro k hk
    rw [List.drop_of_length_le (by omega), List.drop_of_length_le (by omega), decide_eq_true rfl]
    exact Ev.step (f := fun _ => some true) (fun r => by simp only [sextonref01_Ints.l0]; rw [if_neg (by omega)]) (Ev.now _)
  | succ d ih =>
    intro k hk
    have ha : k < a.length := by omega
    have hb : k < b.length := by omega
    have ra : rd a (k : Int) = a[k] := by simp [rd, List.getD_eq_getElem?_getD, ha]
    have rb : rd b (k : Int) = b[k] := by simp [rd, List.getD_eq_getElem?_getD, hb]
    rw [List.drop_eq_getElem_cons ha, List.drop_eq_getElem_cons hb]
    by_cases he : a[k] = b[k]
    · refine Ev.step (f := fun r => sextonref01_Ints.l0 r a b ((k + 1 : Nat) : Int)) (fun r => ?_) ?_
      · simp only [sextonref01_Ints.l0]
        rw [if_pos (by omega), if_pos (by omega), if_pos (by omega), ra, rb, if_pos he, wrap_id (by omega) (by omega)]
        rfl
      · have := ih (k + 1) (by omega)
        rw [show (decide (a[k] :: a.drop (k + 1) = b[k] :: b.drop (k + 1))) = decide (a.drop (k + 1) = b.drop (k + 1)) from decide_eq_decide.2 (by rw [List.cons.injEq]; exact ⟨fun h => h.2, fun h => ⟨he, h⟩⟩)]
        exact this
    · refine Ev.step (f := fun _ => some false) (fun r => ?_) ?_
      · simp only [sextonref01_Ints.l0]
        rw [if_pos (by omega), if_pos (by omega), if_pos (by omega), ra, rb, if_neg he]
      · rw [decide_eq_false (by intro h; injection h with h _; exact he h)]
        exact Ev.now _

theorem ints_ev (a b : List Int) (hm : a.length ≤ 9223372036854775806) : Ev (fun r => sextonref01_Ints.f r a b) (decide (a = b)) := by
  by_cases hl : a.length = b.length
  · refine Ev.congr (f := fun r => sextonref01_Ints.l0 r a b 0) (fun r => by unfold sextonref01_Ints.f; rw [if_pos (by omega)]) ?_
    have := ints_l0 a b hl hm a.length 0 (by omega)
    simpa using this
  · rw [decide_eq_false (by intro h; exact hl (by rw [h]))]
    exact Ev.congr (f := fun _ => some false) (fun r => by unfold sextonref01_Ints.f; rw [if_neg (by omega)]) (Ev.now _)

theorem same12 (a b : Int) (l : List Int) (a' b' : Int) (l' : List Int) (hm : l.length ≤ 9223372036854775806) : Ev (fun k => sextonref12_Same.f k a b l a' b' l') (decide (a = a' ∧ b = b' ∧ l = l')) := by
  by_cases h1 : a = a'
  · by_cases h2 : b = b'
    · have := ints_ev l l' hm
      rw [show decide (a = a' ∧ b = b' ∧ l = l') = decide (l = l') by simp [h1, h2]]
      exact Ev.congr (f := fun k => (sextonref01_Ints.f k l l').bind fun t => some t) (fun k => by unfold sextonref12_Same.f; rw [if_pos h1, if_pos h2]) (Ev.bind this (Ev.now _))
    · rw [decide_eq_false (fun h => h2 h.2.1)]
      exact Ev.congr (f := fun _ => some false) (fun k => by unfold sextonref12_Same.f; rw [if_pos h1, if_neg h2]) (Ev.now _)
  · rw [decide_eq_false (fun h => h1 h.1)]
    exact Ev.congr (f := fun _ => some false) (fun k => by unfold sextonref12_Same.f; rw [if_neg h1]) (Ev.now _)
end Go.Proofs.Ytfdpebipnapelaa.P
/-
  sextonref01.Texts, told plainly.
-/
namespace Go.Proofs.Ytfdpebipnapelaa.P
open Go.RowKit Go.Proofs.CodecPlain Go.Proofs.YtfdpebipnapelaaW.PrintWords Go.Proofs.YtfdpebipnapelaaW.PrintLast

theorem refTexts_l0 (a b : List ByteArray) (hl : a.length = b.length) (hm : a.length ≤ 9223372036854775806) (d : Nat) : ∀ k : Nat, k + d = a.length → Ev (fun r => sextonref01_Texts.l0 r a b (k : Int)) (decide (a.drop k = b.drop k)) := by
  induction d with
  | zero =>
    intro k hk
    have h1 : a.drop k = [] := List.drop_of_length_le (by omega)
    have h2 : b.drop k = [] := List.drop_of_length_le (by omega)
    rw [h1, h2]
    exact Ev.step (f := fun _ => some true) (fun r => by simp only [sextonref01_Texts.l0]; rw [if_neg (by omega)]) (Ev.now _)
  | succ d ih =>
    intro k hk
    have ha : k < a.length := by omega
    have hb : k < b.length := by omega
    have e1 : a.drop k = a[k] :: a.drop (k + 1) := List.drop_eq_getElem_cons ha
    have e2 : b.drop k = b[k] :: b.drop (k + 1) := List.drop_eq_getElem_cons hb
    by_cases he : a[k] = b[k]
    · refine Ev.step (f := fun r => sextonref01_Texts.l0 r a b ((k + 1 : Nat) : Int)) (fun r => ?_) ?_
      · simp only [sextonref01_Texts.l0]
        rw [if_pos (by omega), if_pos (by omega), if_pos (by omega), rd_str a k ha, rd_str b k hb, if_pos (by rw [he]), wrap_id (by omega) (by omega)]
        rfl
      · have := ih (k + 1) (by omega)
        rw [e1, e2, he]
        simp only [List.cons.injEq, true_and]
        exact this
    · refine Ev.step (f := fun _ => some false) (fun r => ?_) ?_
      · simp only [sextonref01_Texts.l0]
        rw [if_pos (by omega), if_pos (by omega), if_pos (by omega), rd_str a k ha, rd_str b k hb, if_neg (fun h => he (toList_inj h))]
      · rw [e1, e2, decide_eq_false (fun h => he (List.cons.inj h).1)]
        exact Ev.now _

theorem refTexts (a b : List ByteArray) (hm : a.length ≤ 9223372036854775806) : Ev (fun r => sextonref01_Texts.f r a b) (decide (a = b)) := by
  by_cases hl : a.length = b.length
  · refine Ev.congr (f := fun r => sextonref01_Texts.l0 r a b 0) (fun r => by unfold sextonref01_Texts.f; rw [if_pos (by omega)]) ?_
    have := refTexts_l0 a b hl hm a.length 0 (by omega)
    simpa using this
  · rw [decide_eq_false (fun h => hl (by rw [h]))]
    exact Ev.congr (f := fun _ => some false) (fun r => by unfold sextonref01_Texts.f; rw [if_neg (by omega)]) (Ev.now _)
end Go.Proofs.Ytfdpebipnapelaa.P
/-
  What can be read as data reads as a value of its kind: kind by kind, for the rows of the statements.
-/
namespace Go.Proofs.Ytfdpebipnapelaa.Opens
open Go.ChangeShapes Go.WideShapes Go.ChangeAt Go.RowKit Go.Proofs.YtfdpebipnapelaaW.PrintWords

def Opens (P : Program) {α : Type} (kd : Kd α) (ok : α → Prop) (t : TypeId) : Prop :=
  ∀ {H : Type} (enc : TypeId × Value → H) (W : World) (base : Nat) (spare : Nat → Bool) (held : Bool) (fuel : Nat) (cs : List Value) (x : DataW H × List MemPlace),
    DataW.trod enc P W base spare held fuel t cs = some x → ∃ a, kd.K W a cs ∧ ok a
def OkInt (k : IntKind) (n : Int) : Prop := (Lit.int k n).wf = true
def OkStr (s : ByteArray) : Prop := s.size ≤ maxLen
def OkList {α : Type} (ok : α → Prop) (l : List α) : Prop := l.length ≤ maxLen ∧ ∀ a ∈ l, ok a
def OkTrue {α : Type} (_ : α) : Prop := True
def OkPair {α β : Type} (p : α → Prop) (q : β → Prop) (x : α × β) : Prop := p x.1 ∧ q x.2

section
variable {P : Program} {t e : TypeId}
theorem opens_int {k : IntKind} (ht : P.underlying t = some (.int k)) : Opens P (Kd.int k) (OkInt k) t := by
  intro H enc W base spare held fuel cs x h
  obtain ⟨n, rfl, _, hw⟩ := DataW.trod_int ht h
  exact ⟨n, rfl, hw⟩
theorem opens_bool (ht : P.underlying t = some .bool) : Opens P Kd.bool OkTrue t := by
  intro H enc W base spare held fuel cs x h
  obtain ⟨b, rfl, _⟩ := DataW.trod_bool ht h
  exact ⟨b, rfl, trivial⟩
theorem opens_string (ht : P.underlying t = some .string) : Opens P Kd.string OkStr t := by
  intro H enc W base spare held fuel cs x h
  obtain ⟨s, rfl, _, hs⟩ := DataW.trod_string ht h
  exact ⟨s, rfl, hs⟩
theorem addr_add (a : Addr) (x i : Nat) : a.add (x + i) = (a.add x).add i := by
  unfold Addr.add
  by_cases h1 : x = 0 <;> by_cases h2 : i = 0 <;> simp [h1, h2, Nat.add_assoc]
theorem opens_slice {α : Type} {kd : Kd α} {ok : α → Prop} (ht : P.underlying t = some (.slice e)) (hc : P.cellsOf e = kd.sz) (he : Opens P kd ok e) : Opens P (Kd.slice e kd) (OkList ok) t := by
  intro H enc W base spare held fuel cs x h
  rcases DataW.trod_slice ht h with ⟨rfl, _⟩ | ⟨a, len, cap, elems, rest, n, _, rfl, _, hb, hl, hm, hlen, hel, _, _⟩
  · exact ⟨[], ⟨none, 0, rfl, Nat.le_refl _, rfl, by simp, fun h0 => absurd h0 (Nat.lt_irrefl 0)⟩, by simp [maxLen], by simp⟩
  · have each : ∀ i, i < len → ∃ (y : α) (c : List Value), c.length = kd.sz ∧ kd.K W y c ∧ ok y ∧ ∀ j u, c[j]? = some u → W.cell? ((a.add (i * kd.sz)).add j) = some u := by
      intro i hi
      have h1 := hel i hi
      rw [hc, List.getElem?_eq_getElem (by omega), Option.bind_eq_some_iff] at h1
      obtain ⟨c, hcs, hy⟩ := h1
      obtain ⟨y, hK, hok⟩ := he enc W base spare held n c _ hy
      obtain ⟨_, hcl, hcell⟩ := World.cells?_some hcs
      refine ⟨y, c, kd.K_len hK, hK, hok, fun j u hj => ?_⟩
      have hjl : j < kd.sz := by have := (List.getElem?_eq_some_iff.1 hj).1; rw [kd.K_len hK] at this; exact this
      rw [hcell j hjl, hj]
    have pick : ∃ l : List α, l.length = len ∧ ∀ i y, l[i]? = some y → ∃ c : List Value, c.length = kd.sz ∧ kd.K W y c ∧ ok y ∧ ∀ j u, c[j]? = some u → W.cell? ((a.add (i * kd.sz)).add j) = some u := by
      have key : ∀ m, m ≤ len → ∃ l : List α, l.length = m ∧ ∀ i y, l[i]? = some y → ∃ c : List Value, c.length = kd.sz ∧ kd.K W y c ∧ ok y ∧ ∀ j u, c[j]? = some u → W.cell? ((a.add (i * kd.sz)).add j) = some u := by
        intro m
        induction m with
        | zero => intro _; exact ⟨[], rfl, fun i y h => by simp at h⟩
        | succ m ih =>
          intro hm
          obtain ⟨l, hl1, hl2⟩ := ih (by omega)
          obtain ⟨y, c, h1, h2, h3, h4⟩ := each m (by omega)
          refine ⟨l ++ [y], by simp [hl1], fun i z hz => ?_⟩
          rcases Nat.lt_or_ge i l.length with hi | hi
          · rw [List.getElem?_append_left hi] at hz
            exact hl2 i z hz
          · have : i = l.length := by
              have := (List.getElem?_eq_some_iff.1 hz).1
              rw [List.length_append, List.length_singleton] at this
              omega
            subst this
            have hz' : y = z := by simpa using hz
            subst hz'
            exact ⟨c, h1, h2, h3, by rw [hl1]; exact h4⟩
      exact key len (Nat.le_refl _)
    obtain ⟨l, hl1, hl2⟩ := pick
    subst hl1
    refine ⟨l, ⟨some a, cap, rfl, hl, rfl, by unfold maxLen at hm; omega, fun _ => ⟨a, rfl, fun j p hj => ?_⟩⟩, by omega, fun y hy => ?_⟩
    · obtain ⟨c, h1, h2, _, h4⟩ := hl2 j p hj
      refine ⟨c, h1, h2, fun i u hu => ?_⟩
      rw [← h4 i u hu, addr_add]
    · obtain ⟨i, hi⟩ := List.getElem?_of_mem hy
      obtain ⟨_, _, _, h3, _⟩ := hl2 i y hi
      exact h3

/-- The same of fields in line, from one place of the cells on. -/
def OpensF (P : Program) {α : Type} (kd : Kd α) (ok : α → Prop) (fs : List Field) (off len : Nat) : Prop :=
  ∀ {H : Type} (enc : TypeId × Value → H) (W : World) (base : Nat) (spare : Nat → Bool) (held : Bool) (n : Nat) (cs : List Value),
    (∀ f ∈ fs, ∃ y, DataW.trod enc P W base spare held n f.type ((cs.drop f.offset).take (P.cellsOf f.type)) = some y) → off + len ≤ cs.length → ∃ a, kd.K W a ((cs.drop off).take len) ∧ ok a
theorem opensF_one {α : Type} {kd : Kd α} {ok : α → Prop} {f : Field} {t off len : Nat} (h : Opens P kd ok t) (ht : f.type = t) (ho : f.offset = off) (hl : P.cellsOf t = len) : OpensF P kd ok [f] off len := by
  intro H enc W base spare held n cs hf _
  obtain ⟨y, hy⟩ := hf f List.mem_cons_self
  subst ht ho hl
  exact h enc W base spare held n _ y hy
theorem opensF_pair {α β : Type} {kd : Kd α} {kd' : Kd β} {ok : α → Prop} {ok' : β → Prop} {f : Field} {fs : List Field} {t off len len' : Nat} (h : Opens P kd ok t) (ht : f.type = t) (ho : f.offset = off) (hl : P.cellsOf t = len)
    (h' : OpensF P kd' ok' fs (off + len) len') : OpensF P (Kd.pair kd kd') (OkPair ok ok') (f :: fs) off (len + len') := by
  intro H enc W base spare held n cs hf hle
  obtain ⟨y, hy⟩ := hf f List.mem_cons_self
  subst ht ho hl
  obtain ⟨a, ha, hoka⟩ := h enc W base spare held n _ y hy
  obtain ⟨b, hb, hokb⟩ := h' enc W base spare held n cs (fun g hg => hf g (List.mem_cons_of_mem _ hg)) (by omega)
  refine ⟨(a, b), ⟨_, _, ?_, ha, hb⟩, hoka, hokb⟩
  rw [List.take_add, List.drop_drop]
theorem opens_struct {α β : Type} {kd : Kd α} {ok : α → Prop} {fs : Array Field} {len : Nat} (ht : P.underlying t = some (.struct fs)) (hc : P.cellsOf t = len) (h : OpensF P kd ok fs.toList 0 len) (f : β → α) (g : α → β) (hg : ∀ a, f (g a) = a) :
    Opens P (Kd.iso kd f) (fun b => ok (f b)) t := by
  intro H enc W base spare held fuel cs x hx
  obtain ⟨xs, n, _, _, hl, hlen, hf⟩ := DataW.trod_struct ht hx
  obtain ⟨a, ha, hok⟩ := h enc W base spare held n cs (fun fd hfd => by
    obtain ⟨i, hi⟩ := List.getElem?_of_mem hfd
    have h1 := hf i fd (by simpa using hi)
    have hi2 : i < xs.length := by
      have := (List.getElem?_eq_some_iff.1 hi).1
      rw [hlen]; simpa using this
    rw [List.getElem?_eq_getElem hi2] at h1
    exact ⟨_, h1⟩) (by omega)
  refine ⟨g a, ?_, by show ok (f (g a)); rw [hg]; exact hok⟩
  show kd.K W (f (g a)) cs
  rw [hg]
  have : (cs.drop 0).take len = cs := by rw [List.drop_zero]; exact List.take_of_length_le (by omega)
  rw [this] at ha
  exact ha
theorem opens_struct_id {α : Type} {kd : Kd α} {ok : α → Prop} {fs : Array Field} {len : Nat} (ht : P.underlying t = some (.struct fs)) (hc : P.cellsOf t = len) (h : OpensF P kd ok fs.toList 0 len) : Opens P kd ok t :=
  opens_struct ht hc h id id (fun _ => rfl)

/-! ### a parameter, opened -/
variable {H : Type} {enc : TypeId × Value → H} {W : World} {base : Nat} {spare : Nat → Bool} {held : Bool} {r : Reach} {b0 : Nat} {v : Value} {d : DataW H} {ps : List MemPlace}
theorem param_slice {α : Type} {kd : Kd α} {ok : List α → Prop} (ht : P.underlying t = some (.slice e)) (h : Opens P (Kd.slice e kd) ok t) (hval : Value.okWide P W r b0 t v) (hd : DataW.Trod enc P W base spare held t v d ps) :
    ∃ A c l, v = .slice A l.length c ∧ l.length ≤ c ∧ Kd.C kd W A l.length l ∧ ok l := by
  obtain ⟨a, len, cap, rfl⟩ := okWide_slice ht hval
  obtain ⟨fuel, hf⟩ := hd
  obtain ⟨l, ⟨A, c, hcs, hl, hC⟩, hok⟩ := h enc W base spare held fuel _ _ hf
  have : Value.slice a len cap = Value.slice A l.length c := by simpa [Value.cells] using hcs
  exact ⟨A, c, l, this, hl, hC, hok⟩
theorem param_struct {α : Type} {kd : Kd α} {ok : α → Prop} {fs : Array Field} (ht : P.underlying t = some (.struct fs)) (h : Opens P kd ok t) (hval : Value.okWide P W r b0 t v) (hd : DataW.Trod enc P W base spare held t v d ps) :
    ∃ cs a, v = .agg cs ∧ kd.K W a cs.toList ∧ ok a := by
  obtain ⟨cs, rfl, hsz⟩ := okWide_struct ht hval
  obtain ⟨fuel, hf⟩ := hd
  obtain ⟨a, hK, hok⟩ := h enc W base spare held fuel _ _ hf
  exact ⟨cs, a, rfl, hK, hok⟩
theorem agg_eq {cs : Array Value} {l : List Value} (h : cs.toList = l) : cs = l.toArray := by rw [← h]
end
end Go.Proofs.Ytfdpebipnapelaa.Opens
