/-
  Texts that the claims of this chapter share, joined.
-/
import Derived.Test.YtkgcaheddhfpgaaPx0
import Derived.Test.YtkgcaheddhfpgaaC06a
import Derived.Test.YtkgcaheddhfpgaaC06f
import Derived.Test.YtkgcaheddhfpgaaC06e
import Derived.Test.YtkgcaheddhfpgaaC06b
set_option linter.unusedVariables false
set_option linter.unusedSimpArgs false
/-
  sexton/sextonlaw06.shelved answers true. The print's walk, with the branches that would answer false closed.
-/
-- Written by a program of this session (xprint.py) over the kit's print.py.
namespace Go.Proofs.Ytkgcaheddhfpgaa.P
open Go.RowKit Go.Proofs.YtkgcaheddhfpgaaW.PrintWords Go.Proofs.YtkgcaheddhfpgaaW.PrintLast Go.Proofs.YtkgcaheddhfpgaaW.PrintMore
attribute [local go_sem] max2_int min2_int max_two min_two max_three min_three max_four min_four   -- for this text's walks alone
set_option linter.unusedVariables false
set_option linter.unusedSimpArgs false

/-! ### sextonlaw06_shelvedP: function 22 -/
def sextonlaw06_shelvedP.f (k : Nat)  : Option (Bool) := (slot_Format.f 5).bind fun bt190 => ((slot_Load.f bt190.1 bt190.2.1).bind fun bt198 => ((slot_Save.f bt190.1 bt190.2.1 (([(⟨#[97]⟩ : ByteArray), (⟨#[98]⟩ : ByteArray)] : List ByteArray)) (-1)).bind fun bt206 => ((slot_Load.f bt206.1 bt206.2.1).bind fun bt215 => ((slot_Free.f bt206.1 bt206.2.1).bind fun bt220 => ((slot_Save.f bt206.1 bt206.2.1 (([(⟨#[99]⟩ : ByteArray), (⟨#[100]⟩ : ByteArray)] : List ByteArray)) (-1)).bind fun bt227 => ((slot_Save.f bt206.1 bt206.2.1 (([(⟨#[99]⟩ : ByteArray)] : List ByteArray)) (-1)).bind fun bt239 => ((slot_Load.f bt239.1 bt239.2.1).bind fun bt248 => ((slot_Format.f 2).bind fun bt253 => (if bt190.2.2 = 0 then (if bt198.2.2 = bt190.2.2 then (if (bt198.1.length : Int) = 0 then (if bt198.2.1 = 0 then (if bt206.2.2.1 = true then (if bt206.2.2.2 = bt190.2.2 then (if bt215.2.2 = bt190.2.2 then ((sextonref01_Texts.f k bt215.1 (([(⟨#[97]⟩ : ByteArray), (⟨#[98]⟩ : ByteArray)] : List ByteArray))).bind fun t264 => (if t264 = true then (if bt215.2.1 = 1 then (if bt220.2 = bt190.2.2 then ((sextonref01_Ints.f k bt220.1 (([4] : List Int))).bind fun t268 => (if t268 = true then (if bt227.2.2.2 = 41 then (if bt239.2.2.2 = bt190.2.2 then (if bt248.2.2 = bt190.2.2 then ((sextonref01_Texts.f k bt248.1 (([(⟨#[99]⟩ : ByteArray)] : List ByteArray))).bind fun t272 => (if t272 = true then (if bt248.2.1 = 2 then (some (bt253.2.2 == 1)) else (some false)) else (some false))) else (some false)) else (some false)) else (some false)) else (some false))) else (some false)) else (some false)) else (some false))) else (some false)) else (some false)) else (some false)) else (some false)) else (some false)) else (some false)) else (some false))))))))))
theorem lit_S (xs : List ByteArray) (W : World) (e : TypeId) {g : Nat} (hg : g = W.heap.size) (hm : xs.length ≤ 9223372036854775807) : Kd.C Kd.string (W.alloc (.cells (xs.map Value.string).toArray e)) (some ⟨g, 0, none⟩) xs.length xs := by
  subst hg
  have ho := World.ownsRow_lit (base := 0) (e := e) (size := 1) W (xs.map Value.string).toArray xs.length (Nat.zero_le _) (by simpa [maxLen] using hm) (by simp)
  simp only [List.toList_toArray] at ho
  exact (Kd.R_reads' (Kd.R_of_own (ok := fun _ => True) ho (fun _ _ => trivial))).2.2
theorem lit_I (xs : List Int) (W : World) (e : TypeId) {g : Nat} (hg : g = W.heap.size) (hm : xs.length ≤ 9223372036854775807) : Kd.C (Kd.int .i64) (W.alloc (.cells (xs.map (Value.int .i64)).toArray e)) (some ⟨g, 0, none⟩) xs.length xs := by
  subst hg
  have ho := World.ownsRow_lit (base := 0) (e := e) (size := 1) W (xs.map (Value.int .i64)).toArray xs.length (Nat.zero_le _) (by simpa [maxLen] using hm) (by simp)
  simp only [List.toList_toArray] at ho
  exact (Kd.R_reads' (Kd.R_of_own (ok := fun _ => True) ho (fun _ _ => trivial))).2.2
set_option maxHeartbeats 8000000 in
set_option maxRecDepth 100000 in
theorem sextonlaw06_shelvedP.calls (k : Nat)  (r : Bool) (hrt : r = true := by rfl) (w : World) (h : sextonlaw06_shelvedP.f k  = some r) :
    Calls Try.prog 22 #[] w fun e w' => e = .returned (.bool r) ∧ Below w.heap.size w w' := by
  have HRT := Aside0.mk hrt
  have hu25 := Try.underlying25
  have HB := Aside0.mk (Below.refl w.heap.size w)
  have H : ((slot_Format.f 5).bind fun bt190 => ((slot_Load.f bt190.1 bt190.2.1).bind fun bt198 => ((slot_Save.f bt190.1 bt190.2.1 (([(⟨#[97]⟩ : ByteArray), (⟨#[98]⟩ : ByteArray)] : List ByteArray)) (-1)).bind fun bt206 => ((slot_Load.f bt206.1 bt206.2.1).bind fun bt215 => ((slot_Free.f bt206.1 bt206.2.1).bind fun bt220 => ((slot_Save.f bt206.1 bt206.2.1 (([(⟨#[99]⟩ : ByteArray), (⟨#[100]⟩ : ByteArray)] : List ByteArray)) (-1)).bind fun bt227 => ((slot_Save.f bt206.1 bt206.2.1 (([(⟨#[99]⟩ : ByteArray)] : List ByteArray)) (-1)).bind fun bt239 => ((slot_Load.f bt239.1 bt239.2.1).bind fun bt248 => ((slot_Format.f 2).bind fun bt253 => (if bt190.2.2 = 0 then (if bt198.2.2 = bt190.2.2 then (if (bt198.1.length : Int) = 0 then (if bt198.2.1 = 0 then (if bt206.2.2.1 = true then (if bt206.2.2.2 = bt190.2.2 then (if bt215.2.2 = bt190.2.2 then ((sextonref01_Texts.f k bt215.1 (([(⟨#[97]⟩ : ByteArray), (⟨#[98]⟩ : ByteArray)] : List ByteArray))).bind fun t264 => (if t264 = true then (if bt215.2.1 = 1 then (if bt220.2 = bt190.2.2 then ((sextonref01_Ints.f k bt220.1 (([4] : List Int))).bind fun t268 => (if t268 = true then (if bt227.2.2.2 = 41 then (if bt239.2.2.2 = bt190.2.2 then (if bt248.2.2 = bt190.2.2 then ((sextonref01_Texts.f k bt248.1 (([(⟨#[99]⟩ : ByteArray)] : List ByteArray))).bind fun t272 => (if t272 = true then (if bt248.2.1 = 2 then (some (bt253.2.2 == 1)) else (some false)) else (some false))) else (some false)) else (some false)) else (some false)) else (some false))) else (some false)) else (some false)) else (some false))) else (some false)) else (some false)) else (some false)) else (some false)) else (some false)) else (some false)) else (some false))))))))))) = some r := h
  clear h
  replace H := Option.bind_eq_some_iff.mp H
  obtain ⟨⟨t190, t193, t196⟩, A10, H⟩ := H
  replace H : ((slot_Load.f t190 t193).bind fun bt198 => ((slot_Save.f t190 t193 (([(⟨#[97]⟩ : ByteArray), (⟨#[98]⟩ : ByteArray)] : List ByteArray)) (-1)).bind fun bt206 => ((slot_Load.f bt206.1 bt206.2.1).bind fun bt215 => ((slot_Free.f bt206.1 bt206.2.1).bind fun bt220 => ((slot_Save.f bt206.1 bt206.2.1 (([(⟨#[99]⟩ : ByteArray), (⟨#[100]⟩ : ByteArray)] : List ByteArray)) (-1)).bind fun bt227 => ((slot_Save.f bt206.1 bt206.2.1 (([(⟨#[99]⟩ : ByteArray)] : List ByteArray)) (-1)).bind fun bt239 => ((slot_Load.f bt239.1 bt239.2.1).bind fun bt248 => ((slot_Format.f 2).bind fun bt253 => (if t196 = 0 then (if bt198.2.2 = t196 then (if (bt198.1.length : Int) = 0 then (if bt198.2.1 = 0 then (if bt206.2.2.1 = true then (if bt206.2.2.2 = t196 then (if bt215.2.2 = t196 then ((sextonref01_Texts.f k bt215.1 (([(⟨#[97]⟩ : ByteArray), (⟨#[98]⟩ : ByteArray)] : List ByteArray))).bind fun t264 => (if t264 = true then (if bt215.2.1 = 1 then (if bt220.2 = t196 then ((sextonref01_Ints.f k bt220.1 (([4] : List Int))).bind fun t268 => (if t268 = true then (if bt227.2.2.2 = 41 then (if bt239.2.2.2 = t196 then (if bt248.2.2 = t196 then ((sextonref01_Texts.f k bt248.1 (([(⟨#[99]⟩ : ByteArray)] : List ByteArray))).bind fun t272 => (if t272 = true then (if bt248.2.1 = 2 then (some (bt253.2.2 == 1)) else (some false)) else (some false))) else (some false)) else (some false)) else (some false)) else (some false))) else (some false)) else (some false)) else (some false))) else (some false)) else (some false)) else (some false)) else (some false)) else (some false)) else (some false)) else (some false)))))))))) = some r := H
  have A1 := Aside0.mk A10
  clear A10
  replace H := Option.bind_eq_some_iff.mp H
  obtain ⟨⟨t198, t201, t202⟩, A20, H⟩ := H
  replace H : ((slot_Save.f t190 t193 (([(⟨#[97]⟩ : ByteArray), (⟨#[98]⟩ : ByteArray)] : List ByteArray)) (-1)).bind fun bt206 => ((slot_Load.f bt206.1 bt206.2.1).bind fun bt215 => ((slot_Free.f bt206.1 bt206.2.1).bind fun bt220 => ((slot_Save.f bt206.1 bt206.2.1 (([(⟨#[99]⟩ : ByteArray), (⟨#[100]⟩ : ByteArray)] : List ByteArray)) (-1)).bind fun bt227 => ((slot_Save.f bt206.1 bt206.2.1 (([(⟨#[99]⟩ : ByteArray)] : List ByteArray)) (-1)).bind fun bt239 => ((slot_Load.f bt239.1 bt239.2.1).bind fun bt248 => ((slot_Format.f 2).bind fun bt253 => (if t196 = 0 then (if t202 = t196 then (if (t198.length : Int) = 0 then (if t201 = 0 then (if bt206.2.2.1 = true then (if bt206.2.2.2 = t196 then (if bt215.2.2 = t196 then ((sextonref01_Texts.f k bt215.1 (([(⟨#[97]⟩ : ByteArray), (⟨#[98]⟩ : ByteArray)] : List ByteArray))).bind fun t264 => (if t264 = true then (if bt215.2.1 = 1 then (if bt220.2 = t196 then ((sextonref01_Ints.f k bt220.1 (([4] : List Int))).bind fun t268 => (if t268 = true then (if bt227.2.2.2 = 41 then (if bt239.2.2.2 = t196 then (if bt248.2.2 = t196 then ((sextonref01_Texts.f k bt248.1 (([(⟨#[99]⟩ : ByteArray)] : List ByteArray))).bind fun t272 => (if t272 = true then (if bt248.2.1 = 2 then (some (bt253.2.2 == 1)) else (some false)) else (some false))) else (some false)) else (some false)) else (some false)) else (some false))) else (some false)) else (some false)) else (some false))) else (some false)) else (some false)) else (some false)) else (some false)) else (some false)) else (some false)) else (some false))))))))) = some r := H
  have A2 := Aside0.mk A20
  clear A20
  obtain ⟨y203, hy203⟩ : ∃ y_ : List ByteArray, y_ = (([(⟨#[97]⟩ : ByteArray), (⟨#[98]⟩ : ByteArray)] : List ByteArray)) := ⟨_, rfl⟩
  replace H : ((slot_Save.f t190 t193 y203 (-1)).bind fun bt206 => ((slot_Load.f bt206.1 bt206.2.1).bind fun bt215 => ((slot_Free.f bt206.1 bt206.2.1).bind fun bt220 => ((slot_Save.f bt206.1 bt206.2.1 (([(⟨#[99]⟩ : ByteArray), (⟨#[100]⟩ : ByteArray)] : List ByteArray)) (-1)).bind fun bt227 => ((slot_Save.f bt206.1 bt206.2.1 (([(⟨#[99]⟩ : ByteArray)] : List ByteArray)) (-1)).bind fun bt239 => ((slot_Load.f bt239.1 bt239.2.1).bind fun bt248 => ((slot_Format.f 2).bind fun bt253 => (if t196 = 0 then (if t202 = t196 then (if (t198.length : Int) = 0 then (if t201 = 0 then (if bt206.2.2.1 = true then (if bt206.2.2.2 = t196 then (if bt215.2.2 = t196 then ((sextonref01_Texts.f k bt215.1 (([(⟨#[97]⟩ : ByteArray), (⟨#[98]⟩ : ByteArray)] : List ByteArray))).bind fun t264 => (if t264 = true then (if bt215.2.1 = 1 then (if bt220.2 = t196 then ((sextonref01_Ints.f k bt220.1 (([4] : List Int))).bind fun t268 => (if t268 = true then (if bt227.2.2.2 = 41 then (if bt239.2.2.2 = t196 then (if bt248.2.2 = t196 then ((sextonref01_Texts.f k bt248.1 (([(⟨#[99]⟩ : ByteArray)] : List ByteArray))).bind fun t272 => (if t272 = true then (if bt248.2.1 = 2 then (some (bt253.2.2 == 1)) else (some false)) else (some false))) else (some false)) else (some false)) else (some false)) else (some false))) else (some false)) else (some false)) else (some false))) else (some false)) else (some false)) else (some false)) else (some false)) else (some false)) else (some false)) else (some false))))))))) = some r := by first | (rw [hy203]; with_reducible exact H) | (have H2_ := (Option.bind_some _ _).symm.trans H; rw [hy203]; with_reducible exact H2_) | (have H2_ := (Option.bind_some _ _).symm.trans H; with_reducible exact H2_) | with_reducible exact H | (rw [hy203]; exact H) | exact H
  have Ny203 := Aside0.mk hy203
  clear hy203
  replace H := Option.bind_eq_some_iff.mp H
  obtain ⟨⟨t206, t209, t212, t213⟩, A30, H⟩ := H
  replace H : ((slot_Load.f t206 t209).bind fun bt215 => ((slot_Free.f t206 t209).bind fun bt220 => ((slot_Save.f t206 t209 (([(⟨#[99]⟩ : ByteArray), (⟨#[100]⟩ : ByteArray)] : List ByteArray)) (-1)).bind fun bt227 => ((slot_Save.f t206 t209 (([(⟨#[99]⟩ : ByteArray)] : List ByteArray)) (-1)).bind fun bt239 => ((slot_Load.f bt239.1 bt239.2.1).bind fun bt248 => ((slot_Format.f 2).bind fun bt253 => (if t196 = 0 then (if t202 = t196 then (if (t198.length : Int) = 0 then (if t201 = 0 then (if t212 = true then (if t213 = t196 then (if bt215.2.2 = t196 then ((sextonref01_Texts.f k bt215.1 (([(⟨#[97]⟩ : ByteArray), (⟨#[98]⟩ : ByteArray)] : List ByteArray))).bind fun t264 => (if t264 = true then (if bt215.2.1 = 1 then (if bt220.2 = t196 then ((sextonref01_Ints.f k bt220.1 (([4] : List Int))).bind fun t268 => (if t268 = true then (if bt227.2.2.2 = 41 then (if bt239.2.2.2 = t196 then (if bt248.2.2 = t196 then ((sextonref01_Texts.f k bt248.1 (([(⟨#[99]⟩ : ByteArray)] : List ByteArray))).bind fun t272 => (if t272 = true then (if bt248.2.1 = 2 then (some (bt253.2.2 == 1)) else (some false)) else (some false))) else (some false)) else (some false)) else (some false)) else (some false))) else (some false)) else (some false)) else (some false))) else (some false)) else (some false)) else (some false)) else (some false)) else (some false)) else (some false)) else (some false)))))))) = some r := H
  have A3 := Aside0.mk A30
  clear A30
  replace H := Option.bind_eq_some_iff.mp H
  obtain ⟨⟨t215, t218, t219⟩, A40, H⟩ := H
  replace H : ((slot_Free.f t206 t209).bind fun bt220 => ((slot_Save.f t206 t209 (([(⟨#[99]⟩ : ByteArray), (⟨#[100]⟩ : ByteArray)] : List ByteArray)) (-1)).bind fun bt227 => ((slot_Save.f t206 t209 (([(⟨#[99]⟩ : ByteArray)] : List ByteArray)) (-1)).bind fun bt239 => ((slot_Load.f bt239.1 bt239.2.1).bind fun bt248 => ((slot_Format.f 2).bind fun bt253 => (if t196 = 0 then (if t202 = t196 then (if (t198.length : Int) = 0 then (if t201 = 0 then (if t212 = true then (if t213 = t196 then (if t219 = t196 then ((sextonref01_Texts.f k t215 (([(⟨#[97]⟩ : ByteArray), (⟨#[98]⟩ : ByteArray)] : List ByteArray))).bind fun t264 => (if t264 = true then (if t218 = 1 then (if bt220.2 = t196 then ((sextonref01_Ints.f k bt220.1 (([4] : List Int))).bind fun t268 => (if t268 = true then (if bt227.2.2.2 = 41 then (if bt239.2.2.2 = t196 then (if bt248.2.2 = t196 then ((sextonref01_Texts.f k bt248.1 (([(⟨#[99]⟩ : ByteArray)] : List ByteArray))).bind fun t272 => (if t272 = true then (if bt248.2.1 = 2 then (some (bt253.2.2 == 1)) else (some false)) else (some false))) else (some false)) else (some false)) else (some false)) else (some false))) else (some false)) else (some false)) else (some false))) else (some false)) else (some false)) else (some false)) else (some false)) else (some false)) else (some false)) else (some false))))))) = some r := H
  have A4 := Aside0.mk A40
  clear A40
  replace H := Option.bind_eq_some_iff.mp H
  obtain ⟨⟨t220, t223⟩, A50, H⟩ := H
  replace H : ((slot_Save.f t206 t209 (([(⟨#[99]⟩ : ByteArray), (⟨#[100]⟩ : ByteArray)] : List ByteArray)) (-1)).bind fun bt227 => ((slot_Save.f t206 t209 (([(⟨#[99]⟩ : ByteArray)] : List ByteArray)) (-1)).bind fun bt239 => ((slot_Load.f bt239.1 bt239.2.1).bind fun bt248 => ((slot_Format.f 2).bind fun bt253 => (if t196 = 0 then (if t202 = t196 then (if (t198.length : Int) = 0 then (if t201 = 0 then (if t212 = true then (if t213 = t196 then (if t219 = t196 then ((sextonref01_Texts.f k t215 (([(⟨#[97]⟩ : ByteArray), (⟨#[98]⟩ : ByteArray)] : List ByteArray))).bind fun t264 => (if t264 = true then (if t218 = 1 then (if t223 = t196 then ((sextonref01_Ints.f k t220 (([4] : List Int))).bind fun t268 => (if t268 = true then (if bt227.2.2.2 = 41 then (if bt239.2.2.2 = t196 then (if bt248.2.2 = t196 then ((sextonref01_Texts.f k bt248.1 (([(⟨#[99]⟩ : ByteArray)] : List ByteArray))).bind fun t272 => (if t272 = true then (if bt248.2.1 = 2 then (some (bt253.2.2 == 1)) else (some false)) else (some false))) else (some false)) else (some false)) else (some false)) else (some false))) else (some false)) else (some false)) else (some false))) else (some false)) else (some false)) else (some false)) else (some false)) else (some false)) else (some false)) else (some false)))))) = some r := H
  have A5 := Aside0.mk A50
  clear A50
  obtain ⟨y224, hy224⟩ : ∃ y_ : List ByteArray, y_ = (([(⟨#[99]⟩ : ByteArray), (⟨#[100]⟩ : ByteArray)] : List ByteArray)) := ⟨_, rfl⟩
  replace H : ((slot_Save.f t206 t209 y224 (-1)).bind fun bt227 => ((slot_Save.f t206 t209 (([(⟨#[99]⟩ : ByteArray)] : List ByteArray)) (-1)).bind fun bt239 => ((slot_Load.f bt239.1 bt239.2.1).bind fun bt248 => ((slot_Format.f 2).bind fun bt253 => (if t196 = 0 then (if t202 = t196 then (if (t198.length : Int) = 0 then (if t201 = 0 then (if t212 = true then (if t213 = t196 then (if t219 = t196 then ((sextonref01_Texts.f k t215 (([(⟨#[97]⟩ : ByteArray), (⟨#[98]⟩ : ByteArray)] : List ByteArray))).bind fun t264 => (if t264 = true then (if t218 = 1 then (if t223 = t196 then ((sextonref01_Ints.f k t220 (([4] : List Int))).bind fun t268 => (if t268 = true then (if bt227.2.2.2 = 41 then (if bt239.2.2.2 = t196 then (if bt248.2.2 = t196 then ((sextonref01_Texts.f k bt248.1 (([(⟨#[99]⟩ : ByteArray)] : List ByteArray))).bind fun t272 => (if t272 = true then (if bt248.2.1 = 2 then (some (bt253.2.2 == 1)) else (some false)) else (some false))) else (some false)) else (some false)) else (some false)) else (some false))) else (some false)) else (some false)) else (some false))) else (some false)) else (some false)) else (some false)) else (some false)) else (some false)) else (some false)) else (some false)))))) = some r := by first | (rw [hy224]; with_reducible exact H) | (have H2_ := (Option.bind_some _ _).symm.trans H; rw [hy224]; with_reducible exact H2_) | (have H2_ := (Option.bind_some _ _).symm.trans H; with_reducible exact H2_) | with_reducible exact H | (rw [hy224]; exact H) | exact H
  have Ny224 := Aside0.mk hy224
  clear hy224
  replace H := Option.bind_eq_some_iff.mp H
  obtain ⟨⟨t227, t230, t233, t234⟩, A60, H⟩ := H
  replace H : ((slot_Save.f t206 t209 (([(⟨#[99]⟩ : ByteArray)] : List ByteArray)) (-1)).bind fun bt239 => ((slot_Load.f bt239.1 bt239.2.1).bind fun bt248 => ((slot_Format.f 2).bind fun bt253 => (if t196 = 0 then (if t202 = t196 then (if (t198.length : Int) = 0 then (if t201 = 0 then (if t212 = true then (if t213 = t196 then (if t219 = t196 then ((sextonref01_Texts.f k t215 (([(⟨#[97]⟩ : ByteArray), (⟨#[98]⟩ : ByteArray)] : List ByteArray))).bind fun t264 => (if t264 = true then (if t218 = 1 then (if t223 = t196 then ((sextonref01_Ints.f k t220 (([4] : List Int))).bind fun t268 => (if t268 = true then (if t234 = 41 then (if bt239.2.2.2 = t196 then (if bt248.2.2 = t196 then ((sextonref01_Texts.f k bt248.1 (([(⟨#[99]⟩ : ByteArray)] : List ByteArray))).bind fun t272 => (if t272 = true then (if bt248.2.1 = 2 then (some (bt253.2.2 == 1)) else (some false)) else (some false))) else (some false)) else (some false)) else (some false)) else (some false))) else (some false)) else (some false)) else (some false))) else (some false)) else (some false)) else (some false)) else (some false)) else (some false)) else (some false)) else (some false))))) = some r := H
  have A6 := Aside0.mk A60
  clear A60
  obtain ⟨y236, hy236⟩ : ∃ y_ : List ByteArray, y_ = (([(⟨#[99]⟩ : ByteArray)] : List ByteArray)) := ⟨_, rfl⟩
  replace H : ((slot_Save.f t206 t209 y236 (-1)).bind fun bt239 => ((slot_Load.f bt239.1 bt239.2.1).bind fun bt248 => ((slot_Format.f 2).bind fun bt253 => (if t196 = 0 then (if t202 = t196 then (if (t198.length : Int) = 0 then (if t201 = 0 then (if t212 = true then (if t213 = t196 then (if t219 = t196 then ((sextonref01_Texts.f k t215 (([(⟨#[97]⟩ : ByteArray), (⟨#[98]⟩ : ByteArray)] : List ByteArray))).bind fun t264 => (if t264 = true then (if t218 = 1 then (if t223 = t196 then ((sextonref01_Ints.f k t220 (([4] : List Int))).bind fun t268 => (if t268 = true then (if t234 = 41 then (if bt239.2.2.2 = t196 then (if bt248.2.2 = t196 then ((sextonref01_Texts.f k bt248.1 (([(⟨#[99]⟩ : ByteArray)] : List ByteArray))).bind fun t272 => (if t272 = true then (if bt248.2.1 = 2 then (some (bt253.2.2 == 1)) else (some false)) else (some false))) else (some false)) else (some false)) else (some false)) else (some false))) else (some false)) else (some false)) else (some false))) else (some false)) else (some false)) else (some false)) else (some false)) else (some false)) else (some false)) else (some false))))) = some r := by first | (rw [hy236]; with_reducible exact H) | (have H2_ := (Option.bind_some _ _).symm.trans H; rw [hy236]; with_reducible exact H2_) | (have H2_ := (Option.bind_some _ _).symm.trans H; with_reducible exact H2_) | with_reducible exact H | (rw [hy236]; exact H) | exact H
  have Ny236 := Aside0.mk hy236
  clear hy236
  replace H := Option.bind_eq_some_iff.mp H
  obtain ⟨⟨t239, t242, t245, t246⟩, A70, H⟩ := H
  replace H : ((slot_Load.f t239 t242).bind fun bt248 => ((slot_Format.f 2).bind fun bt253 => (if t196 = 0 then (if t202 = t196 then (if (t198.length : Int) = 0 then (if t201 = 0 then (if t212 = true then (if t213 = t196 then (if t219 = t196 then ((sextonref01_Texts.f k t215 (([(⟨#[97]⟩ : ByteArray), (⟨#[98]⟩ : ByteArray)] : List ByteArray))).bind fun t264 => (if t264 = true then (if t218 = 1 then (if t223 = t196 then ((sextonref01_Ints.f k t220 (([4] : List Int))).bind fun t268 => (if t268 = true then (if t234 = 41 then (if t246 = t196 then (if bt248.2.2 = t196 then ((sextonref01_Texts.f k bt248.1 (([(⟨#[99]⟩ : ByteArray)] : List ByteArray))).bind fun t272 => (if t272 = true then (if bt248.2.1 = 2 then (some (bt253.2.2 == 1)) else (some false)) else (some false))) else (some false)) else (some false)) else (some false)) else (some false))) else (some false)) else (some false)) else (some false))) else (some false)) else (some false)) else (some false)) else (some false)) else (some false)) else (some false)) else (some false)))) = some r := H
  have A7 := Aside0.mk A70
  clear A70
  replace H := Option.bind_eq_some_iff.mp H
  obtain ⟨⟨t248, t251, t252⟩, A80, H⟩ := H
  replace H : ((slot_Format.f 2).bind fun bt253 => (if t196 = 0 then (if t202 = t196 then (if (t198.length : Int) = 0 then (if t201 = 0 then (if t212 = true then (if t213 = t196 then (if t219 = t196 then ((sextonref01_Texts.f k t215 (([(⟨#[97]⟩ : ByteArray), (⟨#[98]⟩ : ByteArray)] : List ByteArray))).bind fun t264 => (if t264 = true then (if t218 = 1 then (if t223 = t196 then ((sextonref01_Ints.f k t220 (([4] : List Int))).bind fun t268 => (if t268 = true then (if t234 = 41 then (if t246 = t196 then (if t252 = t196 then ((sextonref01_Texts.f k t248 (([(⟨#[99]⟩ : ByteArray)] : List ByteArray))).bind fun t272 => (if t272 = true then (if t251 = 2 then (some (bt253.2.2 == 1)) else (some false)) else (some false))) else (some false)) else (some false)) else (some false)) else (some false))) else (some false)) else (some false)) else (some false))) else (some false)) else (some false)) else (some false)) else (some false)) else (some false)) else (some false)) else (some false))) = some r := H
  have A8 := Aside0.mk A80
  clear A80
  replace H := Option.bind_eq_some_iff.mp H
  obtain ⟨⟨t253, t256, t259⟩, A90, H⟩ := H
  replace H : (if t196 = 0 then (if t202 = t196 then (if (t198.length : Int) = 0 then (if t201 = 0 then (if t212 = true then (if t213 = t196 then (if t219 = t196 then ((sextonref01_Texts.f k t215 (([(⟨#[97]⟩ : ByteArray), (⟨#[98]⟩ : ByteArray)] : List ByteArray))).bind fun t264 => (if t264 = true then (if t218 = 1 then (if t223 = t196 then ((sextonref01_Ints.f k t220 (([4] : List Int))).bind fun t268 => (if t268 = true then (if t234 = 41 then (if t246 = t196 then (if t252 = t196 then ((sextonref01_Texts.f k t248 (([(⟨#[99]⟩ : ByteArray)] : List ByteArray))).bind fun t272 => (if t272 = true then (if t251 = 2 then (some (t259 == 1)) else (some false)) else (some false))) else (some false)) else (some false)) else (some false)) else (some false))) else (some false)) else (some false)) else (some false))) else (some false)) else (some false)) else (some false)) else (some false)) else (some false)) else (some false)) else (some false)) = some r := H
  have A9 := Aside0.mk A90
  clear A90
  by_cases c10 : t196 = 0
  · rw [if_pos c10] at H
    have c10b0 : (t196 == 0) = true := beq_iff_eq.mpr c10
    have c10b1 : (t196 != 0) = false := bne_eq_false_iff_eq.mpr c10
    clear c10
    by_cases c11 : t202 = t196
    · rw [if_pos c11] at H
      have c11b0 : (t202 == t196) = true := beq_iff_eq.mpr c11
      have c11b1 : (t202 != t196) = false := bne_eq_false_iff_eq.mpr c11
      clear c11
      by_cases c12 : (t198.length : Int) = 0
      · rw [if_pos c12] at H
        have c12b0 : ((t198.length : Int) == 0) = true := beq_iff_eq.mpr c12
        have c12b1 : ((t198.length : Int) != 0) = false := bne_eq_false_iff_eq.mpr c12
        clear c12
        by_cases c13 : t201 = 0
        · rw [if_pos c13] at H
          have c13b0 : (t201 == 0) = true := beq_iff_eq.mpr c13
          have c13b1 : (t201 != 0) = false := bne_eq_false_iff_eq.mpr c13
          clear c13
          by_cases c14 : t212 = true
          · subst c14
            have H1 : (if t213 = t196 then (if t219 = t196 then ((sextonref01_Texts.f k t215 (([(⟨#[97]⟩ : ByteArray), (⟨#[98]⟩ : ByteArray)] : List ByteArray))).bind fun t264 => (if t264 = true then (if t218 = 1 then (if t223 = t196 then ((sextonref01_Ints.f k t220 (([4] : List Int))).bind fun t268 => (if t268 = true then (if t234 = 41 then (if t246 = t196 then (if t252 = t196 then ((sextonref01_Texts.f k t248 (([(⟨#[99]⟩ : ByteArray)] : List ByteArray))).bind fun t272 => (if t272 = true then (if t251 = 2 then (some (t259 == 1)) else (some false)) else (some false))) else (some false)) else (some false)) else (some false)) else (some false))) else (some false)) else (some false)) else (some false))) else (some false)) else (some false)) = some r := by rw [if_pos rfl] at H; exact H
            clear H
            have H := H1
            clear H1
            by_cases c15 : t213 = t196
            · rw [if_pos c15] at H
              have c15b0 : (t213 == t196) = true := beq_iff_eq.mpr c15
              have c15b1 : (t213 != t196) = false := bne_eq_false_iff_eq.mpr c15
              clear c15
              by_cases c16 : t219 = t196
              · rw [if_pos c16] at H
                have c16b0 : (t219 == t196) = true := beq_iff_eq.mpr c16
                have c16b1 : (t219 != t196) = false := bne_eq_false_iff_eq.mpr c16
                clear c16
                obtain ⟨y261, hy261⟩ : ∃ y_ : List ByteArray, y_ = (([(⟨#[97]⟩ : ByteArray), (⟨#[98]⟩ : ByteArray)] : List ByteArray)) := ⟨_, rfl⟩
                replace H : ((sextonref01_Texts.f k t215 y261).bind fun t264 => (if t264 = true then (if t218 = 1 then (if t223 = t196 then ((sextonref01_Ints.f k t220 (([4] : List Int))).bind fun t268 => (if t268 = true then (if t234 = 41 then (if t246 = t196 then (if t252 = t196 then ((sextonref01_Texts.f k t248 (([(⟨#[99]⟩ : ByteArray)] : List ByteArray))).bind fun t272 => (if t272 = true then (if t251 = 2 then (some (t259 == 1)) else (some false)) else (some false))) else (some false)) else (some false)) else (some false)) else (some false))) else (some false)) else (some false)) else (some false))) = some r := by first | (rw [hy261]; with_reducible exact H) | (have H2_ := (Option.bind_some _ _).symm.trans H; rw [hy261]; with_reducible exact H2_) | (have H2_ := (Option.bind_some _ _).symm.trans H; with_reducible exact H2_) | with_reducible exact H | (rw [hy261]; exact H) | exact H
                have Ny261 := Aside0.mk hy261
                clear hy261
                replace H := Option.bind_eq_some_iff.mp H
                obtain ⟨t264, A170, H⟩ := H
                replace H : (if t264 = true then (if t218 = 1 then (if t223 = t196 then ((sextonref01_Ints.f k t220 (([4] : List Int))).bind fun t268 => (if t268 = true then (if t234 = 41 then (if t246 = t196 then (if t252 = t196 then ((sextonref01_Texts.f k t248 (([(⟨#[99]⟩ : ByteArray)] : List ByteArray))).bind fun t272 => (if t272 = true then (if t251 = 2 then (some (t259 == 1)) else (some false)) else (some false))) else (some false)) else (some false)) else (some false)) else (some false))) else (some false)) else (some false)) else (some false)) = some r := H
                have A17 := Aside0.mk A170
                clear A170
                by_cases c18 : t264 = true
                · subst c18
                  have H1 : (if t218 = 1 then (if t223 = t196 then ((sextonref01_Ints.f k t220 (([4] : List Int))).bind fun t268 => (if t268 = true then (if t234 = 41 then (if t246 = t196 then (if t252 = t196 then ((sextonref01_Texts.f k t248 (([(⟨#[99]⟩ : ByteArray)] : List ByteArray))).bind fun t272 => (if t272 = true then (if t251 = 2 then (some (t259 == 1)) else (some false)) else (some false))) else (some false)) else (some false)) else (some false)) else (some false))) else (some false)) else (some false)) = some r := by rw [if_pos rfl] at H; exact H
                  clear H
                  have H := H1
                  clear H1
                  by_cases c19 : t218 = 1
                  · rw [if_pos c19] at H
                    have c19b0 : (t218 == 1) = true := beq_iff_eq.mpr c19
                    have c19b1 : (t218 != 1) = false := bne_eq_false_iff_eq.mpr c19
                    clear c19
                    by_cases c20 : t223 = t196
                    · rw [if_pos c20] at H
                      have c20b0 : (t223 == t196) = true := beq_iff_eq.mpr c20
                      have c20b1 : (t223 != t196) = false := bne_eq_false_iff_eq.mpr c20
                      clear c20
                      obtain ⟨y265, hy265⟩ : ∃ y_ : List Int, y_ = (([4] : List Int)) := ⟨_, rfl⟩
                      replace H : ((sextonref01_Ints.f k t220 y265).bind fun t268 => (if t268 = true then (if t234 = 41 then (if t246 = t196 then (if t252 = t196 then ((sextonref01_Texts.f k t248 (([(⟨#[99]⟩ : ByteArray)] : List ByteArray))).bind fun t272 => (if t272 = true then (if t251 = 2 then (some (t259 == 1)) else (some false)) else (some false))) else (some false)) else (some false)) else (some false)) else (some false))) = some r := by first | (rw [hy265]; with_reducible exact H) | (have H2_ := (Option.bind_some _ _).symm.trans H; rw [hy265]; with_reducible exact H2_) | (have H2_ := (Option.bind_some _ _).symm.trans H; with_reducible exact H2_) | with_reducible exact H | (rw [hy265]; exact H) | exact H
                      have Ny265 := Aside0.mk hy265
                      clear hy265
                      replace H := Option.bind_eq_some_iff.mp H
                      obtain ⟨t268, A210, H⟩ := H
                      replace H : (if t268 = true then (if t234 = 41 then (if t246 = t196 then (if t252 = t196 then ((sextonref01_Texts.f k t248 (([(⟨#[99]⟩ : ByteArray)] : List ByteArray))).bind fun t272 => (if t272 = true then (if t251 = 2 then (some (t259 == 1)) else (some false)) else (some false))) else (some false)) else (some false)) else (some false)) else (some false)) = some r := H
                      have A21 := Aside0.mk A210
                      clear A210
                      by_cases c22 : t268 = true
                      · subst c22
                        have H1 : (if t234 = 41 then (if t246 = t196 then (if t252 = t196 then ((sextonref01_Texts.f k t248 (([(⟨#[99]⟩ : ByteArray)] : List ByteArray))).bind fun t272 => (if t272 = true then (if t251 = 2 then (some (t259 == 1)) else (some false)) else (some false))) else (some false)) else (some false)) else (some false)) = some r := by rw [if_pos rfl] at H; exact H
                        clear H
                        have H := H1
                        clear H1
                        by_cases c23 : t234 = 41
                        · rw [if_pos c23] at H
                          have c23b0 : (t234 == 41) = true := beq_iff_eq.mpr c23
                          have c23b1 : (t234 != 41) = false := bne_eq_false_iff_eq.mpr c23
                          clear c23
                          by_cases c24 : t246 = t196
                          · rw [if_pos c24] at H
                            have c24b0 : (t246 == t196) = true := beq_iff_eq.mpr c24
                            have c24b1 : (t246 != t196) = false := bne_eq_false_iff_eq.mpr c24
                            clear c24
                            by_cases c25 : t252 = t196
                            · rw [if_pos c25] at H
                              have c25b0 : (t252 == t196) = true := beq_iff_eq.mpr c25
                              have c25b1 : (t252 != t196) = false := bne_eq_false_iff_eq.mpr c25
                              clear c25
                              obtain ⟨y269, hy269⟩ : ∃ y_ : List ByteArray, y_ = (([(⟨#[99]⟩ : ByteArray)] : List ByteArray)) := ⟨_, rfl⟩
                              replace H : ((sextonref01_Texts.f k t248 y269).bind fun t272 => (if t272 = true then (if t251 = 2 then (some (t259 == 1)) else (some false)) else (some false))) = some r := by first | (rw [hy269]; with_reducible exact H) | (have H2_ := (Option.bind_some _ _).symm.trans H; rw [hy269]; with_reducible exact H2_) | (have H2_ := (Option.bind_some _ _).symm.trans H; with_reducible exact H2_) | with_reducible exact H | (rw [hy269]; exact H) | exact H
                              have Ny269 := Aside0.mk hy269
                              clear hy269
                              replace H := Option.bind_eq_some_iff.mp H
                              obtain ⟨t272, A260, H⟩ := H
                              replace H : (if t272 = true then (if t251 = 2 then (some (t259 == 1)) else (some false)) else (some false)) = some r := H
                              have A26 := Aside0.mk A260
                              clear A260
                              by_cases c27 : t272 = true
                              · subst c27
                                have H1 : (if t251 = 2 then (some (t259 == 1)) else (some false)) = some r := by rw [if_pos rfl] at H; exact H
                                clear H
                                have H := H1
                                clear H1
                                by_cases c28 : t251 = 2
                                · rw [if_pos c28] at H
                                  have c28b0 : (t251 == 2) = true := beq_iff_eq.mpr c28
                                  have c28b1 : (t251 != 2) = false := bne_eq_false_iff_eq.mpr c28
                                  clear c28
                                  obtain rfl := Option.some.inj H
                                  go_enter Try.func22, Try.ntmps22
                                  go_wp2_with (first | ((with_reducible refine gate_callee (f := 25) rfl ?_); refine goesL_ (some 26) rfl rfl Try.func25 (by kernel_rfl) rfl #[.int .i64 5] rfl (by (try simp only [List.map_toArray, List.map_cons, List.map_nil]); first | done | rfl | (simp only [List.length_drop, List.length_take]; rfl)) ?_; (with_reducible refine (slot_Format.calls 5 t190 t193 t196 _ A1.out).mono ?_); rintro e w29 ⟨v191, v194, rfl, ho0, ho1, hb⟩; refine ⟨_, rfl, ?_⟩; have n0_ := Aside0.mk (Kd.R_lower ho0 (below_size (by repeat (first | (with_reducible first | exact HB.out | apply below_alloc | apply pw_below_drewN | apply below_drew1) | exact HB.out)))); have n1_ := Aside0.mk (Kd.R_lower ho1 (below_size (by repeat (first | (with_reducible first | exact HB.out | apply below_alloc | apply pw_below_drewN | apply below_drew1) | exact HB.out)))); have n2_ := Aside0.mk (below_step (by repeat (first | (with_reducible first | exact HB.out | apply below_alloc | apply pw_below_drewN | apply below_drew1) | exact HB.out)) hb); clear HB; have HO192 := n0_; have HO195 := n1_; have HB := n2_; clear n0_ n1_ n2_; (try clear hb); (try clear hb2); (try clear hk); (try clear hi); (try clear ho0); (try clear ho1)) | ((with_reducible refine gate_dst (N := 1) rfl ?_); (try (refine gate_guard (by rfl) ?_; dsimp only)); refine box_event ?hg (N := 1) ?hd (cs := #[.slice none 0 0, .slice none 0 0]) (t := 25) ?hr ?_; (case hd => rfl); (case hg => rfl); (case hr => first | (go_simp; done) | (go_simp; rfl)); intro gb197 hg w30 hbox hb; have n0_ := Aside0.mk (Kd.R_below (by (with_reducible repeat (first | apply Kd.R_alloc | apply Kd.R_drewN | apply Kd.R_drew)); exact HO192.out) hb); have n1_ := Aside0.mk (Kd.R_below (by (with_reducible repeat (first | apply Kd.R_alloc | apply Kd.R_drewN | apply Kd.R_drew)); exact HO195.out) hb); have n2_ := Aside0.mk (below_step (by repeat (first | (with_reducible first | exact HB.out | apply below_alloc | apply pw_below_drewN | apply below_drew1) | exact HB.out)) hb); have n3_ := Aside0.mk (hbox); have n4_ := Aside0.mk ((by rw [hg]; exact (below_size (by repeat (first | (with_reducible first | exact HB.out | apply below_alloc | apply pw_below_drewN | apply below_drew1) | exact HB.out))) : w.heap.size ≤ gb197)); have n5_ := Aside0.mk ((by rw [hg]; exact (below_size (by repeat (first | (with_reducible first | exact HB.out | apply below_alloc | apply pw_below_drewN | apply below_drew1) | exact HB.out))) : w.heap.size ≤ gb197)); clear HO192; clear HO195; clear HB; have HO192 := n0_; have HO195 := n1_; have HB := n2_; have BK197 := n3_; have GW197 := n4_; have GE197 := n5_; clear n0_ n1_ n2_ n3_ n4_ n5_; clear hb hbox hg; obtain ⟨Ao31, co31, eo31⟩ := Kd.R_slice HO192.out; subst eo31; have hcz32_0 : w30.cell? ⟨gb197, 0, none⟩ = some (.slice none 0 0) := (blk_cell BK197.out 0).trans rfl; have hcz32_1 : w30.cell? ⟨gb197, 1, none⟩ = some (.slice none 0 0) := (blk_cell BK197.out 1).trans rfl; have hfz32_0 := blk_frozen BK197.out 0; have hfz32_1 := blk_frozen BK197.out 1; obtain ⟨Ao33, co33, eo33⟩ := Kd.R_slice HO195.out; subst eo33) | ((with_reducible refine gate_callee (f := 20) rfl ?_); refine goesL_ (some 31) rfl rfl Try.func20 (by kernel_rfl) rfl #[.agg #[.slice Ao31 t190.length co31, .slice Ao33 t193.length co33]] rfl (by (try simp only [List.map_toArray, List.map_cons, List.map_nil]); first | done | rfl | (simp only [List.length_drop, List.length_take]; rfl)) ?_; (with_reducible refine (slot_Load.calls _ _ t190 _ _ t193 t198 t201 t202 _ ?side1 ?side2 ?side3 ?side4 A2.out).mono ?_); (case side1 => refine (Kd.R_reads' (e := 9) (base := w.heap.size) (ok := fun k_ => True) (n := t190.length) (c := co31) ?_).2.2; exact (by (with_reducible repeat (first | apply Kd.R_alloc | apply Kd.R_drewN | apply Kd.R_drew)); exact (Kd.R_mono (Kd.R_far (p := ⟨gb197, 1, none⟩) (Kd.R_far (p := ⟨gb197, 0, none⟩) (Kd.R_types HO192.out BK197.out (by decide)) (fun _ hk => hk.2) (.slice Ao31 t190.length co31)) (fun _ hk => hk.2) (.slice Ao33 t193.length co33)) (fun _ h_ => h_.1)))); (case side2 => exact (Kd.R_reads' HO192.out).2.1); (case side3 => refine (Kd.R_reads' (e := 73) (base := w.heap.size) (ok := fun k_ => True) (n := t193.length) (c := co33) ?_).2.2; exact (by (with_reducible repeat (first | apply Kd.R_alloc | apply Kd.R_drewN | apply Kd.R_drew)); exact (Kd.R_mono (Kd.R_far (p := ⟨gb197, 1, none⟩) (Kd.R_far (p := ⟨gb197, 0, none⟩) (Kd.R_types HO195.out BK197.out (by decide)) (fun _ hk => hk.2) (.slice Ao31 t190.length co31)) (fun _ hk => hk.2) (.slice Ao33 t193.length co33)) (fun _ h_ => h_.1)))); (case side4 => exact (Kd.R_reads' HO195.out).2.1); rintro e w34 ⟨v199, rfl, ho0, hb⟩; refine ⟨_, rfl, ?_⟩; have n0_ := Aside0.mk (Kd.R_elder' (by (with_reducible repeat (first | apply Kd.R_alloc | apply Kd.R_drewN | apply Kd.R_drew)); exact (Kd.R_mono (Kd.R_far (p := ⟨gb197, 1, none⟩) (Kd.R_far (p := ⟨gb197, 0, none⟩) (Kd.R_types HO192.out BK197.out (by decide)) (fun _ hk => hk.2) (.slice Ao31 t190.length co31)) (fun _ hk => hk.2) (.slice Ao33 t193.length co33)) (fun _ h_ => h_.1))) (Kd.R_base ho0) hb); have n1_ := Aside0.mk (Kd.R_below (by (with_reducible repeat (first | apply Kd.R_alloc | apply Kd.R_drewN | apply Kd.R_drew)); exact (Kd.R_mono (Kd.R_far (p := ⟨gb197, 1, none⟩) (Kd.R_far (p := ⟨gb197, 0, none⟩) (Kd.R_types HO195.out BK197.out (by decide)) (fun _ hk => hk.2) (.slice Ao31 t190.length co31)) (fun _ hk => hk.2) (.slice Ao33 t193.length co33)) (fun _ h_ => h_.1))) hb); have n2_ := Aside0.mk (Kd.R_lower (Kd.R_new' ho0 (Kd.R_lt (by (with_reducible repeat (first | apply Kd.R_alloc | apply Kd.R_drewN | apply Kd.R_drew)); exact (Kd.R_mono (Kd.R_far (p := ⟨gb197, 1, none⟩) (Kd.R_far (p := ⟨gb197, 0, none⟩) (Kd.R_types HO192.out BK197.out (by decide)) (fun _ hk => hk.2) (.slice Ao31 t190.length co31)) (fun _ hk => hk.2) (.slice Ao33 t193.length co33)) (fun _ h_ => h_.1))))) (below_size (by repeat (first | (with_reducible first | exact HB.out | apply below_alloc | apply pw_below_drewN | apply below_drew1 | refine below_set ?_ GE197.out) | exact HB.out)))); have n3_ := Aside0.mk (blk_below (g := gb197) (o := .cells #[.slice Ao31 t190.length co31, .slice Ao33 t193.length co33] 25 (0, 0)) (by (with_reducible repeat (first | refine blk_drewN ?_ _ | refine blk_drew ?_ | refine blk_alloc ?_ _)); refine blk_put (cs := #[.slice Ao31 t190.length co31, .slice none 0 0]) ?_ 1 _ rfl; (with_reducible repeat (first | refine blk_drewN ?_ _ | refine blk_drew ?_ | refine blk_alloc ?_ _)); refine blk_put (cs := #[.slice none 0 0, .slice none 0 0]) ?_ 0 _ rfl; (with_reducible repeat (first | refine blk_drewN ?_ _ | refine blk_drew ?_ | refine blk_alloc ?_ _)); exact BK197.out) hb); have n4_ := Aside0.mk (below_step (by repeat (first | (with_reducible first | exact HB.out | apply below_alloc | apply pw_below_drewN | apply below_drew1 | refine below_set ?_ GE197.out) | exact HB.out)) hb); clear HO192; clear HO195; clear BK197; clear HB; have HO192 := n0_; have HO195 := n1_; have HO200 := n2_; have BK197 := n3_; have HB := n4_; clear n0_ n1_ n2_ n3_ n4_; (try clear hb); (try clear hb2); (try clear hk); (try clear hi); (try clear ho0); have hcz35_0 : w34.cell? ⟨gb197, 0, none⟩ = some (.slice Ao31 t190.length co31) := (blk_cell BK197.out 0).trans rfl; have hcz35_1 : w34.cell? ⟨gb197, 1, none⟩ = some (.slice Ao33 t193.length co33) := (blk_cell BK197.out 1).trans rfl; have hfz35_0 := blk_frozen BK197.out 0; have hfz35_1 := blk_frozen BK197.out 1) | ((with_reducible refine gate_dst (N := 37) rfl ?_); (try (refine gate_guard (by rfl) ?_; dsimp only)); refine Kd.R_lit Kd.string _ 9 ?hg (N := 37) ?hd (xs := ([(⟨#[97]⟩ : ByteArray), (⟨#[98]⟩ : ByteArray)] : List ByteArray)) (inner := [.string (⟨#[97]⟩ : ByteArray), .string (⟨#[98]⟩ : ByteArray)]) (ok := fun _ => True) (okp := fun _ => True) ?hr ?hp (fun _ hk => hk) trivial (Below.refl _ _) (Nat.le_refl _) (by simp) ?_; (case hd => rfl); (case hg => rfl); (case hr => first | (go_simp; done) | (go_simp; rfl)); (case hp => exact (Reps.one (show Kd.M Kd.string _ _ _ (⟨#[97]⟩ : ByteArray) [.string (⟨#[97]⟩ : ByteArray)] from rfl) (Reps.one (show Kd.M Kd.string _ _ _ (⟨#[98]⟩ : ByteArray) [.string (⟨#[98]⟩ : ByteArray)] from rfl) (Reps.none _ _)))); intro v204 w36 ho37 hb hg_ hnew_; clear hg_ hnew_; (first | rw [← Ny203.out] at ho37 | (simp only [Int.reduceToNat] at ho37; rw [← Ny203.out] at ho37)); have n0_ := Aside0.mk (Kd.R_elder' (by (with_reducible repeat (first | apply Kd.R_alloc | apply Kd.R_drewN | apply Kd.R_drew)); exact HO192.out) (Kd.R_base ho37) hb); have n1_ := Aside0.mk (Kd.R_below (by (with_reducible repeat (first | apply Kd.R_alloc | apply Kd.R_drewN | apply Kd.R_drew)); exact HO195.out) hb); have n2_ := Aside0.mk (Kd.R_elder' (by (with_reducible repeat (first | apply Kd.R_alloc | apply Kd.R_drewN | apply Kd.R_drew)); exact HO200.out) (Kd.R_base ho37) hb); have n3_ := Aside0.mk (Kd.R_lower (Kd.R_new' (Kd.R_new' ho37 (Kd.R_lt (by (with_reducible repeat (first | apply Kd.R_alloc | apply Kd.R_drewN | apply Kd.R_drew)); exact HO192.out))) (Kd.R_lt (by (with_reducible repeat (first | apply Kd.R_alloc | apply Kd.R_drewN | apply Kd.R_drew)); exact HO200.out))) (below_size (by repeat (first | (with_reducible first | exact HB.out | apply below_alloc | apply pw_below_drewN | apply below_drew1 | refine below_set ?_ GE197.out) | exact HB.out)))); have n4_ := Aside0.mk (blk_below (g := gb197) (o := .cells #[.slice Ao31 t190.length co31, .slice Ao33 t193.length co33] 25 (0, 0)) (by (with_reducible repeat (first | refine blk_drewN ?_ _ | refine blk_drew ?_ | refine blk_alloc ?_ _)); exact BK197.out) hb); have n5_ := Aside0.mk (below_step (by repeat (first | (with_reducible first | exact HB.out | apply below_alloc | apply pw_below_drewN | apply below_drew1 | refine below_set ?_ GE197.out) | exact HB.out)) hb); clear HO192; clear HO195; clear HO200; clear BK197; clear HB; have HO192 := n0_; have HO195 := n1_; have HO200 := n2_; have HO205 := n3_; have BK197 := n4_; have HB := n5_; clear n0_ n1_ n2_ n3_ n4_ n5_; clear hb ho37; obtain ⟨Ao38, co38, eo38⟩ := Kd.R_slice HO205.out; subst eo38) | ((with_reducible refine gate_callee (f := 21) rfl ?_); refine goesL_ (some 38) rfl rfl Try.func21 (by kernel_rfl) rfl #[.agg #[.slice Ao31 t190.length co31, .slice Ao33 t193.length co33], .slice Ao38 y203.length co38, .int .i64 (-1)] rfl (by (try simp only [List.map_toArray, List.map_cons, List.map_nil]); first | done | rfl | (simp only [List.length_drop, List.length_take]; rfl)) ?_; (with_reducible refine (slot_Save.calls _ _ t190 _ _ t193 _ _ y203 (-1) t206 t209 true t213 _ ?side1 ?side2 ?side3 ?side4 ?side5 ?side6 A3.out).mono ?_); (case side1 => repeat (first | exact (Kd.R_reads' HO192.out).2.2 | (with_reducible refine Kd.C_alloc ?_ _) | (with_reducible refine Kd.C_drewN ?_ _) | (with_reducible refine Kd.C_drew ?_))); (case side2 => exact (Kd.R_reads' HO192.out).2.1); (case side3 => repeat (first | exact (Kd.R_reads' HO195.out).2.2 | (with_reducible refine Kd.C_alloc ?_ _) | (with_reducible refine Kd.C_drewN ?_ _) | (with_reducible refine Kd.C_drew ?_))); (case side4 => exact (Kd.R_reads' HO195.out).2.1); (case side5 => repeat (first | exact (Kd.R_reads' HO205.out).2.2 | (with_reducible refine Kd.C_alloc ?_ _) | (with_reducible refine Kd.C_drewN ?_ _) | (with_reducible refine Kd.C_drew ?_))); (case side6 => exact (Kd.R_reads' HO205.out).2.1); rintro e w39 ⟨v207, v210, rfl, ho0, ho1, hb⟩; refine ⟨_, rfl, ?_⟩; have n0_ := Aside0.mk (Kd.R_elder' (by (with_reducible repeat (first | apply Kd.R_alloc | apply Kd.R_drewN | apply Kd.R_drew)); exact HO192.out) (Kd.R_base ho0) hb); have n1_ := Aside0.mk (Kd.R_elder' (by (with_reducible repeat (first | apply Kd.R_alloc | apply Kd.R_drewN | apply Kd.R_drew)); exact HO195.out) (Kd.R_base ho1) hb); have n2_ := Aside0.mk (Kd.R_elder' (by (with_reducible repeat (first | apply Kd.R_alloc | apply Kd.R_drewN | apply Kd.R_drew)); exact HO200.out) (Kd.R_base ho0) hb); have n3_ := Aside0.mk (Kd.R_elder' (by (with_reducible repeat (first | apply Kd.R_alloc | apply Kd.R_drewN | apply Kd.R_drew)); exact HO205.out) (Kd.R_base ho0) hb); have n4_ := Aside0.mk (Kd.R_lower (Kd.R_new' (Kd.R_new' (Kd.R_new' ho0 (Kd.R_lt (by (with_reducible repeat (first | apply Kd.R_alloc | apply Kd.R_drewN | apply Kd.R_drew)); exact HO192.out))) (Kd.R_lt (by (with_reducible repeat (first | apply Kd.R_alloc | apply Kd.R_drewN | apply Kd.R_drew)); exact HO200.out))) (Kd.R_lt (by (with_reducible repeat (first | apply Kd.R_alloc | apply Kd.R_drewN | apply Kd.R_drew)); exact HO205.out))) (below_size (by repeat (first | (with_reducible first | exact HB.out | apply below_alloc | apply pw_below_drewN | apply below_drew1 | refine below_set ?_ GE197.out) | exact HB.out)))); have n5_ := Aside0.mk (Kd.R_lower (Kd.R_new' ho1 (Kd.R_lt (by (with_reducible repeat (first | apply Kd.R_alloc | apply Kd.R_drewN | apply Kd.R_drew)); exact HO195.out))) (below_size (by repeat (first | (with_reducible first | exact HB.out | apply below_alloc | apply pw_below_drewN | apply below_drew1 | refine below_set ?_ GE197.out) | exact HB.out)))); have n6_ := Aside0.mk (blk_below (g := gb197) (o := .cells #[.slice Ao31 t190.length co31, .slice Ao33 t193.length co33] 25 (0, 0)) (by (with_reducible repeat (first | refine blk_drewN ?_ _ | refine blk_drew ?_ | refine blk_alloc ?_ _)); exact BK197.out) hb); have n7_ := Aside0.mk (below_step (by repeat (first | (with_reducible first | exact HB.out | apply below_alloc | apply pw_below_drewN | apply below_drew1 | refine below_set ?_ GE197.out) | exact HB.out)) hb); clear HO192; clear HO195; clear HO200; clear HO205; clear BK197; clear HB; have HO192 := n0_; have HO195 := n1_; have HO200 := n2_; have HO205 := n3_; have HO208 := n4_; have HO211 := n5_; have BK197 := n6_; have HB := n7_; clear n0_ n1_ n2_ n3_ n4_ n5_ n6_ n7_; (try clear hb); (try clear hb2); (try clear hk); (try clear hi); (try clear ho0); (try clear ho1)) | ((with_reducible refine gate_dst (N := 6) rfl ?_); (try (refine gate_guard (by rfl) ?_; dsimp only)); refine box_event ?hg (N := 6) ?hd (cs := #[.slice none 0 0, .slice none 0 0]) (t := 25) ?hr ?_; (case hd => rfl); (case hg => rfl); (case hr => first | (go_simp; done) | (go_simp; rfl)); intro gb214 hg w40 hbox hb; have n0_ := Aside0.mk (Kd.R_below (by (with_reducible repeat (first | apply Kd.R_alloc | apply Kd.R_drewN | apply Kd.R_drew)); exact HO192.out) hb); have n1_ := Aside0.mk (Kd.R_below (by (with_reducible repeat (first | apply Kd.R_alloc | apply Kd.R_drewN | apply Kd.R_drew)); exact HO195.out) hb); have n2_ := Aside0.mk (Kd.R_below (by (with_reducible repeat (first | apply Kd.R_alloc | apply Kd.R_drewN | apply Kd.R_drew)); exact HO200.out) hb); have n3_ := Aside0.mk (Kd.R_below (by (with_reducible repeat (first | apply Kd.R_alloc | apply Kd.R_drewN | apply Kd.R_drew)); exact HO205.out) hb); have n4_ := Aside0.mk (Kd.R_below (by (with_reducible repeat (first | apply Kd.R_alloc | apply Kd.R_drewN | apply Kd.R_drew)); exact HO208.out) hb); have n5_ := Aside0.mk (Kd.R_below (by (with_reducible repeat (first | apply Kd.R_alloc | apply Kd.R_drewN | apply Kd.R_drew)); exact HO211.out) hb); have n6_ := Aside0.mk (blk_below (g := gb197) (o := .cells #[.slice Ao31 t190.length co31, .slice Ao33 t193.length co33] 25 (0, 0)) (by (with_reducible repeat (first | refine blk_drewN ?_ _ | refine blk_drew ?_ | refine blk_alloc ?_ _)); exact BK197.out) hb); have n7_ := Aside0.mk (below_step (by repeat (first | (with_reducible first | exact HB.out | apply below_alloc | apply pw_below_drewN | apply below_drew1 | refine below_set ?_ GE197.out) | exact HB.out)) hb); have n8_ := Aside0.mk (hbox); have n9_ := Aside0.mk ((by rw [hg]; exact (below_size (by repeat (first | (with_reducible first | exact HB.out | apply below_alloc | apply pw_below_drewN | apply below_drew1 | refine below_set ?_ GE197.out) | exact HB.out))) : w.heap.size ≤ gb214)); have n10_ := Aside0.mk ((by rw [hg]; exact (below_size (by repeat (first | (with_reducible first | exact HB.out | apply below_alloc | apply pw_below_drewN | apply below_drew1 | refine below_set ?_ GE197.out) | exact HB.out))) : w.heap.size ≤ gb214)); have n11_ := Aside0.mk ((by rw [hg]; exact Nat.ne_of_lt (blk_lt (g := gb197) (o := .cells #[.slice Ao31 t190.length co31, .slice Ao33 t193.length co33] 25 (0, 0)) (by (with_reducible repeat (first | refine blk_drewN ?_ _ | refine blk_drew ?_ | refine blk_alloc ?_ _)); exact BK197.out)) : gb197 ≠ gb214)); have n12_ := Aside0.mk ((by rw [hg]; exact Nat.ne_of_gt (blk_lt (g := gb197) (o := .cells #[.slice Ao31 t190.length co31, .slice Ao33 t193.length co33] 25 (0, 0)) (by (with_reducible repeat (first | refine blk_drewN ?_ _ | refine blk_drew ?_ | refine blk_alloc ?_ _)); exact BK197.out)) : gb214 ≠ gb197)); clear HO192; clear HO195; clear HO200; clear HO205; clear HO208; clear HO211; clear BK197; clear HB; have HO192 := n0_; have HO195 := n1_; have HO200 := n2_; have HO205 := n3_; have HO208 := n4_; have HO211 := n5_; have BK197 := n6_; have HB := n7_; have BK214 := n8_; have GW214 := n9_; have GE214 := n10_; have NB197_214 := n11_; have NB214_197 := n12_; clear n0_ n1_ n2_ n3_ n4_ n5_ n6_ n7_ n8_ n9_ n10_ n11_ n12_; clear hb hbox hg; obtain ⟨Ao41, co41, eo41⟩ := Kd.R_slice HO208.out; subst eo41; have hnb42 := NB214_197.out; have hnc42 := NB197_214.out; have hcz43_0 : w40.cell? ⟨gb214, 0, none⟩ = some (.slice none 0 0) := (blk_cell BK214.out 0).trans rfl; have hcz43_1 : w40.cell? ⟨gb214, 1, none⟩ = some (.slice none 0 0) := (blk_cell BK214.out 1).trans rfl; have hfz43_0 := blk_frozen BK214.out 0; have hfz43_1 := blk_frozen BK214.out 1; obtain ⟨Ao44, co44, eo44⟩ := Kd.R_slice HO211.out; subst eo44) | ((with_reducible refine gate_callee (f := 20) rfl ?_); refine goesL_ (some 44) rfl rfl Try.func20 (by kernel_rfl) rfl #[.agg #[.slice Ao41 t206.length co41, .slice Ao44 t209.length co44]] rfl (by (try simp only [List.map_toArray, List.map_cons, List.map_nil]); first | done | rfl | (simp only [List.length_drop, List.length_take]; rfl)) ?_; (with_reducible refine (slot_Load.calls _ _ t206 _ _ t209 t215 t218 t219 _ ?side1 ?side2 ?side3 ?side4 A4.out).mono ?_); (case side1 => refine (Kd.R_reads' (e := 9) (base := w.heap.size) (ok := fun k_ => (((True ∧ some k_ ≠ (.slice Ao31 t190.length co31 : Value).ownBlock) ∧ some k_ ≠ (v199 : Value).ownBlock) ∧ some k_ ≠ (.slice Ao38 y203.length co38 : Value).ownBlock)) (n := t206.length) (c := co41) ?_).2.2; exact (by (with_reducible repeat (first | apply Kd.R_alloc | apply Kd.R_drewN | apply Kd.R_drew)); exact (Kd.R_mono (Kd.R_far (p := ⟨gb214, 1, none⟩) (Kd.R_far (p := ⟨gb214, 0, none⟩) (Kd.R_types HO208.out BK214.out (by decide)) (fun _ hk => hk.2) (.slice Ao41 t206.length co41)) (fun _ hk => hk.2) (.slice Ao44 t209.length co44)) (fun _ h_ => h_.1)))); (case side2 => exact (Kd.R_reads' HO208.out).2.1); (case side3 => refine (Kd.R_reads' (e := 73) (base := w.heap.size) (ok := fun k_ => (True ∧ some k_ ≠ (.slice Ao33 t193.length co33 : Value).ownBlock)) (n := t209.length) (c := co44) ?_).2.2; exact (by (with_reducible repeat (first | apply Kd.R_alloc | apply Kd.R_drewN | apply Kd.R_drew)); exact (Kd.R_mono (Kd.R_far (p := ⟨gb214, 1, none⟩) (Kd.R_far (p := ⟨gb214, 0, none⟩) (Kd.R_types HO211.out BK214.out (by decide)) (fun _ hk => hk.2) (.slice Ao41 t206.length co41)) (fun _ hk => hk.2) (.slice Ao44 t209.length co44)) (fun _ h_ => h_.1)))); (case side4 => exact (Kd.R_reads' HO211.out).2.1); rintro e w45 ⟨v216, rfl, ho0, hb⟩; refine ⟨_, rfl, ?_⟩; have n0_ := Aside0.mk (Kd.R_elder' (by (with_reducible repeat (first | apply Kd.R_alloc | apply Kd.R_drewN | apply Kd.R_drew)); exact (Kd.R_mono (Kd.R_far (p := ⟨gb214, 1, none⟩) (Kd.R_far (p := ⟨gb214, 0, none⟩) (Kd.R_types HO192.out BK214.out (by decide)) (fun _ hk => hk.2) (.slice Ao41 t206.length co41)) (fun _ hk => hk.2) (.slice Ao44 t209.length co44)) (fun _ h_ => h_.1))) (Kd.R_base ho0) hb); have n1_ := Aside0.mk (Kd.R_below (by (with_reducible repeat (first | apply Kd.R_alloc | apply Kd.R_drewN | apply Kd.R_drew)); exact (Kd.R_mono (Kd.R_far (p := ⟨gb214, 1, none⟩) (Kd.R_far (p := ⟨gb214, 0, none⟩) (Kd.R_types HO195.out BK214.out (by decide)) (fun _ hk => hk.2) (.slice Ao41 t206.length co41)) (fun _ hk => hk.2) (.slice Ao44 t209.length co44)) (fun _ h_ => h_.1))) hb); have n2_ := Aside0.mk (Kd.R_elder' (by (with_reducible repeat (first | apply Kd.R_alloc | apply Kd.R_drewN | apply Kd.R_drew)); exact (Kd.R_mono (Kd.R_far (p := ⟨gb214, 1, none⟩) (Kd.R_far (p := ⟨gb214, 0, none⟩) (Kd.R_types HO200.out BK214.out (by decide)) (fun _ hk => hk.2) (.slice Ao41 t206.length co41)) (fun _ hk => hk.2) (.slice Ao44 t209.length co44)) (fun _ h_ => h_.1))) (Kd.R_base ho0) hb); have n3_ := Aside0.mk (Kd.R_elder' (by (with_reducible repeat (first | apply Kd.R_alloc | apply Kd.R_drewN | apply Kd.R_drew)); exact (Kd.R_mono (Kd.R_far (p := ⟨gb214, 1, none⟩) (Kd.R_far (p := ⟨gb214, 0, none⟩) (Kd.R_types HO205.out BK214.out (by decide)) (fun _ hk => hk.2) (.slice Ao41 t206.length co41)) (fun _ hk => hk.2) (.slice Ao44 t209.length co44)) (fun _ h_ => h_.1))) (Kd.R_base ho0) hb); have n4_ := Aside0.mk (Kd.R_elder' (by (with_reducible repeat (first | apply Kd.R_alloc | apply Kd.R_drewN | apply Kd.R_drew)); exact (Kd.R_mono (Kd.R_far (p := ⟨gb214, 1, none⟩) (Kd.R_far (p := ⟨gb214, 0, none⟩) (Kd.R_types HO208.out BK214.out (by decide)) (fun _ hk => hk.2) (.slice Ao41 t206.length co41)) (fun _ hk => hk.2) (.slice Ao44 t209.length co44)) (fun _ h_ => h_.1))) (Kd.R_base ho0) hb); have n5_ := Aside0.mk (Kd.R_below (by (with_reducible repeat (first | apply Kd.R_alloc | apply Kd.R_drewN | apply Kd.R_drew)); exact (Kd.R_mono (Kd.R_far (p := ⟨gb214, 1, none⟩) (Kd.R_far (p := ⟨gb214, 0, none⟩) (Kd.R_types HO211.out BK214.out (by decide)) (fun _ hk => hk.2) (.slice Ao41 t206.length co41)) (fun _ hk => hk.2) (.slice Ao44 t209.length co44)) (fun _ h_ => h_.1))) hb); have n6_ := Aside0.mk (Kd.R_lower (Kd.R_new' (Kd.R_new' (Kd.R_new' (Kd.R_new' ho0 (Kd.R_lt (by (with_reducible repeat (first | apply Kd.R_alloc | apply Kd.R_drewN | apply Kd.R_drew)); exact (Kd.R_mono (Kd.R_far (p := ⟨gb214, 1, none⟩) (Kd.R_far (p := ⟨gb214, 0, none⟩) (Kd.R_types HO192.out BK214.out (by decide)) (fun _ hk => hk.2) (.slice Ao41 t206.length co41)) (fun _ hk => hk.2) (.slice Ao44 t209.length co44)) (fun _ h_ => h_.1))))) (Kd.R_lt (by (with_reducible repeat (first | apply Kd.R_alloc | apply Kd.R_drewN | apply Kd.R_drew)); exact (Kd.R_mono (Kd.R_far (p := ⟨gb214, 1, none⟩) (Kd.R_far (p := ⟨gb214, 0, none⟩) (Kd.R_types HO200.out BK214.out (by decide)) (fun _ hk => hk.2) (.slice Ao41 t206.length co41)) (fun _ hk => hk.2) (.slice Ao44 t209.length co44)) (fun _ h_ => h_.1))))) (Kd.R_lt (by (with_reducible repeat (first | apply Kd.R_alloc | apply Kd.R_drewN | apply Kd.R_drew)); exact (Kd.R_mono (Kd.R_far (p := ⟨gb214, 1, none⟩) (Kd.R_far (p := ⟨gb214, 0, none⟩) (Kd.R_types HO205.out BK214.out (by decide)) (fun _ hk => hk.2) (.slice Ao41 t206.length co41)) (fun _ hk => hk.2) (.slice Ao44 t209.length co44)) (fun _ h_ => h_.1))))) (Kd.R_lt (by (with_reducible repeat (first | apply Kd.R_alloc | apply Kd.R_drewN | apply Kd.R_drew)); exact (Kd.R_mono (Kd.R_far (p := ⟨gb214, 1, none⟩) (Kd.R_far (p := ⟨gb214, 0, none⟩) (Kd.R_types HO208.out BK214.out (by decide)) (fun _ hk => hk.2) (.slice Ao41 t206.length co41)) (fun _ hk => hk.2) (.slice Ao44 t209.length co44)) (fun _ h_ => h_.1))))) (below_size (by repeat (first | (with_reducible first | exact HB.out | apply below_alloc | apply pw_below_drewN | apply below_drew1 | refine below_set ?_ GE197.out | refine below_set ?_ GE214.out) | exact HB.out)))); have n7_ := Aside0.mk (blk_below (g := gb197) (o := .cells #[.slice Ao31 t190.length co31, .slice Ao33 t193.length co33] 25 (0, 0)) (by (with_reducible repeat (first | refine blk_drewN ?_ _ | refine blk_drew ?_ | refine blk_alloc ?_ _)); refine blk_far ?_ NB197_214.out _; (with_reducible repeat (first | refine blk_drewN ?_ _ | refine blk_drew ?_ | refine blk_alloc ?_ _)); refine blk_far ?_ NB197_214.out _; (with_reducible repeat (first | refine blk_drewN ?_ _ | refine blk_drew ?_ | refine blk_alloc ?_ _)); exact BK197.out) hb); have n8_ := Aside0.mk (blk_below (g := gb214) (o := .cells #[.slice Ao41 t206.length co41, .slice Ao44 t209.length co44] 25 (0, 0)) (by (with_reducible repeat (first | refine blk_drewN ?_ _ | refine blk_drew ?_ | refine blk_alloc ?_ _)); refine blk_put (cs := #[.slice Ao41 t206.length co41, .slice none 0 0]) ?_ 1 _ rfl; (with_reducible repeat (first | refine blk_drewN ?_ _ | refine blk_drew ?_ | refine blk_alloc ?_ _)); refine blk_put (cs := #[.slice none 0 0, .slice none 0 0]) ?_ 0 _ rfl; (with_reducible repeat (first | refine blk_drewN ?_ _ | refine blk_drew ?_ | refine blk_alloc ?_ _)); exact BK214.out) hb); have n9_ := Aside0.mk (below_step (by repeat (first | (with_reducible first | exact HB.out | apply below_alloc | apply pw_below_drewN | apply below_drew1 | refine below_set ?_ GE197.out | refine below_set ?_ GE214.out) | exact HB.out)) hb); clear HO192; clear HO195; clear HO200; clear HO205; clear HO208; clear HO211; clear BK197; clear BK214; clear HB; have HO192 := n0_; have HO195 := n1_; have HO200 := n2_; have HO205 := n3_; have HO208 := n4_; have HO211 := n5_; have HO217 := n6_; have BK197 := n7_; have BK214 := n8_; have HB := n9_; clear n0_ n1_ n2_ n3_ n4_ n5_ n6_ n7_ n8_ n9_; (try clear hb); (try clear hb2); (try clear hk); (try clear hi); (try clear ho0); have hcz46_0 : w45.cell? ⟨gb214, 0, none⟩ = some (.slice Ao41 t206.length co41) := (blk_cell BK214.out 0).trans rfl; have hcz46_1 : w45.cell? ⟨gb214, 1, none⟩ = some (.slice Ao44 t209.length co44) := (blk_cell BK214.out 1).trans rfl; have hfz46_0 := blk_frozen BK214.out 0; have hfz46_1 := blk_frozen BK214.out 1) | ((with_reducible refine gate_callee (f := 23) rfl ?_); refine goesL_ (some 50) rfl rfl Try.func23 (by kernel_rfl) rfl #[.agg #[.slice Ao41 t206.length co41, .slice Ao44 t209.length co44]] rfl (by (try simp only [List.map_toArray, List.map_cons, List.map_nil]); first | done | rfl | (simp only [List.length_drop, List.length_take]; rfl)) ?_; (with_reducible refine (slot_Free.calls _ _ t206 _ _ t209 t220 t223 _ ?side1 ?side2 ?side3 ?side4 A5.out).mono ?_); (case side1 => repeat (first | exact (Kd.R_reads' HO208.out).2.2 | (with_reducible refine Kd.C_alloc ?_ _) | (with_reducible refine Kd.C_drewN ?_ _) | (with_reducible refine Kd.C_drew ?_))); (case side2 => exact (Kd.R_reads' HO208.out).2.1); (case side3 => repeat (first | exact (Kd.R_reads' HO211.out).2.2 | (with_reducible refine Kd.C_alloc ?_ _) | (with_reducible refine Kd.C_drewN ?_ _) | (with_reducible refine Kd.C_drew ?_))); (case side4 => exact (Kd.R_reads' HO211.out).2.1); rintro e w47 ⟨v221, rfl, ho0, hb⟩; refine ⟨_, rfl, ?_⟩; have n0_ := Aside0.mk (Kd.R_below (by (with_reducible repeat (first | apply Kd.R_alloc | apply Kd.R_drewN | apply Kd.R_drew)); exact HO192.out) hb); have n1_ := Aside0.mk (Kd.R_below (by (with_reducible repeat (first | apply Kd.R_alloc | apply Kd.R_drewN | apply Kd.R_drew)); exact HO195.out) hb); have n2_ := Aside0.mk (Kd.R_below (by (with_reducible repeat (first | apply Kd.R_alloc | apply Kd.R_drewN | apply Kd.R_drew)); exact HO200.out) hb); have n3_ := Aside0.mk (Kd.R_below (by (with_reducible repeat (first | apply Kd.R_alloc | apply Kd.R_drewN | apply Kd.R_drew)); exact HO205.out) hb); have n4_ := Aside0.mk (Kd.R_below (by (with_reducible repeat (first | apply Kd.R_alloc | apply Kd.R_drewN | apply Kd.R_drew)); exact HO208.out) hb); have n5_ := Aside0.mk (Kd.R_below (by (with_reducible repeat (first | apply Kd.R_alloc | apply Kd.R_drewN | apply Kd.R_drew)); exact HO211.out) hb); have n6_ := Aside0.mk (Kd.R_below (by (with_reducible repeat (first | apply Kd.R_alloc | apply Kd.R_drewN | apply Kd.R_drew)); exact HO217.out) hb); have n7_ := Aside0.mk (Kd.R_lower ho0 (below_size (by repeat (first | (with_reducible first | exact HB.out | apply below_alloc | apply pw_below_drewN | apply below_drew1 | refine below_set ?_ GE197.out | refine below_set ?_ GE214.out) | exact HB.out)))); have n8_ := Aside0.mk (blk_below (g := gb197) (o := .cells #[.slice Ao31 t190.length co31, .slice Ao33 t193.length co33] 25 (0, 0)) (by (with_reducible repeat (first | refine blk_drewN ?_ _ | refine blk_drew ?_ | refine blk_alloc ?_ _)); exact BK197.out) hb); have n9_ := Aside0.mk (blk_below (g := gb214) (o := .cells #[.slice Ao41 t206.length co41, .slice Ao44 t209.length co44] 25 (0, 0)) (by (with_reducible repeat (first | refine blk_drewN ?_ _ | refine blk_drew ?_ | refine blk_alloc ?_ _)); exact BK214.out) hb); have n10_ := Aside0.mk (below_step (by repeat (first | (with_reducible first | exact HB.out | apply below_alloc | apply pw_below_drewN | apply below_drew1 | refine below_set ?_ GE197.out | refine below_set ?_ GE214.out) | exact HB.out)) hb); clear HO192; clear HO195; clear HO200; clear HO205; clear HO208; clear HO211; clear HO217; clear BK197; clear BK214; clear HB; have HO192 := n0_; have HO195 := n1_; have HO200 := n2_; have HO205 := n3_; have HO208 := n4_; have HO211 := n5_; have HO217 := n6_; have HO222 := n7_; have BK197 := n8_; have BK214 := n9_; have HB := n10_; clear n0_ n1_ n2_ n3_ n4_ n5_ n6_ n7_ n8_ n9_ n10_; (try clear hb); (try clear hb2); (try clear hk); (try clear hi); (try clear ho0); have hcz48_0 : w47.cell? ⟨gb214, 0, none⟩ = some (.slice Ao41 t206.length co41) := (blk_cell BK214.out 0).trans rfl; have hcz48_1 : w47.cell? ⟨gb214, 1, none⟩ = some (.slice Ao44 t209.length co44) := (blk_cell BK214.out 1).trans rfl; have hfz48_0 := blk_frozen BK214.out 0; have hfz48_1 := blk_frozen BK214.out 1) | ((with_reducible refine gate_dst (N := 55) rfl ?_); (try (refine gate_guard (by rfl) ?_; dsimp only)); refine Kd.R_lit Kd.string _ 9 ?hg (N := 55) ?hd (xs := ([(⟨#[99]⟩ : ByteArray), (⟨#[100]⟩ : ByteArray)] : List ByteArray)) (inner := [.string (⟨#[99]⟩ : ByteArray), .string (⟨#[100]⟩ : ByteArray)]) (ok := fun _ => True) (okp := fun _ => True) ?hr ?hp (fun _ hk => hk) trivial (Below.refl _ _) (Nat.le_refl _) (by simp) ?_; (case hd => rfl); (case hg => rfl); (case hr => first | (go_simp; done) | (go_simp; rfl)); (case hp => exact (Reps.one (show Kd.M Kd.string _ _ _ (⟨#[99]⟩ : ByteArray) [.string (⟨#[99]⟩ : ByteArray)] from rfl) (Reps.one (show Kd.M Kd.string _ _ _ (⟨#[100]⟩ : ByteArray) [.string (⟨#[100]⟩ : ByteArray)] from rfl) (Reps.none _ _)))); intro v225 w49 ho50 hb hg_ hnew_; clear hg_ hnew_; (first | rw [← Ny224.out] at ho50 | (simp only [Int.reduceToNat] at ho50; rw [← Ny224.out] at ho50)); have n0_ := Aside0.mk (Kd.R_elder' (by (with_reducible repeat (first | apply Kd.R_alloc | apply Kd.R_drewN | apply Kd.R_drew)); exact HO192.out) (Kd.R_base ho50) hb); have n1_ := Aside0.mk (Kd.R_below (by (with_reducible repeat (first | apply Kd.R_alloc | apply Kd.R_drewN | apply Kd.R_drew)); exact HO195.out) hb); have n2_ := Aside0.mk (Kd.R_elder' (by (with_reducible repeat (first | apply Kd.R_alloc | apply Kd.R_drewN | apply Kd.R_drew)); exact HO200.out) (Kd.R_base ho50) hb); have n3_ := Aside0.mk (Kd.R_elder' (by (with_reducible repeat (first | apply Kd.R_alloc | apply Kd.R_drewN | apply Kd.R_drew)); exact HO205.out) (Kd.R_base ho50) hb); have n4_ := Aside0.mk (Kd.R_elder' (by (with_reducible repeat (first | apply Kd.R_alloc | apply Kd.R_drewN | apply Kd.R_drew)); exact HO208.out) (Kd.R_base ho50) hb); have n5_ := Aside0.mk (Kd.R_below (by (with_reducible repeat (first | apply Kd.R_alloc | apply Kd.R_drewN | apply Kd.R_drew)); exact HO211.out) hb); have n6_ := Aside0.mk (Kd.R_elder' (by (with_reducible repeat (first | apply Kd.R_alloc | apply Kd.R_drewN | apply Kd.R_drew)); exact HO217.out) (Kd.R_base ho50) hb); have n7_ := Aside0.mk (Kd.R_below (by (with_reducible repeat (first | apply Kd.R_alloc | apply Kd.R_drewN | apply Kd.R_drew)); exact HO222.out) hb); have n8_ := Aside0.mk (Kd.R_lower (Kd.R_new' (Kd.R_new' (Kd.R_new' (Kd.R_new' (Kd.R_new' ho50 (Kd.R_lt (by (with_reducible repeat (first | apply Kd.R_alloc | apply Kd.R_drewN | apply Kd.R_drew)); exact HO192.out))) (Kd.R_lt (by (with_reducible repeat (first | apply Kd.R_alloc | apply Kd.R_drewN | apply Kd.R_drew)); exact HO200.out))) (Kd.R_lt (by (with_reducible repeat (first | apply Kd.R_alloc | apply Kd.R_drewN | apply Kd.R_drew)); exact HO205.out))) (Kd.R_lt (by (with_reducible repeat (first | apply Kd.R_alloc | apply Kd.R_drewN | apply Kd.R_drew)); exact HO208.out))) (Kd.R_lt (by (with_reducible repeat (first | apply Kd.R_alloc | apply Kd.R_drewN | apply Kd.R_drew)); exact HO217.out))) (below_size (by repeat (first | (with_reducible first | exact HB.out | apply below_alloc | apply pw_below_drewN | apply below_drew1 | refine below_set ?_ GE197.out | refine below_set ?_ GE214.out) | exact HB.out)))); have n9_ := Aside0.mk (blk_below (g := gb197) (o := .cells #[.slice Ao31 t190.length co31, .slice Ao33 t193.length co33] 25 (0, 0)) (by (with_reducible repeat (first | refine blk_drewN ?_ _ | refine blk_drew ?_ | refine blk_alloc ?_ _)); exact BK197.out) hb); have n10_ := Aside0.mk (blk_below (g := gb214) (o := .cells #[.slice Ao41 t206.length co41, .slice Ao44 t209.length co44] 25 (0, 0)) (by (with_reducible repeat (first | refine blk_drewN ?_ _ | refine blk_drew ?_ | refine blk_alloc ?_ _)); exact BK214.out) hb); have n11_ := Aside0.mk (below_step (by repeat (first | (with_reducible first | exact HB.out | apply below_alloc | apply pw_below_drewN | apply below_drew1 | refine below_set ?_ GE197.out | refine below_set ?_ GE214.out) | exact HB.out)) hb); clear HO192; clear HO195; clear HO200; clear HO205; clear HO208; clear HO211; clear HO217; clear HO222; clear BK197; clear BK214; clear HB; have HO192 := n0_; have HO195 := n1_; have HO200 := n2_; have HO205 := n3_; have HO208 := n4_; have HO211 := n5_; have HO217 := n6_; have HO222 := n7_; have HO226 := n8_; have BK197 := n9_; have BK214 := n10_; have HB := n11_; clear n0_ n1_ n2_ n3_ n4_ n5_ n6_ n7_ n8_ n9_ n10_ n11_; clear hb ho50; obtain ⟨Ao51, co51, eo51⟩ := Kd.R_slice HO226.out; subst eo51) | ((with_reducible refine gate_callee (f := 21) rfl ?_); refine goesL_ (some 56) rfl rfl Try.func21 (by kernel_rfl) rfl #[.agg #[.slice Ao41 t206.length co41, .slice Ao44 t209.length co44], .slice Ao51 y224.length co51, .int .i64 (-1)] rfl (by (try simp only [List.map_toArray, List.map_cons, List.map_nil]); first | done | rfl | (simp only [List.length_drop, List.length_take]; rfl)) ?_; (with_reducible refine (slot_Save.calls _ _ t206 _ _ t209 _ _ y224 (-1) t227 t230 t233 t234 _ ?side1 ?side2 ?side3 ?side4 ?side5 ?side6 A6.out).mono ?_); (case side1 => repeat (first | exact (Kd.R_reads' HO208.out).2.2 | (with_reducible refine Kd.C_alloc ?_ _) | (with_reducible refine Kd.C_drewN ?_ _) | (with_reducible refine Kd.C_drew ?_))); (case side2 => exact (Kd.R_reads' HO208.out).2.1); (case side3 => repeat (first | exact (Kd.R_reads' HO211.out).2.2 | (with_reducible refine Kd.C_alloc ?_ _) | (with_reducible refine Kd.C_drewN ?_ _) | (with_reducible refine Kd.C_drew ?_))); (case side4 => exact (Kd.R_reads' HO211.out).2.1); (case side5 => repeat (first | exact (Kd.R_reads' HO226.out).2.2 | (with_reducible refine Kd.C_alloc ?_ _) | (with_reducible refine Kd.C_drewN ?_ _) | (with_reducible refine Kd.C_drew ?_))); (case side6 => exact (Kd.R_reads' HO226.out).2.1); rintro e w52 ⟨v228, v231, rfl, ho0, ho1, hb⟩; refine ⟨_, rfl, ?_⟩; have n0_ := Aside0.mk (Kd.R_elder' (by (with_reducible repeat (first | apply Kd.R_alloc | apply Kd.R_drewN | apply Kd.R_drew)); exact HO192.out) (Kd.R_base ho0) hb); have n1_ := Aside0.mk (Kd.R_elder' (by (with_reducible repeat (first | apply Kd.R_alloc | apply Kd.R_drewN | apply Kd.R_drew)); exact HO195.out) (Kd.R_base ho1) hb); have n2_ := Aside0.mk (Kd.R_elder' (by (with_reducible repeat (first | apply Kd.R_alloc | apply Kd.R_drewN | apply Kd.R_drew)); exact HO200.out) (Kd.R_base ho0) hb); have n3_ := Aside0.mk (Kd.R_elder' (by (with_reducible repeat (first | apply Kd.R_alloc | apply Kd.R_drewN | apply Kd.R_drew)); exact HO205.out) (Kd.R_base ho0) hb); have n4_ := Aside0.mk (Kd.R_elder' (by (with_reducible repeat (first | apply Kd.R_alloc | apply Kd.R_drewN | apply Kd.R_drew)); exact HO208.out) (Kd.R_base ho0) hb); have n5_ := Aside0.mk (Kd.R_elder' (by (with_reducible repeat (first | apply Kd.R_alloc | apply Kd.R_drewN | apply Kd.R_drew)); exact HO211.out) (Kd.R_base ho1) hb); have n6_ := Aside0.mk (Kd.R_elder' (by (with_reducible repeat (first | apply Kd.R_alloc | apply Kd.R_drewN | apply Kd.R_drew)); exact HO217.out) (Kd.R_base ho0) hb); have n7_ := Aside0.mk (Kd.R_below (by (with_reducible repeat (first | apply Kd.R_alloc | apply Kd.R_drewN | apply Kd.R_drew)); exact HO222.out) hb); have n8_ := Aside0.mk (Kd.R_elder' (by (with_reducible repeat (first | apply Kd.R_alloc | apply Kd.R_drewN | apply Kd.R_drew)); exact HO226.out) (Kd.R_base ho0) hb); have n9_ := Aside0.mk (Kd.R_lower (Kd.R_new' (Kd.R_new' (Kd.R_new' (Kd.R_new' (Kd.R_new' (Kd.R_new' ho0 (Kd.R_lt (by (with_reducible repeat (first | apply Kd.R_alloc | apply Kd.R_drewN | apply Kd.R_drew)); exact HO192.out))) (Kd.R_lt (by (with_reducible repeat (first | apply Kd.R_alloc | apply Kd.R_drewN | apply Kd.R_drew)); exact HO200.out))) (Kd.R_lt (by (with_reducible repeat (first | apply Kd.R_alloc | apply Kd.R_drewN | apply Kd.R_drew)); exact HO205.out))) (Kd.R_lt (by (with_reducible repeat (first | apply Kd.R_alloc | apply Kd.R_drewN | apply Kd.R_drew)); exact HO208.out))) (Kd.R_lt (by (with_reducible repeat (first | apply Kd.R_alloc | apply Kd.R_drewN | apply Kd.R_drew)); exact HO217.out))) (Kd.R_lt (by (with_reducible repeat (first | apply Kd.R_alloc | apply Kd.R_drewN | apply Kd.R_drew)); exact HO226.out))) (below_size (by repeat (first | (with_reducible first | exact HB.out | apply below_alloc | apply pw_below_drewN | apply below_drew1 | refine below_set ?_ GE197.out | refine below_set ?_ GE214.out) | exact HB.out)))); have n10_ := Aside0.mk (Kd.R_lower (Kd.R_new' (Kd.R_new' ho1 (Kd.R_lt (by (with_reducible repeat (first | apply Kd.R_alloc | apply Kd.R_drewN | apply Kd.R_drew)); exact HO195.out))) (Kd.R_lt (by (with_reducible repeat (first | apply Kd.R_alloc | apply Kd.R_drewN | apply Kd.R_drew)); exact HO211.out))) (below_size (by repeat (first | (with_reducible first | exact HB.out | apply below_alloc | apply pw_below_drewN | apply below_drew1 | refine below_set ?_ GE197.out | refine below_set ?_ GE214.out) | exact HB.out)))); have n11_ := Aside0.mk (blk_below (g := gb197) (o := .cells #[.slice Ao31 t190.length co31, .slice Ao33 t193.length co33] 25 (0, 0)) (by (with_reducible repeat (first | refine blk_drewN ?_ _ | refine blk_drew ?_ | refine blk_alloc ?_ _)); exact BK197.out) hb); have n12_ := Aside0.mk (blk_below (g := gb214) (o := .cells #[.slice Ao41 t206.length co41, .slice Ao44 t209.length co44] 25 (0, 0)) (by (with_reducible repeat (first | refine blk_drewN ?_ _ | refine blk_drew ?_ | refine blk_alloc ?_ _)); exact BK214.out) hb); have n13_ := Aside0.mk (below_step (by repeat (first | (with_reducible first | exact HB.out | apply below_alloc | apply pw_below_drewN | apply below_drew1 | refine below_set ?_ GE197.out | refine below_set ?_ GE214.out) | exact HB.out)) hb); clear HO192; clear HO195; clear HO200; clear HO205; clear HO208; clear HO211; clear HO217; clear HO222; clear HO226; clear BK197; clear BK214; clear HB; have HO192 := n0_; have HO195 := n1_; have HO200 := n2_; have HO205 := n3_; have HO208 := n4_; have HO211 := n5_; have HO217 := n6_; have HO222 := n7_; have HO226 := n8_; have HO229 := n9_; have HO232 := n10_; have BK197 := n11_; have BK214 := n12_; have HB := n13_; clear n0_ n1_ n2_ n3_ n4_ n5_ n6_ n7_ n8_ n9_ n10_ n11_ n12_ n13_; (try clear hb); (try clear hb2); (try clear hk); (try clear hi); (try clear ho0); (try clear ho1)) | ((with_reducible refine gate_dst (N := 14) rfl ?_); (try (refine gate_guard (by rfl) ?_; dsimp only)); refine box_event ?hg (N := 14) ?hd (cs := #[.slice none 0 0, .slice none 0 0]) (t := 25) ?hr ?_; (case hd => rfl); (case hg => rfl); (case hr => first | (go_simp; done) | (go_simp; rfl)); intro gb235 hg w53 hbox hb; have n0_ := Aside0.mk (Kd.R_below (by (with_reducible repeat (first | apply Kd.R_alloc | apply Kd.R_drewN | apply Kd.R_drew)); exact HO192.out) hb); have n1_ := Aside0.mk (Kd.R_below (by (with_reducible repeat (first | apply Kd.R_alloc | apply Kd.R_drewN | apply Kd.R_drew)); exact HO195.out) hb); have n2_ := Aside0.mk (Kd.R_below (by (with_reducible repeat (first | apply Kd.R_alloc | apply Kd.R_drewN | apply Kd.R_drew)); exact HO200.out) hb); have n3_ := Aside0.mk (Kd.R_below (by (with_reducible repeat (first | apply Kd.R_alloc | apply Kd.R_drewN | apply Kd.R_drew)); exact HO205.out) hb); have n4_ := Aside0.mk (Kd.R_below (by (with_reducible repeat (first | apply Kd.R_alloc | apply Kd.R_drewN | apply Kd.R_drew)); exact HO208.out) hb); have n5_ := Aside0.mk (Kd.R_below (by (with_reducible repeat (first | apply Kd.R_alloc | apply Kd.R_drewN | apply Kd.R_drew)); exact HO211.out) hb); have n6_ := Aside0.mk (Kd.R_below (by (with_reducible repeat (first | apply Kd.R_alloc | apply Kd.R_drewN | apply Kd.R_drew)); exact HO217.out) hb); have n7_ := Aside0.mk (Kd.R_below (by (with_reducible repeat (first | apply Kd.R_alloc | apply Kd.R_drewN | apply Kd.R_drew)); exact HO222.out) hb); have n8_ := Aside0.mk (Kd.R_below (by (with_reducible repeat (first | apply Kd.R_alloc | apply Kd.R_drewN | apply Kd.R_drew)); exact HO226.out) hb); have n9_ := Aside0.mk (Kd.R_below (by (with_reducible repeat (first | apply Kd.R_alloc | apply Kd.R_drewN | apply Kd.R_drew)); exact HO229.out) hb); have n10_ := Aside0.mk (Kd.R_below (by (with_reducible repeat (first | apply Kd.R_alloc | apply Kd.R_drewN | apply Kd.R_drew)); exact HO232.out) hb); have n11_ := Aside0.mk (blk_below (g := gb197) (o := .cells #[.slice Ao31 t190.length co31, .slice Ao33 t193.length co33] 25 (0, 0)) (by (with_reducible repeat (first | refine blk_drewN ?_ _ | refine blk_drew ?_ | refine blk_alloc ?_ _)); exact BK197.out) hb); have n12_ := Aside0.mk (blk_below (g := gb214) (o := .cells #[.slice Ao41 t206.length co41, .slice Ao44 t209.length co44] 25 (0, 0)) (by (with_reducible repeat (first | refine blk_drewN ?_ _ | refine blk_drew ?_ | refine blk_alloc ?_ _)); exact BK214.out) hb); have n13_ := Aside0.mk (below_step (by repeat (first | (with_reducible first | exact HB.out | apply below_alloc | apply pw_below_drewN | apply below_drew1 | refine below_set ?_ GE197.out | refine below_set ?_ GE214.out) | exact HB.out)) hb); have n14_ := Aside0.mk (hbox); have n15_ := Aside0.mk ((by rw [hg]; exact (below_size (by repeat (first | (with_reducible first | exact HB.out | apply below_alloc | apply pw_below_drewN | apply below_drew1 | refine below_set ?_ GE197.out | refine below_set ?_ GE214.out) | exact HB.out))) : w.heap.size ≤ gb235)); have n16_ := Aside0.mk ((by rw [hg]; exact (below_size (by repeat (first | (with_reducible first | exact HB.out | apply below_alloc | apply pw_below_drewN | apply below_drew1 | refine below_set ?_ GE197.out | refine below_set ?_ GE214.out) | exact HB.out))) : w.heap.size ≤ gb235)); have n17_ := Aside0.mk ((by rw [hg]; exact Nat.ne_of_lt (blk_lt (g := gb197) (o := .cells #[.slice Ao31 t190.length co31, .slice Ao33 t193.length co33] 25 (0, 0)) (by (with_reducible repeat (first | refine blk_drewN ?_ _ | refine blk_drew ?_ | refine blk_alloc ?_ _)); exact BK197.out)) : gb197 ≠ gb235)); have n18_ := Aside0.mk ((by rw [hg]; exact Nat.ne_of_gt (blk_lt (g := gb197) (o := .cells #[.slice Ao31 t190.length co31, .slice Ao33 t193.length co33] 25 (0, 0)) (by (with_reducible repeat (first | refine blk_drewN ?_ _ | refine blk_drew ?_ | refine blk_alloc ?_ _)); exact BK197.out)) : gb235 ≠ gb197)); have n19_ := Aside0.mk ((by rw [hg]; exact Nat.ne_of_lt (blk_lt (g := gb214) (o := .cells #[.slice Ao41 t206.length co41, .slice Ao44 t209.length co44] 25 (0, 0)) (by (with_reducible repeat (first | refine blk_drewN ?_ _ | refine blk_drew ?_ | refine blk_alloc ?_ _)); exact BK214.out)) : gb214 ≠ gb235)); have n20_ := Aside0.mk ((by rw [hg]; exact Nat.ne_of_gt (blk_lt (g := gb214) (o := .cells #[.slice Ao41 t206.length co41, .slice Ao44 t209.length co44] 25 (0, 0)) (by (with_reducible repeat (first | refine blk_drewN ?_ _ | refine blk_drew ?_ | refine blk_alloc ?_ _)); exact BK214.out)) : gb235 ≠ gb214)); clear HO192; clear HO195; clear HO200; clear HO205; clear HO208; clear HO211; clear HO217; clear HO222; clear HO226; clear HO229; clear HO232; clear BK197; clear BK214; clear HB; have HO192 := n0_; have HO195 := n1_; have HO200 := n2_; have HO205 := n3_; have HO208 := n4_; have HO211 := n5_; have HO217 := n6_; have HO222 := n7_; have HO226 := n8_; have HO229 := n9_; have HO232 := n10_; have BK197 := n11_; have BK214 := n12_; have HB := n13_; have BK235 := n14_; have GW235 := n15_; have GE235 := n16_; have NB197_235 := n17_; have NB235_197 := n18_; have NB214_235 := n19_; have NB235_214 := n20_; clear n0_ n1_ n2_ n3_ n4_ n5_ n6_ n7_ n8_ n9_ n10_ n11_ n12_ n13_ n14_ n15_ n16_ n17_ n18_ n19_ n20_; clear hb hbox hg; obtain ⟨Ao54, co54, eo54⟩ := Kd.R_slice HO229.out; subst eo54; have hnb55 := NB235_197.out; have hnc55 := NB197_235.out; have hnb56 := NB235_214.out; have hnc56 := NB214_235.out; have hcz57_0 : w53.cell? ⟨gb235, 0, none⟩ = some (.slice none 0 0) := (blk_cell BK235.out 0).trans rfl; have hcz57_1 : w53.cell? ⟨gb235, 1, none⟩ = some (.slice none 0 0) := (blk_cell BK235.out 1).trans rfl; have hfz57_0 := blk_frozen BK235.out 0; have hfz57_1 := blk_frozen BK235.out 1; obtain ⟨Ao58, co58, eo58⟩ := Kd.R_slice HO232.out; subst eo58; have hcz59_0 : w53.cell? ⟨gb214, 0, none⟩ = some (.slice Ao41 t206.length co41) := (blk_cell BK214.out 0).trans rfl; have hcz59_1 : w53.cell? ⟨gb214, 1, none⟩ = some (.slice Ao44 t209.length co44) := (blk_cell BK214.out 1).trans rfl; have hfz59_0 := blk_frozen BK214.out 0; have hfz59_1 := blk_frozen BK214.out 1) | ((with_reducible refine gate_dst (N := 62) rfl ?_); (try (refine gate_guard (by rfl) ?_; dsimp only)); refine Kd.R_lit Kd.string _ 9 ?hg (N := 62) ?hd (xs := ([(⟨#[99]⟩ : ByteArray)] : List ByteArray)) (inner := [.string (⟨#[99]⟩ : ByteArray)]) (ok := fun _ => True) (okp := fun _ => True) ?hr ?hp (fun _ hk => hk) trivial (Below.refl _ _) (Nat.le_refl _) (by simp) ?_; (case hd => rfl); (case hg => rfl); (case hr => first | (go_simp; done) | (go_simp; rfl)); (case hp => exact (Reps.one (show Kd.M Kd.string _ _ _ (⟨#[99]⟩ : ByteArray) [.string (⟨#[99]⟩ : ByteArray)] from rfl) (Reps.none _ _))); intro v237 w60 ho61 hb hg_ hnew_; clear hg_ hnew_; (first | rw [← Ny236.out] at ho61 | (simp only [Int.reduceToNat] at ho61; rw [← Ny236.out] at ho61)); have n0_ := Aside0.mk (Kd.R_elder' (by (with_reducible repeat (first | apply Kd.R_alloc | apply Kd.R_drewN | apply Kd.R_drew)); exact (Kd.R_mono (Kd.R_far (p := ⟨gb235, 1, none⟩) (Kd.R_far (p := ⟨gb235, 0, none⟩) (Kd.R_types HO192.out BK235.out (by decide)) (fun _ hk => hk.2) (.slice Ao54 t227.length co54)) (fun _ hk => hk.2) (.slice Ao58 t230.length co58)) (fun _ h_ => h_.1))) (Kd.R_base ho61) hb); have n1_ := Aside0.mk (Kd.R_below (by (with_reducible repeat (first | apply Kd.R_alloc | apply Kd.R_drewN | apply Kd.R_drew)); exact (Kd.R_mono (Kd.R_far (p := ⟨gb235, 1, none⟩) (Kd.R_far (p := ⟨gb235, 0, none⟩) (Kd.R_types HO195.out BK235.out (by decide)) (fun _ hk => hk.2) (.slice Ao54 t227.length co54)) (fun _ hk => hk.2) (.slice Ao58 t230.length co58)) (fun _ h_ => h_.1))) hb); have n2_ := Aside0.mk (Kd.R_elder' (by (with_reducible repeat (first | apply Kd.R_alloc | apply Kd.R_drewN | apply Kd.R_drew)); exact (Kd.R_mono (Kd.R_far (p := ⟨gb235, 1, none⟩) (Kd.R_far (p := ⟨gb235, 0, none⟩) (Kd.R_types HO200.out BK235.out (by decide)) (fun _ hk => hk.2) (.slice Ao54 t227.length co54)) (fun _ hk => hk.2) (.slice Ao58 t230.length co58)) (fun _ h_ => h_.1))) (Kd.R_base ho61) hb); have n3_ := Aside0.mk (Kd.R_elder' (by (with_reducible repeat (first | apply Kd.R_alloc | apply Kd.R_drewN | apply Kd.R_drew)); exact (Kd.R_mono (Kd.R_far (p := ⟨gb235, 1, none⟩) (Kd.R_far (p := ⟨gb235, 0, none⟩) (Kd.R_types HO205.out BK235.out (by decide)) (fun _ hk => hk.2) (.slice Ao54 t227.length co54)) (fun _ hk => hk.2) (.slice Ao58 t230.length co58)) (fun _ h_ => h_.1))) (Kd.R_base ho61) hb); have n4_ := Aside0.mk (Kd.R_elder' (by (with_reducible repeat (first | apply Kd.R_alloc | apply Kd.R_drewN | apply Kd.R_drew)); exact (Kd.R_mono (Kd.R_far (p := ⟨gb235, 1, none⟩) (Kd.R_far (p := ⟨gb235, 0, none⟩) (Kd.R_types HO208.out BK235.out (by decide)) (fun _ hk => hk.2) (.slice Ao54 t227.length co54)) (fun _ hk => hk.2) (.slice Ao58 t230.length co58)) (fun _ h_ => h_.1))) (Kd.R_base ho61) hb); have n5_ := Aside0.mk (Kd.R_below (by (with_reducible repeat (first | apply Kd.R_alloc | apply Kd.R_drewN | apply Kd.R_drew)); exact (Kd.R_mono (Kd.R_far (p := ⟨gb235, 1, none⟩) (Kd.R_far (p := ⟨gb235, 0, none⟩) (Kd.R_types HO211.out BK235.out (by decide)) (fun _ hk => hk.2) (.slice Ao54 t227.length co54)) (fun _ hk => hk.2) (.slice Ao58 t230.length co58)) (fun _ h_ => h_.1))) hb); have n6_ := Aside0.mk (Kd.R_elder' (by (with_reducible repeat (first | apply Kd.R_alloc | apply Kd.R_drewN | apply Kd.R_drew)); exact (Kd.R_mono (Kd.R_far (p := ⟨gb235, 1, none⟩) (Kd.R_far (p := ⟨gb235, 0, none⟩) (Kd.R_types HO217.out BK235.out (by decide)) (fun _ hk => hk.2) (.slice Ao54 t227.length co54)) (fun _ hk => hk.2) (.slice Ao58 t230.length co58)) (fun _ h_ => h_.1))) (Kd.R_base ho61) hb); have n7_ := Aside0.mk (Kd.R_below (by (with_reducible repeat (first | apply Kd.R_alloc | apply Kd.R_drewN | apply Kd.R_drew)); exact (Kd.R_mono (Kd.R_far (p := ⟨gb235, 1, none⟩) (Kd.R_far (p := ⟨gb235, 0, none⟩) (Kd.R_types HO222.out BK235.out (by decide)) (fun _ hk => hk.2) (.slice Ao54 t227.length co54)) (fun _ hk => hk.2) (.slice Ao58 t230.length co58)) (fun _ h_ => h_.1))) hb); have n8_ := Aside0.mk (Kd.R_elder' (by (with_reducible repeat (first | apply Kd.R_alloc | apply Kd.R_drewN | apply Kd.R_drew)); exact (Kd.R_mono (Kd.R_far (p := ⟨gb235, 1, none⟩) (Kd.R_far (p := ⟨gb235, 0, none⟩) (Kd.R_types HO226.out BK235.out (by decide)) (fun _ hk => hk.2) (.slice Ao54 t227.length co54)) (fun _ hk => hk.2) (.slice Ao58 t230.length co58)) (fun _ h_ => h_.1))) (Kd.R_base ho61) hb); have n9_ := Aside0.mk (Kd.R_elder' (by (with_reducible repeat (first | apply Kd.R_alloc | apply Kd.R_drewN | apply Kd.R_drew)); exact (Kd.R_mono (Kd.R_far (p := ⟨gb235, 1, none⟩) (Kd.R_far (p := ⟨gb235, 0, none⟩) (Kd.R_types HO229.out BK235.out (by decide)) (fun _ hk => hk.2) (.slice Ao54 t227.length co54)) (fun _ hk => hk.2) (.slice Ao58 t230.length co58)) (fun _ h_ => h_.1))) (Kd.R_base ho61) hb); have n10_ := Aside0.mk (Kd.R_below (by (with_reducible repeat (first | apply Kd.R_alloc | apply Kd.R_drewN | apply Kd.R_drew)); exact (Kd.R_mono (Kd.R_far (p := ⟨gb235, 1, none⟩) (Kd.R_far (p := ⟨gb235, 0, none⟩) (Kd.R_types HO232.out BK235.out (by decide)) (fun _ hk => hk.2) (.slice Ao54 t227.length co54)) (fun _ hk => hk.2) (.slice Ao58 t230.length co58)) (fun _ h_ => h_.1))) hb); have n11_ := Aside0.mk (Kd.R_lower (Kd.R_new' (Kd.R_new' (Kd.R_new' (Kd.R_new' (Kd.R_new' (Kd.R_new' (Kd.R_new' ho61 (Kd.R_lt (by (with_reducible repeat (first | apply Kd.R_alloc | apply Kd.R_drewN | apply Kd.R_drew)); exact (Kd.R_mono (Kd.R_far (p := ⟨gb235, 1, none⟩) (Kd.R_far (p := ⟨gb235, 0, none⟩) (Kd.R_types HO192.out BK235.out (by decide)) (fun _ hk => hk.2) (.slice Ao54 t227.length co54)) (fun _ hk => hk.2) (.slice Ao58 t230.length co58)) (fun _ h_ => h_.1))))) (Kd.R_lt (by (with_reducible repeat (first | apply Kd.R_alloc | apply Kd.R_drewN | apply Kd.R_drew)); exact (Kd.R_mono (Kd.R_far (p := ⟨gb235, 1, none⟩) (Kd.R_far (p := ⟨gb235, 0, none⟩) (Kd.R_types HO200.out BK235.out (by decide)) (fun _ hk => hk.2) (.slice Ao54 t227.length co54)) (fun _ hk => hk.2) (.slice Ao58 t230.length co58)) (fun _ h_ => h_.1))))) (Kd.R_lt (by (with_reducible repeat (first | apply Kd.R_alloc | apply Kd.R_drewN | apply Kd.R_drew)); exact (Kd.R_mono (Kd.R_far (p := ⟨gb235, 1, none⟩) (Kd.R_far (p := ⟨gb235, 0, none⟩) (Kd.R_types HO205.out BK235.out (by decide)) (fun _ hk => hk.2) (.slice Ao54 t227.length co54)) (fun _ hk => hk.2) (.slice Ao58 t230.length co58)) (fun _ h_ => h_.1))))) (Kd.R_lt (by (with_reducible repeat (first | apply Kd.R_alloc | apply Kd.R_drewN | apply Kd.R_drew)); exact (Kd.R_mono (Kd.R_far (p := ⟨gb235, 1, none⟩) (Kd.R_far (p := ⟨gb235, 0, none⟩) (Kd.R_types HO208.out BK235.out (by decide)) (fun _ hk => hk.2) (.slice Ao54 t227.length co54)) (fun _ hk => hk.2) (.slice Ao58 t230.length co58)) (fun _ h_ => h_.1))))) (Kd.R_lt (by (with_reducible repeat (first | apply Kd.R_alloc | apply Kd.R_drewN | apply Kd.R_drew)); exact (Kd.R_mono (Kd.R_far (p := ⟨gb235, 1, none⟩) (Kd.R_far (p := ⟨gb235, 0, none⟩) (Kd.R_types HO217.out BK235.out (by decide)) (fun _ hk => hk.2) (.slice Ao54 t227.length co54)) (fun _ hk => hk.2) (.slice Ao58 t230.length co58)) (fun _ h_ => h_.1))))) (Kd.R_lt (by (with_reducible repeat (first | apply Kd.R_alloc | apply Kd.R_drewN | apply Kd.R_drew)); exact (Kd.R_mono (Kd.R_far (p := ⟨gb235, 1, none⟩) (Kd.R_far (p := ⟨gb235, 0, none⟩) (Kd.R_types HO226.out BK235.out (by decide)) (fun _ hk => hk.2) (.slice Ao54 t227.length co54)) (fun _ hk => hk.2) (.slice Ao58 t230.length co58)) (fun _ h_ => h_.1))))) (Kd.R_lt (by (with_reducible repeat (first | apply Kd.R_alloc | apply Kd.R_drewN | apply Kd.R_drew)); exact (Kd.R_mono (Kd.R_far (p := ⟨gb235, 1, none⟩) (Kd.R_far (p := ⟨gb235, 0, none⟩) (Kd.R_types HO229.out BK235.out (by decide)) (fun _ hk => hk.2) (.slice Ao54 t227.length co54)) (fun _ hk => hk.2) (.slice Ao58 t230.length co58)) (fun _ h_ => h_.1))))) (below_size (by repeat (first | (with_reducible first | exact HB.out | apply below_alloc | apply pw_below_drewN | apply below_drew1 | refine below_set ?_ GE197.out | refine below_set ?_ GE214.out | refine below_set ?_ GE235.out) | exact HB.out)))); have n12_ := Aside0.mk (blk_below (g := gb197) (o := .cells #[.slice Ao31 t190.length co31, .slice Ao33 t193.length co33] 25 (0, 0)) (by (with_reducible repeat (first | refine blk_drewN ?_ _ | refine blk_drew ?_ | refine blk_alloc ?_ _)); refine blk_far ?_ NB197_235.out _; (with_reducible repeat (first | refine blk_drewN ?_ _ | refine blk_drew ?_ | refine blk_alloc ?_ _)); refine blk_far ?_ NB197_235.out _; (with_reducible repeat (first | refine blk_drewN ?_ _ | refine blk_drew ?_ | refine blk_alloc ?_ _)); exact BK197.out) hb); have n13_ := Aside0.mk (blk_below (g := gb214) (o := .cells #[.slice Ao41 t206.length co41, .slice Ao44 t209.length co44] 25 (0, 0)) (by (with_reducible repeat (first | refine blk_drewN ?_ _ | refine blk_drew ?_ | refine blk_alloc ?_ _)); refine blk_far ?_ NB214_235.out _; (with_reducible repeat (first | refine blk_drewN ?_ _ | refine blk_drew ?_ | refine blk_alloc ?_ _)); refine blk_far ?_ NB214_235.out _; (with_reducible repeat (first | refine blk_drewN ?_ _ | refine blk_drew ?_ | refine blk_alloc ?_ _)); exact BK214.out) hb); have n14_ := Aside0.mk (blk_below (g := gb235) (o := .cells #[.slice Ao54 t227.length co54, .slice Ao58 t230.length co58] 25 (0, 0)) (by (with_reducible repeat (first | refine blk_drewN ?_ _ | refine blk_drew ?_ | refine blk_alloc ?_ _)); refine blk_put (cs := #[.slice Ao54 t227.length co54, .slice none 0 0]) ?_ 1 _ rfl; (with_reducible repeat (first | refine blk_drewN ?_ _ | refine blk_drew ?_ | refine blk_alloc ?_ _)); refine blk_put (cs := #[.slice none 0 0, .slice none 0 0]) ?_ 0 _ rfl; (with_reducible repeat (first | refine blk_drewN ?_ _ | refine blk_drew ?_ | refine blk_alloc ?_ _)); exact BK235.out) hb); have n15_ := Aside0.mk (below_step (by repeat (first | (with_reducible first | exact HB.out | apply below_alloc | apply pw_below_drewN | apply below_drew1 | refine below_set ?_ GE197.out | refine below_set ?_ GE214.out | refine below_set ?_ GE235.out) | exact HB.out)) hb); clear HO192; clear HO195; clear HO200; clear HO205; clear HO208; clear HO211; clear HO217; clear HO222; clear HO226; clear HO229; clear HO232; clear BK197; clear BK214; clear BK235; clear HB; have HO192 := n0_; have HO195 := n1_; have HO200 := n2_; have HO205 := n3_; have HO208 := n4_; have HO211 := n5_; have HO217 := n6_; have HO222 := n7_; have HO226 := n8_; have HO229 := n9_; have HO232 := n10_; have HO238 := n11_; have BK197 := n12_; have BK214 := n13_; have BK235 := n14_; have HB := n15_; clear n0_ n1_ n2_ n3_ n4_ n5_ n6_ n7_ n8_ n9_ n10_ n11_ n12_ n13_ n14_ n15_; clear hb ho61; obtain ⟨Ao62, co62, eo62⟩ := Kd.R_slice HO238.out; subst eo62) | ((with_reducible refine gate_callee (f := 21) rfl ?_); refine goesL_ (some 63) rfl rfl Try.func21 (by kernel_rfl) rfl #[.agg #[.slice Ao41 t206.length co41, .slice Ao44 t209.length co44], .slice Ao62 y236.length co62, .int .i64 (-1)] rfl (by (try simp only [List.map_toArray, List.map_cons, List.map_nil]); first | done | rfl | (simp only [List.length_drop, List.length_take]; rfl)) ?_; (with_reducible refine (slot_Save.calls _ _ t206 _ _ t209 _ _ y236 (-1) t239 t242 t245 t246 _ ?side1 ?side2 ?side3 ?side4 ?side5 ?side6 A7.out).mono ?_); (case side1 => repeat (first | exact (Kd.R_reads' HO208.out).2.2 | (with_reducible refine Kd.C_alloc ?_ _) | (with_reducible refine Kd.C_drewN ?_ _) | (with_reducible refine Kd.C_drew ?_))); (case side2 => exact (Kd.R_reads' HO208.out).2.1); (case side3 => repeat (first | exact (Kd.R_reads' HO211.out).2.2 | (with_reducible refine Kd.C_alloc ?_ _) | (with_reducible refine Kd.C_drewN ?_ _) | (with_reducible refine Kd.C_drew ?_))); (case side4 => exact (Kd.R_reads' HO211.out).2.1); (case side5 => repeat (first | exact (Kd.R_reads' HO238.out).2.2 | (with_reducible refine Kd.C_alloc ?_ _) | (with_reducible refine Kd.C_drewN ?_ _) | (with_reducible refine Kd.C_drew ?_))); (case side6 => exact (Kd.R_reads' HO238.out).2.1); rintro e w63 ⟨v240, v243, rfl, ho0, ho1, hb⟩; refine ⟨_, rfl, ?_⟩; have n0_ := Aside0.mk (Kd.R_elder' (by (with_reducible repeat (first | apply Kd.R_alloc | apply Kd.R_drewN | apply Kd.R_drew)); exact HO192.out) (Kd.R_base ho0) hb); have n1_ := Aside0.mk (Kd.R_elder' (by (with_reducible repeat (first | apply Kd.R_alloc | apply Kd.R_drewN | apply Kd.R_drew)); exact HO195.out) (Kd.R_base ho1) hb); have n2_ := Aside0.mk (Kd.R_elder' (by (with_reducible repeat (first | apply Kd.R_alloc | apply Kd.R_drewN | apply Kd.R_drew)); exact HO200.out) (Kd.R_base ho0) hb); have n3_ := Aside0.mk (Kd.R_elder' (by (with_reducible repeat (first | apply Kd.R_alloc | apply Kd.R_drewN | apply Kd.R_drew)); exact HO205.out) (Kd.R_base ho0) hb); have n4_ := Aside0.mk (Kd.R_elder' (by (with_reducible repeat (first | apply Kd.R_alloc | apply Kd.R_drewN | apply Kd.R_drew)); exact HO208.out) (Kd.R_base ho0) hb); have n5_ := Aside0.mk (Kd.R_elder' (by (with_reducible repeat (first | apply Kd.R_alloc | apply Kd.R_drewN | apply Kd.R_drew)); exact HO211.out) (Kd.R_base ho1) hb); have n6_ := Aside0.mk (Kd.R_elder' (by (with_reducible repeat (first | apply Kd.R_alloc | apply Kd.R_drewN | apply Kd.R_drew)); exact HO217.out) (Kd.R_base ho0) hb); have n7_ := Aside0.mk (Kd.R_below (by (with_reducible repeat (first | apply Kd.R_alloc | apply Kd.R_drewN | apply Kd.R_drew)); exact HO222.out) hb); have n8_ := Aside0.mk (Kd.R_elder' (by (with_reducible repeat (first | apply Kd.R_alloc | apply Kd.R_drewN | apply Kd.R_drew)); exact HO226.out) (Kd.R_base ho0) hb); have n9_ := Aside0.mk (Kd.R_elder' (by (with_reducible repeat (first | apply Kd.R_alloc | apply Kd.R_drewN | apply Kd.R_drew)); exact HO229.out) (Kd.R_base ho0) hb); have n10_ := Aside0.mk (Kd.R_elder' (by (with_reducible repeat (first | apply Kd.R_alloc | apply Kd.R_drewN | apply Kd.R_drew)); exact HO232.out) (Kd.R_base ho1) hb); have n11_ := Aside0.mk (Kd.R_elder' (by (with_reducible repeat (first | apply Kd.R_alloc | apply Kd.R_drewN | apply Kd.R_drew)); exact HO238.out) (Kd.R_base ho0) hb); have n12_ := Aside0.mk (Kd.R_lower (Kd.R_new' (Kd.R_new' (Kd.R_new' (Kd.R_new' (Kd.R_new' (Kd.R_new' (Kd.R_new' (Kd.R_new' ho0 (Kd.R_lt (by (with_reducible repeat (first | apply Kd.R_alloc | apply Kd.R_drewN | apply Kd.R_drew)); exact HO192.out))) (Kd.R_lt (by (with_reducible repeat (first | apply Kd.R_alloc | apply Kd.R_drewN | apply Kd.R_drew)); exact HO200.out))) (Kd.R_lt (by (with_reducible repeat (first | apply Kd.R_alloc | apply Kd.R_drewN | apply Kd.R_drew)); exact HO205.out))) (Kd.R_lt (by (with_reducible repeat (first | apply Kd.R_alloc | apply Kd.R_drewN | apply Kd.R_drew)); exact HO208.out))) (Kd.R_lt (by (with_reducible repeat (first | apply Kd.R_alloc | apply Kd.R_drewN | apply Kd.R_drew)); exact HO217.out))) (Kd.R_lt (by (with_reducible repeat (first | apply Kd.R_alloc | apply Kd.R_drewN | apply Kd.R_drew)); exact HO226.out))) (Kd.R_lt (by (with_reducible repeat (first | apply Kd.R_alloc | apply Kd.R_drewN | apply Kd.R_drew)); exact HO229.out))) (Kd.R_lt (by (with_reducible repeat (first | apply Kd.R_alloc | apply Kd.R_drewN | apply Kd.R_drew)); exact HO238.out))) (below_size (by repeat (first | (with_reducible first | exact HB.out | apply below_alloc | apply pw_below_drewN | apply below_drew1 | refine below_set ?_ GE197.out | refine below_set ?_ GE214.out | refine below_set ?_ GE235.out) | exact HB.out)))); have n13_ := Aside0.mk (Kd.R_lower (Kd.R_new' (Kd.R_new' (Kd.R_new' ho1 (Kd.R_lt (by (with_reducible repeat (first | apply Kd.R_alloc | apply Kd.R_drewN | apply Kd.R_drew)); exact HO195.out))) (Kd.R_lt (by (with_reducible repeat (first | apply Kd.R_alloc | apply Kd.R_drewN | apply Kd.R_drew)); exact HO211.out))) (Kd.R_lt (by (with_reducible repeat (first | apply Kd.R_alloc | apply Kd.R_drewN | apply Kd.R_drew)); exact HO232.out))) (below_size (by repeat (first | (with_reducible first | exact HB.out | apply below_alloc | apply pw_below_drewN | apply below_drew1 | refine below_set ?_ GE197.out | refine below_set ?_ GE214.out | refine below_set ?_ GE235.out) | exact HB.out)))); have n14_ := Aside0.mk (blk_below (g := gb197) (o := .cells #[.slice Ao31 t190.length co31, .slice Ao33 t193.length co33] 25 (0, 0)) (by (with_reducible repeat (first | refine blk_drewN ?_ _ | refine blk_drew ?_ | refine blk_alloc ?_ _)); exact BK197.out) hb); have n15_ := Aside0.mk (blk_below (g := gb214) (o := .cells #[.slice Ao41 t206.length co41, .slice Ao44 t209.length co44] 25 (0, 0)) (by (with_reducible repeat (first | refine blk_drewN ?_ _ | refine blk_drew ?_ | refine blk_alloc ?_ _)); exact BK214.out) hb); have n16_ := Aside0.mk (blk_below (g := gb235) (o := .cells #[.slice Ao54 t227.length co54, .slice Ao58 t230.length co58] 25 (0, 0)) (by (with_reducible repeat (first | refine blk_drewN ?_ _ | refine blk_drew ?_ | refine blk_alloc ?_ _)); exact BK235.out) hb); have n17_ := Aside0.mk (below_step (by repeat (first | (with_reducible first | exact HB.out | apply below_alloc | apply pw_below_drewN | apply below_drew1 | refine below_set ?_ GE197.out | refine below_set ?_ GE214.out | refine below_set ?_ GE235.out) | exact HB.out)) hb); clear HO192; clear HO195; clear HO200; clear HO205; clear HO208; clear HO211; clear HO217; clear HO222; clear HO226; clear HO229; clear HO232; clear HO238; clear BK197; clear BK214; clear BK235; clear HB; have HO192 := n0_; have HO195 := n1_; have HO200 := n2_; have HO205 := n3_; have HO208 := n4_; have HO211 := n5_; have HO217 := n6_; have HO222 := n7_; have HO226 := n8_; have HO229 := n9_; have HO232 := n10_; have HO238 := n11_; have HO241 := n12_; have HO244 := n13_; have BK197 := n14_; have BK214 := n15_; have BK235 := n16_; have HB := n17_; clear n0_ n1_ n2_ n3_ n4_ n5_ n6_ n7_ n8_ n9_ n10_ n11_ n12_ n13_ n14_ n15_ n16_ n17_; (try clear hb); (try clear hb2); (try clear hk); (try clear hi); (try clear ho0); (try clear ho1)) | ((with_reducible refine gate_dst (N := 17) rfl ?_); (try (refine gate_guard (by rfl) ?_; dsimp only)); refine box_event ?hg (N := 17) ?hd (cs := #[.slice none 0 0, .slice none 0 0]) (t := 25) ?hr ?_; (case hd => rfl); (case hg => rfl); (case hr => first | (go_simp; done) | (go_simp; rfl)); intro gb247 hg w64 hbox hb; have n0_ := Aside0.mk (Kd.R_below (by (with_reducible repeat (first | apply Kd.R_alloc | apply Kd.R_drewN | apply Kd.R_drew)); exact HO192.out) hb); have n1_ := Aside0.mk (Kd.R_below (by (with_reducible repeat (first | apply Kd.R_alloc | apply Kd.R_drewN | apply Kd.R_drew)); exact HO195.out) hb); have n2_ := Aside0.mk (Kd.R_below (by (with_reducible repeat (first | apply Kd.R_alloc | apply Kd.R_drewN | apply Kd.R_drew)); exact HO200.out) hb); have n3_ := Aside0.mk (Kd.R_below (by (with_reducible repeat (first | apply Kd.R_alloc | apply Kd.R_drewN | apply Kd.R_drew)); exact HO205.out) hb); have n4_ := Aside0.mk (Kd.R_below (by (with_reducible repeat (first | apply Kd.R_alloc | apply Kd.R_drewN | apply Kd.R_drew)); exact HO208.out) hb); have n5_ := Aside0.mk (Kd.R_below (by (with_reducible repeat (first | apply Kd.R_alloc | apply Kd.R_drewN | apply Kd.R_drew)); exact HO211.out) hb); have n6_ := Aside0.mk (Kd.R_below (by (with_reducible repeat (first | apply Kd.R_alloc | apply Kd.R_drewN | apply Kd.R_drew)); exact HO217.out) hb); have n7_ := Aside0.mk (Kd.R_below (by (with_reducible repeat (first | apply Kd.R_alloc | apply Kd.R_drewN | apply Kd.R_drew)); exact HO222.out) hb); have n8_ := Aside0.mk (Kd.R_below (by (with_reducible repeat (first | apply Kd.R_alloc | apply Kd.R_drewN | apply Kd.R_drew)); exact HO226.out) hb); have n9_ := Aside0.mk (Kd.R_below (by (with_reducible repeat (first | apply Kd.R_alloc | apply Kd.R_drewN | apply Kd.R_drew)); exact HO229.out) hb); have n10_ := Aside0.mk (Kd.R_below (by (with_reducible repeat (first | apply Kd.R_alloc | apply Kd.R_drewN | apply Kd.R_drew)); exact HO232.out) hb); have n11_ := Aside0.mk (Kd.R_below (by (with_reducible repeat (first | apply Kd.R_alloc | apply Kd.R_drewN | apply Kd.R_drew)); exact HO238.out) hb); have n12_ := Aside0.mk (Kd.R_below (by (with_reducible repeat (first | apply Kd.R_alloc | apply Kd.R_drewN | apply Kd.R_drew)); exact HO241.out) hb); have n13_ := Aside0.mk (Kd.R_below (by (with_reducible repeat (first | apply Kd.R_alloc | apply Kd.R_drewN | apply Kd.R_drew)); exact HO244.out) hb); have n14_ := Aside0.mk (blk_below (g := gb197) (o := .cells #[.slice Ao31 t190.length co31, .slice Ao33 t193.length co33] 25 (0, 0)) (by (with_reducible repeat (first | refine blk_drewN ?_ _ | refine blk_drew ?_ | refine blk_alloc ?_ _)); exact BK197.out) hb); have n15_ := Aside0.mk (blk_below (g := gb214) (o := .cells #[.slice Ao41 t206.length co41, .slice Ao44 t209.length co44] 25 (0, 0)) (by (with_reducible repeat (first | refine blk_drewN ?_ _ | refine blk_drew ?_ | refine blk_alloc ?_ _)); exact BK214.out) hb); have n16_ := Aside0.mk (blk_below (g := gb235) (o := .cells #[.slice Ao54 t227.length co54, .slice Ao58 t230.length co58] 25 (0, 0)) (by (with_reducible repeat (first | refine blk_drewN ?_ _ | refine blk_drew ?_ | refine blk_alloc ?_ _)); exact BK235.out) hb); have n17_ := Aside0.mk (below_step (by repeat (first | (with_reducible first | exact HB.out | apply below_alloc | apply pw_below_drewN | apply below_drew1 | refine below_set ?_ GE197.out | refine below_set ?_ GE214.out | refine below_set ?_ GE235.out) | exact HB.out)) hb); have n18_ := Aside0.mk (hbox); have n19_ := Aside0.mk ((by rw [hg]; exact (below_size (by repeat (first | (with_reducible first | exact HB.out | apply below_alloc | apply pw_below_drewN | apply below_drew1 | refine below_set ?_ GE197.out | refine below_set ?_ GE214.out | refine below_set ?_ GE235.out) | exact HB.out))) : w.heap.size ≤ gb247)); have n20_ := Aside0.mk ((by rw [hg]; exact (below_size (by repeat (first | (with_reducible first | exact HB.out | apply below_alloc | apply pw_below_drewN | apply below_drew1 | refine below_set ?_ GE197.out | refine below_set ?_ GE214.out | refine below_set ?_ GE235.out) | exact HB.out))) : w.heap.size ≤ gb247)); have n21_ := Aside0.mk ((by rw [hg]; exact Nat.ne_of_lt (blk_lt (g := gb197) (o := .cells #[.slice Ao31 t190.length co31, .slice Ao33 t193.length co33] 25 (0, 0)) (by (with_reducible repeat (first | refine blk_drewN ?_ _ | refine blk_drew ?_ | refine blk_alloc ?_ _)); exact BK197.out)) : gb197 ≠ gb247)); have n22_ := Aside0.mk ((by rw [hg]; exact Nat.ne_of_gt (blk_lt (g := gb197) (o := .cells #[.slice Ao31 t190.length co31, .slice Ao33 t193.length co33] 25 (0, 0)) (by (with_reducible repeat (first | refine blk_drewN ?_ _ | refine blk_drew ?_ | refine blk_alloc ?_ _)); exact BK197.out)) : gb247 ≠ gb197)); have n23_ := Aside0.mk ((by rw [hg]; exact Nat.ne_of_lt (blk_lt (g := gb214) (o := .cells #[.slice Ao41 t206.length co41, .slice Ao44 t209.length co44] 25 (0, 0)) (by (with_reducible repeat (first | refine blk_drewN ?_ _ | refine blk_drew ?_ | refine blk_alloc ?_ _)); exact BK214.out)) : gb214 ≠ gb247)); have n24_ := Aside0.mk ((by rw [hg]; exact Nat.ne_of_gt (blk_lt (g := gb214) (o := .cells #[.slice Ao41 t206.length co41, .slice Ao44 t209.length co44] 25 (0, 0)) (by (with_reducible repeat (first | refine blk_drewN ?_ _ | refine blk_drew ?_ | refine blk_alloc ?_ _)); exact BK214.out)) : gb247 ≠ gb214)); have n25_ := Aside0.mk ((by rw [hg]; exact Nat.ne_of_lt (blk_lt (g := gb235) (o := .cells #[.slice Ao54 t227.length co54, .slice Ao58 t230.length co58] 25 (0, 0)) (by (with_reducible repeat (first | refine blk_drewN ?_ _ | refine blk_drew ?_ | refine blk_alloc ?_ _)); exact BK235.out)) : gb235 ≠ gb247)); have n26_ := Aside0.mk ((by rw [hg]; exact Nat.ne_of_gt (blk_lt (g := gb235) (o := .cells #[.slice Ao54 t227.length co54, .slice Ao58 t230.length co58] 25 (0, 0)) (by (with_reducible repeat (first | refine blk_drewN ?_ _ | refine blk_drew ?_ | refine blk_alloc ?_ _)); exact BK235.out)) : gb247 ≠ gb235)); clear HO192; clear HO195; clear HO200; clear HO205; clear HO208; clear HO211; clear HO217; clear HO222; clear HO226; clear HO229; clear HO232; clear HO238; clear HO241; clear HO244; clear BK197; clear BK214; clear BK235; clear HB; have HO192 := n0_; have HO195 := n1_; have HO200 := n2_; have HO205 := n3_; have HO208 := n4_; have HO211 := n5_; have HO217 := n6_; have HO222 := n7_; have HO226 := n8_; have HO229 := n9_; have HO232 := n10_; have HO238 := n11_; have HO241 := n12_; have HO244 := n13_; have BK197 := n14_; have BK214 := n15_; have BK235 := n16_; have HB := n17_; have BK247 := n18_; have GW247 := n19_; have GE247 := n20_; have NB197_247 := n21_; have NB247_197 := n22_; have NB214_247 := n23_; have NB247_214 := n24_; have NB235_247 := n25_; have NB247_235 := n26_; clear n0_ n1_ n2_ n3_ n4_ n5_ n6_ n7_ n8_ n9_ n10_ n11_ n12_ n13_ n14_ n15_ n16_ n17_ n18_ n19_ n20_ n21_ n22_ n23_ n24_ n25_ n26_; clear hb hbox hg; obtain ⟨Ao65, co65, eo65⟩ := Kd.R_slice HO241.out; subst eo65; have hnb66 := NB247_197.out; have hnc66 := NB197_247.out; have hnb67 := NB247_214.out; have hnc67 := NB214_247.out; have hnb68 := NB247_235.out; have hnc68 := NB235_247.out; have hcz69_0 : w64.cell? ⟨gb247, 0, none⟩ = some (.slice none 0 0) := (blk_cell BK247.out 0).trans rfl; have hcz69_1 : w64.cell? ⟨gb247, 1, none⟩ = some (.slice none 0 0) := (blk_cell BK247.out 1).trans rfl; have hfz69_0 := blk_frozen BK247.out 0; have hfz69_1 := blk_frozen BK247.out 1; obtain ⟨Ao70, co70, eo70⟩ := Kd.R_slice HO244.out; subst eo70) | ((with_reducible refine gate_callee (f := 20) rfl ?_); refine goesL_ (some 69) rfl rfl Try.func20 (by kernel_rfl) rfl #[.agg #[.slice Ao65 t239.length co65, .slice Ao70 t242.length co70]] rfl (by (try simp only [List.map_toArray, List.map_cons, List.map_nil]); first | done | rfl | (simp only [List.length_drop, List.length_take]; rfl)) ?_; (with_reducible refine (slot_Load.calls _ _ t239 _ _ t242 t248 t251 t252 _ ?side1 ?side2 ?side3 ?side4 A8.out).mono ?_); (case side1 => refine (Kd.R_reads' (e := 9) (base := w.heap.size) (ok := fun k_ => ((((((((True ∧ some k_ ≠ (.slice Ao31 t190.length co31 : Value).ownBlock) ∧ some k_ ≠ (v199 : Value).ownBlock) ∧ some k_ ≠ (.slice Ao38 y203.length co38 : Value).ownBlock) ∧ some k_ ≠ (.slice Ao41 t206.length co41 : Value).ownBlock) ∧ some k_ ≠ (v216 : Value).ownBlock) ∧ some k_ ≠ (.slice Ao51 y224.length co51 : Value).ownBlock) ∧ some k_ ≠ (.slice Ao54 t227.length co54 : Value).ownBlock) ∧ some k_ ≠ (.slice Ao62 y236.length co62 : Value).ownBlock)) (n := t239.length) (c := co65) ?_).2.2; exact (by (with_reducible repeat (first | apply Kd.R_alloc | apply Kd.R_drewN | apply Kd.R_drew)); exact (Kd.R_mono (Kd.R_far (p := ⟨gb247, 1, none⟩) (Kd.R_far (p := ⟨gb247, 0, none⟩) (Kd.R_types HO241.out BK247.out (by decide)) (fun _ hk => hk.2) (.slice Ao65 t239.length co65)) (fun _ hk => hk.2) (.slice Ao70 t242.length co70)) (fun _ h_ => h_.1)))); (case side2 => exact (Kd.R_reads' HO241.out).2.1); (case side3 => refine (Kd.R_reads' (e := 73) (base := w.heap.size) (ok := fun k_ => (((True ∧ some k_ ≠ (.slice Ao33 t193.length co33 : Value).ownBlock) ∧ some k_ ≠ (.slice Ao44 t209.length co44 : Value).ownBlock) ∧ some k_ ≠ (.slice Ao58 t230.length co58 : Value).ownBlock)) (n := t242.length) (c := co70) ?_).2.2; exact (by (with_reducible repeat (first | apply Kd.R_alloc | apply Kd.R_drewN | apply Kd.R_drew)); exact (Kd.R_mono (Kd.R_far (p := ⟨gb247, 1, none⟩) (Kd.R_far (p := ⟨gb247, 0, none⟩) (Kd.R_types HO244.out BK247.out (by decide)) (fun _ hk => hk.2) (.slice Ao65 t239.length co65)) (fun _ hk => hk.2) (.slice Ao70 t242.length co70)) (fun _ h_ => h_.1)))); (case side4 => exact (Kd.R_reads' HO244.out).2.1); rintro e w71 ⟨v249, rfl, ho0, hb⟩; refine ⟨_, rfl, ?_⟩; have n0_ := Aside0.mk (Kd.R_elder' (by (with_reducible repeat (first | apply Kd.R_alloc | apply Kd.R_drewN | apply Kd.R_drew)); exact (Kd.R_mono (Kd.R_far (p := ⟨gb247, 1, none⟩) (Kd.R_far (p := ⟨gb247, 0, none⟩) (Kd.R_types HO192.out BK247.out (by decide)) (fun _ hk => hk.2) (.slice Ao65 t239.length co65)) (fun _ hk => hk.2) (.slice Ao70 t242.length co70)) (fun _ h_ => h_.1))) (Kd.R_base ho0) hb); have n1_ := Aside0.mk (Kd.R_below (by (with_reducible repeat (first | apply Kd.R_alloc | apply Kd.R_drewN | apply Kd.R_drew)); exact (Kd.R_mono (Kd.R_far (p := ⟨gb247, 1, none⟩) (Kd.R_far (p := ⟨gb247, 0, none⟩) (Kd.R_types HO195.out BK247.out (by decide)) (fun _ hk => hk.2) (.slice Ao65 t239.length co65)) (fun _ hk => hk.2) (.slice Ao70 t242.length co70)) (fun _ h_ => h_.1))) hb); have n2_ := Aside0.mk (Kd.R_elder' (by (with_reducible repeat (first | apply Kd.R_alloc | apply Kd.R_drewN | apply Kd.R_drew)); exact (Kd.R_mono (Kd.R_far (p := ⟨gb247, 1, none⟩) (Kd.R_far (p := ⟨gb247, 0, none⟩) (Kd.R_types HO200.out BK247.out (by decide)) (fun _ hk => hk.2) (.slice Ao65 t239.length co65)) (fun _ hk => hk.2) (.slice Ao70 t242.length co70)) (fun _ h_ => h_.1))) (Kd.R_base ho0) hb); have n3_ := Aside0.mk (Kd.R_elder' (by (with_reducible repeat (first | apply Kd.R_alloc | apply Kd.R_drewN | apply Kd.R_drew)); exact (Kd.R_mono (Kd.R_far (p := ⟨gb247, 1, none⟩) (Kd.R_far (p := ⟨gb247, 0, none⟩) (Kd.R_types HO205.out BK247.out (by decide)) (fun _ hk => hk.2) (.slice Ao65 t239.length co65)) (fun _ hk => hk.2) (.slice Ao70 t242.length co70)) (fun _ h_ => h_.1))) (Kd.R_base ho0) hb); have n4_ := Aside0.mk (Kd.R_elder' (by (with_reducible repeat (first | apply Kd.R_alloc | apply Kd.R_drewN | apply Kd.R_drew)); exact (Kd.R_mono (Kd.R_far (p := ⟨gb247, 1, none⟩) (Kd.R_far (p := ⟨gb247, 0, none⟩) (Kd.R_types HO208.out BK247.out (by decide)) (fun _ hk => hk.2) (.slice Ao65 t239.length co65)) (fun _ hk => hk.2) (.slice Ao70 t242.length co70)) (fun _ h_ => h_.1))) (Kd.R_base ho0) hb); have n5_ := Aside0.mk (Kd.R_below (by (with_reducible repeat (first | apply Kd.R_alloc | apply Kd.R_drewN | apply Kd.R_drew)); exact (Kd.R_mono (Kd.R_far (p := ⟨gb247, 1, none⟩) (Kd.R_far (p := ⟨gb247, 0, none⟩) (Kd.R_types HO211.out BK247.out (by decide)) (fun _ hk => hk.2) (.slice Ao65 t239.length co65)) (fun _ hk => hk.2) (.slice Ao70 t242.length co70)) (fun _ h_ => h_.1))) hb); have n6_ := Aside0.mk (Kd.R_elder' (by (with_reducible repeat (first | apply Kd.R_alloc | apply Kd.R_drewN | apply Kd.R_drew)); exact (Kd.R_mono (Kd.R_far (p := ⟨gb247, 1, none⟩) (Kd.R_far (p := ⟨gb247, 0, none⟩) (Kd.R_types HO217.out BK247.out (by decide)) (fun _ hk => hk.2) (.slice Ao65 t239.length co65)) (fun _ hk => hk.2) (.slice Ao70 t242.length co70)) (fun _ h_ => h_.1))) (Kd.R_base ho0) hb); have n7_ := Aside0.mk (Kd.R_below (by (with_reducible repeat (first | apply Kd.R_alloc | apply Kd.R_drewN | apply Kd.R_drew)); exact (Kd.R_mono (Kd.R_far (p := ⟨gb247, 1, none⟩) (Kd.R_far (p := ⟨gb247, 0, none⟩) (Kd.R_types HO222.out BK247.out (by decide)) (fun _ hk => hk.2) (.slice Ao65 t239.length co65)) (fun _ hk => hk.2) (.slice Ao70 t242.length co70)) (fun _ h_ => h_.1))) hb); have n8_ := Aside0.mk (Kd.R_elder' (by (with_reducible repeat (first | apply Kd.R_alloc | apply Kd.R_drewN | apply Kd.R_drew)); exact (Kd.R_mono (Kd.R_far (p := ⟨gb247, 1, none⟩) (Kd.R_far (p := ⟨gb247, 0, none⟩) (Kd.R_types HO226.out BK247.out (by decide)) (fun _ hk => hk.2) (.slice Ao65 t239.length co65)) (fun _ hk => hk.2) (.slice Ao70 t242.length co70)) (fun _ h_ => h_.1))) (Kd.R_base ho0) hb); have n9_ := Aside0.mk (Kd.R_elder' (by (with_reducible repeat (first | apply Kd.R_alloc | apply Kd.R_drewN | apply Kd.R_drew)); exact (Kd.R_mono (Kd.R_far (p := ⟨gb247, 1, none⟩) (Kd.R_far (p := ⟨gb247, 0, none⟩) (Kd.R_types HO229.out BK247.out (by decide)) (fun _ hk => hk.2) (.slice Ao65 t239.length co65)) (fun _ hk => hk.2) (.slice Ao70 t242.length co70)) (fun _ h_ => h_.1))) (Kd.R_base ho0) hb); have n10_ := Aside0.mk (Kd.R_below (by (with_reducible repeat (first | apply Kd.R_alloc | apply Kd.R_drewN | apply Kd.R_drew)); exact (Kd.R_mono (Kd.R_far (p := ⟨gb247, 1, none⟩) (Kd.R_far (p := ⟨gb247, 0, none⟩) (Kd.R_types HO232.out BK247.out (by decide)) (fun _ hk => hk.2) (.slice Ao65 t239.length co65)) (fun _ hk => hk.2) (.slice Ao70 t242.length co70)) (fun _ h_ => h_.1))) hb); have n11_ := Aside0.mk (Kd.R_elder' (by (with_reducible repeat (first | apply Kd.R_alloc | apply Kd.R_drewN | apply Kd.R_drew)); exact (Kd.R_mono (Kd.R_far (p := ⟨gb247, 1, none⟩) (Kd.R_far (p := ⟨gb247, 0, none⟩) (Kd.R_types HO238.out BK247.out (by decide)) (fun _ hk => hk.2) (.slice Ao65 t239.length co65)) (fun _ hk => hk.2) (.slice Ao70 t242.length co70)) (fun _ h_ => h_.1))) (Kd.R_base ho0) hb); have n12_ := Aside0.mk (Kd.R_elder' (by (with_reducible repeat (first | apply Kd.R_alloc | apply Kd.R_drewN | apply Kd.R_drew)); exact (Kd.R_mono (Kd.R_far (p := ⟨gb247, 1, none⟩) (Kd.R_far (p := ⟨gb247, 0, none⟩) (Kd.R_types HO241.out BK247.out (by decide)) (fun _ hk => hk.2) (.slice Ao65 t239.length co65)) (fun _ hk => hk.2) (.slice Ao70 t242.length co70)) (fun _ h_ => h_.1))) (Kd.R_base ho0) hb); have n13_ := Aside0.mk (Kd.R_below (by (with_reducible repeat (first | apply Kd.R_alloc | apply Kd.R_drewN | apply Kd.R_drew)); exact (Kd.R_mono (Kd.R_far (p := ⟨gb247, 1, none⟩) (Kd.R_far (p := ⟨gb247, 0, none⟩) (Kd.R_types HO244.out BK247.out (by decide)) (fun _ hk => hk.2) (.slice Ao65 t239.length co65)) (fun _ hk => hk.2) (.slice Ao70 t242.length co70)) (fun _ h_ => h_.1))) hb); have n14_ := Aside0.mk (Kd.R_lower (Kd.R_new' (Kd.R_new' (Kd.R_new' (Kd.R_new' (Kd.R_new' (Kd.R_new' (Kd.R_new' (Kd.R_new' (Kd.R_new' ho0 (Kd.R_lt (by (with_reducible repeat (first | apply Kd.R_alloc | apply Kd.R_drewN | apply Kd.R_drew)); exact (Kd.R_mono (Kd.R_far (p := ⟨gb247, 1, none⟩) (Kd.R_far (p := ⟨gb247, 0, none⟩) (Kd.R_types HO192.out BK247.out (by decide)) (fun _ hk => hk.2) (.slice Ao65 t239.length co65)) (fun _ hk => hk.2) (.slice Ao70 t242.length co70)) (fun _ h_ => h_.1))))) (Kd.R_lt (by (with_reducible repeat (first | apply Kd.R_alloc | apply Kd.R_drewN | apply Kd.R_drew)); exact (Kd.R_mono (Kd.R_far (p := ⟨gb247, 1, none⟩) (Kd.R_far (p := ⟨gb247, 0, none⟩) (Kd.R_types HO200.out BK247.out (by decide)) (fun _ hk => hk.2) (.slice Ao65 t239.length co65)) (fun _ hk => hk.2) (.slice Ao70 t242.length co70)) (fun _ h_ => h_.1))))) (Kd.R_lt (by (with_reducible repeat (first | apply Kd.R_alloc | apply Kd.R_drewN | apply Kd.R_drew)); exact (Kd.R_mono (Kd.R_far (p := ⟨gb247, 1, none⟩) (Kd.R_far (p := ⟨gb247, 0, none⟩) (Kd.R_types HO205.out BK247.out (by decide)) (fun _ hk => hk.2) (.slice Ao65 t239.length co65)) (fun _ hk => hk.2) (.slice Ao70 t242.length co70)) (fun _ h_ => h_.1))))) (Kd.R_lt (by (with_reducible repeat (first | apply Kd.R_alloc | apply Kd.R_drewN | apply Kd.R_drew)); exact (Kd.R_mono (Kd.R_far (p := ⟨gb247, 1, none⟩) (Kd.R_far (p := ⟨gb247, 0, none⟩) (Kd.R_types HO208.out BK247.out (by decide)) (fun _ hk => hk.2) (.slice Ao65 t239.length co65)) (fun _ hk => hk.2) (.slice Ao70 t242.length co70)) (fun _ h_ => h_.1))))) (Kd.R_lt (by (with_reducible repeat (first | apply Kd.R_alloc | apply Kd.R_drewN | apply Kd.R_drew)); exact (Kd.R_mono (Kd.R_far (p := ⟨gb247, 1, none⟩) (Kd.R_far (p := ⟨gb247, 0, none⟩) (Kd.R_types HO217.out BK247.out (by decide)) (fun _ hk => hk.2) (.slice Ao65 t239.length co65)) (fun _ hk => hk.2) (.slice Ao70 t242.length co70)) (fun _ h_ => h_.1))))) (Kd.R_lt (by (with_reducible repeat (first | apply Kd.R_alloc | apply Kd.R_drewN | apply Kd.R_drew)); exact (Kd.R_mono (Kd.R_far (p := ⟨gb247, 1, none⟩) (Kd.R_far (p := ⟨gb247, 0, none⟩) (Kd.R_types HO226.out BK247.out (by decide)) (fun _ hk => hk.2) (.slice Ao65 t239.length co65)) (fun _ hk => hk.2) (.slice Ao70 t242.length co70)) (fun _ h_ => h_.1))))) (Kd.R_lt (by (with_reducible repeat (first | apply Kd.R_alloc | apply Kd.R_drewN | apply Kd.R_drew)); exact (Kd.R_mono (Kd.R_far (p := ⟨gb247, 1, none⟩) (Kd.R_far (p := ⟨gb247, 0, none⟩) (Kd.R_types HO229.out BK247.out (by decide)) (fun _ hk => hk.2) (.slice Ao65 t239.length co65)) (fun _ hk => hk.2) (.slice Ao70 t242.length co70)) (fun _ h_ => h_.1))))) (Kd.R_lt (by (with_reducible repeat (first | apply Kd.R_alloc | apply Kd.R_drewN | apply Kd.R_drew)); exact (Kd.R_mono (Kd.R_far (p := ⟨gb247, 1, none⟩) (Kd.R_far (p := ⟨gb247, 0, none⟩) (Kd.R_types HO238.out BK247.out (by decide)) (fun _ hk => hk.2) (.slice Ao65 t239.length co65)) (fun _ hk => hk.2) (.slice Ao70 t242.length co70)) (fun _ h_ => h_.1))))) (Kd.R_lt (by (with_reducible repeat (first | apply Kd.R_alloc | apply Kd.R_drewN | apply Kd.R_drew)); exact (Kd.R_mono (Kd.R_far (p := ⟨gb247, 1, none⟩) (Kd.R_far (p := ⟨gb247, 0, none⟩) (Kd.R_types HO241.out BK247.out (by decide)) (fun _ hk => hk.2) (.slice Ao65 t239.length co65)) (fun _ hk => hk.2) (.slice Ao70 t242.length co70)) (fun _ h_ => h_.1))))) (below_size (by repeat (first | (with_reducible first | exact HB.out | apply below_alloc | apply pw_below_drewN | apply below_drew1 | refine below_set ?_ GE197.out | refine below_set ?_ GE214.out | refine below_set ?_ GE235.out | refine below_set ?_ GE247.out) | exact HB.out)))); have n15_ := Aside0.mk (blk_below (g := gb197) (o := .cells #[.slice Ao31 t190.length co31, .slice Ao33 t193.length co33] 25 (0, 0)) (by (with_reducible repeat (first | refine blk_drewN ?_ _ | refine blk_drew ?_ | refine blk_alloc ?_ _)); refine blk_far ?_ NB197_247.out _; (with_reducible repeat (first | refine blk_drewN ?_ _ | refine blk_drew ?_ | refine blk_alloc ?_ _)); refine blk_far ?_ NB197_247.out _; (with_reducible repeat (first | refine blk_drewN ?_ _ | refine blk_drew ?_ | refine blk_alloc ?_ _)); exact BK197.out) hb); have n16_ := Aside0.mk (blk_below (g := gb214) (o := .cells #[.slice Ao41 t206.length co41, .slice Ao44 t209.length co44] 25 (0, 0)) (by (with_reducible repeat (first | refine blk_drewN ?_ _ | refine blk_drew ?_ | refine blk_alloc ?_ _)); refine blk_far ?_ NB214_247.out _; (with_reducible repeat (first | refine blk_drewN ?_ _ | refine blk_drew ?_ | refine blk_alloc ?_ _)); refine blk_far ?_ NB214_247.out _; (with_reducible repeat (first | refine blk_drewN ?_ _ | refine blk_drew ?_ | refine blk_alloc ?_ _)); exact BK214.out) hb); have n17_ := Aside0.mk (blk_below (g := gb235) (o := .cells #[.slice Ao54 t227.length co54, .slice Ao58 t230.length co58] 25 (0, 0)) (by (with_reducible repeat (first | refine blk_drewN ?_ _ | refine blk_drew ?_ | refine blk_alloc ?_ _)); refine blk_far ?_ NB235_247.out _; (with_reducible repeat (first | refine blk_drewN ?_ _ | refine blk_drew ?_ | refine blk_alloc ?_ _)); refine blk_far ?_ NB235_247.out _; (with_reducible repeat (first | refine blk_drewN ?_ _ | refine blk_drew ?_ | refine blk_alloc ?_ _)); exact BK235.out) hb); have n18_ := Aside0.mk (blk_below (g := gb247) (o := .cells #[.slice Ao65 t239.length co65, .slice Ao70 t242.length co70] 25 (0, 0)) (by (with_reducible repeat (first | refine blk_drewN ?_ _ | refine blk_drew ?_ | refine blk_alloc ?_ _)); refine blk_put (cs := #[.slice Ao65 t239.length co65, .slice none 0 0]) ?_ 1 _ rfl; (with_reducible repeat (first | refine blk_drewN ?_ _ | refine blk_drew ?_ | refine blk_alloc ?_ _)); refine blk_put (cs := #[.slice none 0 0, .slice none 0 0]) ?_ 0 _ rfl; (with_reducible repeat (first | refine blk_drewN ?_ _ | refine blk_drew ?_ | refine blk_alloc ?_ _)); exact BK247.out) hb); have n19_ := Aside0.mk (below_step (by repeat (first | (with_reducible first | exact HB.out | apply below_alloc | apply pw_below_drewN | apply below_drew1 | refine below_set ?_ GE197.out | refine below_set ?_ GE214.out | refine below_set ?_ GE235.out | refine below_set ?_ GE247.out) | exact HB.out)) hb); clear HO192; clear HO195; clear HO200; clear HO205; clear HO208; clear HO211; clear HO217; clear HO222; clear HO226; clear HO229; clear HO232; clear HO238; clear HO241; clear HO244; clear BK197; clear BK214; clear BK235; clear BK247; clear HB; have HO192 := n0_; have HO195 := n1_; have HO200 := n2_; have HO205 := n3_; have HO208 := n4_; have HO211 := n5_; have HO217 := n6_; have HO222 := n7_; have HO226 := n8_; have HO229 := n9_; have HO232 := n10_; have HO238 := n11_; have HO241 := n12_; have HO244 := n13_; have HO250 := n14_; have BK197 := n15_; have BK214 := n16_; have BK235 := n17_; have BK247 := n18_; have HB := n19_; clear n0_ n1_ n2_ n3_ n4_ n5_ n6_ n7_ n8_ n9_ n10_ n11_ n12_ n13_ n14_ n15_ n16_ n17_ n18_ n19_; (try clear hb); (try clear hb2); (try clear hk); (try clear hi); (try clear ho0)) | ((with_reducible refine gate_callee (f := 25) rfl ?_); refine goesL_ (some 74) rfl rfl Try.func25 (by kernel_rfl) rfl #[.int .i64 2] rfl (by (try simp only [List.map_toArray, List.map_cons, List.map_nil]); first | done | rfl | (simp only [List.length_drop, List.length_take]; rfl)) ?_; (with_reducible refine (slot_Format.calls 2 t253 t256 t259 _ A9.out).mono ?_); rintro e w72 ⟨v254, v257, rfl, ho0, ho1, hb⟩; refine ⟨_, rfl, ?_⟩; have n0_ := Aside0.mk (Kd.R_elder' (by (with_reducible repeat (first | apply Kd.R_alloc | apply Kd.R_drewN | apply Kd.R_drew)); exact HO192.out) (Kd.R_base ho0) hb); have n1_ := Aside0.mk (Kd.R_elder' (by (with_reducible repeat (first | apply Kd.R_alloc | apply Kd.R_drewN | apply Kd.R_drew)); exact HO195.out) (Kd.R_base ho1) hb); have n2_ := Aside0.mk (Kd.R_elder' (by (with_reducible repeat (first | apply Kd.R_alloc | apply Kd.R_drewN | apply Kd.R_drew)); exact HO200.out) (Kd.R_base ho0) hb); have n3_ := Aside0.mk (Kd.R_elder' (by (with_reducible repeat (first | apply Kd.R_alloc | apply Kd.R_drewN | apply Kd.R_drew)); exact HO205.out) (Kd.R_base ho0) hb); have n4_ := Aside0.mk (Kd.R_elder' (by (with_reducible repeat (first | apply Kd.R_alloc | apply Kd.R_drewN | apply Kd.R_drew)); exact HO208.out) (Kd.R_base ho0) hb); have n5_ := Aside0.mk (Kd.R_elder' (by (with_reducible repeat (first | apply Kd.R_alloc | apply Kd.R_drewN | apply Kd.R_drew)); exact HO211.out) (Kd.R_base ho1) hb); have n6_ := Aside0.mk (Kd.R_elder' (by (with_reducible repeat (first | apply Kd.R_alloc | apply Kd.R_drewN | apply Kd.R_drew)); exact HO217.out) (Kd.R_base ho0) hb); have n7_ := Aside0.mk (Kd.R_below (by (with_reducible repeat (first | apply Kd.R_alloc | apply Kd.R_drewN | apply Kd.R_drew)); exact HO222.out) hb); have n8_ := Aside0.mk (Kd.R_elder' (by (with_reducible repeat (first | apply Kd.R_alloc | apply Kd.R_drewN | apply Kd.R_drew)); exact HO226.out) (Kd.R_base ho0) hb); have n9_ := Aside0.mk (Kd.R_elder' (by (with_reducible repeat (first | apply Kd.R_alloc | apply Kd.R_drewN | apply Kd.R_drew)); exact HO229.out) (Kd.R_base ho0) hb); have n10_ := Aside0.mk (Kd.R_elder' (by (with_reducible repeat (first | apply Kd.R_alloc | apply Kd.R_drewN | apply Kd.R_drew)); exact HO232.out) (Kd.R_base ho1) hb); have n11_ := Aside0.mk (Kd.R_elder' (by (with_reducible repeat (first | apply Kd.R_alloc | apply Kd.R_drewN | apply Kd.R_drew)); exact HO238.out) (Kd.R_base ho0) hb); have n12_ := Aside0.mk (Kd.R_elder' (by (with_reducible repeat (first | apply Kd.R_alloc | apply Kd.R_drewN | apply Kd.R_drew)); exact HO241.out) (Kd.R_base ho0) hb); have n13_ := Aside0.mk (Kd.R_elder' (by (with_reducible repeat (first | apply Kd.R_alloc | apply Kd.R_drewN | apply Kd.R_drew)); exact HO244.out) (Kd.R_base ho1) hb); have n14_ := Aside0.mk (Kd.R_elder' (by (with_reducible repeat (first | apply Kd.R_alloc | apply Kd.R_drewN | apply Kd.R_drew)); exact HO250.out) (Kd.R_base ho0) hb); have n15_ := Aside0.mk (Kd.R_lower (Kd.R_new' (Kd.R_new' (Kd.R_new' (Kd.R_new' (Kd.R_new' (Kd.R_new' (Kd.R_new' (Kd.R_new' (Kd.R_new' (Kd.R_new' ho0 (Kd.R_lt (by (with_reducible repeat (first | apply Kd.R_alloc | apply Kd.R_drewN | apply Kd.R_drew)); exact HO192.out))) (Kd.R_lt (by (with_reducible repeat (first | apply Kd.R_alloc | apply Kd.R_drewN | apply Kd.R_drew)); exact HO200.out))) (Kd.R_lt (by (with_reducible repeat (first | apply Kd.R_alloc | apply Kd.R_drewN | apply Kd.R_drew)); exact HO205.out))) (Kd.R_lt (by (with_reducible repeat (first | apply Kd.R_alloc | apply Kd.R_drewN | apply Kd.R_drew)); exact HO208.out))) (Kd.R_lt (by (with_reducible repeat (first | apply Kd.R_alloc | apply Kd.R_drewN | apply Kd.R_drew)); exact HO217.out))) (Kd.R_lt (by (with_reducible repeat (first | apply Kd.R_alloc | apply Kd.R_drewN | apply Kd.R_drew)); exact HO226.out))) (Kd.R_lt (by (with_reducible repeat (first | apply Kd.R_alloc | apply Kd.R_drewN | apply Kd.R_drew)); exact HO229.out))) (Kd.R_lt (by (with_reducible repeat (first | apply Kd.R_alloc | apply Kd.R_drewN | apply Kd.R_drew)); exact HO238.out))) (Kd.R_lt (by (with_reducible repeat (first | apply Kd.R_alloc | apply Kd.R_drewN | apply Kd.R_drew)); exact HO241.out))) (Kd.R_lt (by (with_reducible repeat (first | apply Kd.R_alloc | apply Kd.R_drewN | apply Kd.R_drew)); exact HO250.out))) (below_size (by repeat (first | (with_reducible first | exact HB.out | apply below_alloc | apply pw_below_drewN | apply below_drew1 | refine below_set ?_ GE197.out | refine below_set ?_ GE214.out | refine below_set ?_ GE235.out | refine below_set ?_ GE247.out) | exact HB.out)))); have n16_ := Aside0.mk (Kd.R_lower (Kd.R_new' (Kd.R_new' (Kd.R_new' (Kd.R_new' ho1 (Kd.R_lt (by (with_reducible repeat (first | apply Kd.R_alloc | apply Kd.R_drewN | apply Kd.R_drew)); exact HO195.out))) (Kd.R_lt (by (with_reducible repeat (first | apply Kd.R_alloc | apply Kd.R_drewN | apply Kd.R_drew)); exact HO211.out))) (Kd.R_lt (by (with_reducible repeat (first | apply Kd.R_alloc | apply Kd.R_drewN | apply Kd.R_drew)); exact HO232.out))) (Kd.R_lt (by (with_reducible repeat (first | apply Kd.R_alloc | apply Kd.R_drewN | apply Kd.R_drew)); exact HO244.out))) (below_size (by repeat (first | (with_reducible first | exact HB.out | apply below_alloc | apply pw_below_drewN | apply below_drew1 | refine below_set ?_ GE197.out | refine below_set ?_ GE214.out | refine below_set ?_ GE235.out | refine below_set ?_ GE247.out) | exact HB.out)))); have n17_ := Aside0.mk (blk_below (g := gb197) (o := .cells #[.slice Ao31 t190.length co31, .slice Ao33 t193.length co33] 25 (0, 0)) (by (with_reducible repeat (first | refine blk_drewN ?_ _ | refine blk_drew ?_ | refine blk_alloc ?_ _)); exact BK197.out) hb); have n18_ := Aside0.mk (blk_below (g := gb214) (o := .cells #[.slice Ao41 t206.length co41, .slice Ao44 t209.length co44] 25 (0, 0)) (by (with_reducible repeat (first | refine blk_drewN ?_ _ | refine blk_drew ?_ | refine blk_alloc ?_ _)); exact BK214.out) hb); have n19_ := Aside0.mk (blk_below (g := gb235) (o := .cells #[.slice Ao54 t227.length co54, .slice Ao58 t230.length co58] 25 (0, 0)) (by (with_reducible repeat (first | refine blk_drewN ?_ _ | refine blk_drew ?_ | refine blk_alloc ?_ _)); exact BK235.out) hb); have n20_ := Aside0.mk (blk_below (g := gb247) (o := .cells #[.slice Ao65 t239.length co65, .slice Ao70 t242.length co70] 25 (0, 0)) (by (with_reducible repeat (first | refine blk_drewN ?_ _ | refine blk_drew ?_ | refine blk_alloc ?_ _)); exact BK247.out) hb); have n21_ := Aside0.mk (below_step (by repeat (first | (with_reducible first | exact HB.out | apply below_alloc | apply pw_below_drewN | apply below_drew1 | refine below_set ?_ GE197.out | refine below_set ?_ GE214.out | refine below_set ?_ GE235.out | refine below_set ?_ GE247.out) | exact HB.out)) hb); clear HO192; clear HO195; clear HO200; clear HO205; clear HO208; clear HO211; clear HO217; clear HO222; clear HO226; clear HO229; clear HO232; clear HO238; clear HO241; clear HO244; clear HO250; clear BK197; clear BK214; clear BK235; clear BK247; clear HB; have HO192 := n0_; have HO195 := n1_; have HO200 := n2_; have HO205 := n3_; have HO208 := n4_; have HO211 := n5_; have HO217 := n6_; have HO222 := n7_; have HO226 := n8_; have HO229 := n9_; have HO232 := n10_; have HO238 := n11_; have HO241 := n12_; have HO244 := n13_; have HO250 := n14_; have HO255 := n15_; have HO258 := n16_; have BK197 := n17_; have BK214 := n18_; have BK235 := n19_; have BK247 := n20_; have HB := n21_; clear n0_ n1_ n2_ n3_ n4_ n5_ n6_ n7_ n8_ n9_ n10_ n11_ n12_ n13_ n14_ n15_ n16_ n17_ n18_ n19_ n20_ n21_; (try clear hb); (try clear hb2); (try clear hk); (try clear hi); (try clear ho0); (try clear ho1)) | ((with_reducible refine gate_dst (N := 23) rfl ?_); (try (refine gate_guard (by rfl) ?_; dsimp only)); refine box_event ?hg (N := 23) ?hd (cs := #[.slice none 0 0, .slice none 0 0]) (t := 25) ?hr ?_; (case hd => rfl); (case hg => rfl); (case hr => first | (go_simp; done) | (go_simp; rfl)); intro gb260 hg w73 hbox hb; have n0_ := Aside0.mk (Kd.R_below (by (with_reducible repeat (first | apply Kd.R_alloc | apply Kd.R_drewN | apply Kd.R_drew)); exact HO192.out) hb); have n1_ := Aside0.mk (Kd.R_below (by (with_reducible repeat (first | apply Kd.R_alloc | apply Kd.R_drewN | apply Kd.R_drew)); exact HO195.out) hb); have n2_ := Aside0.mk (Kd.R_below (by (with_reducible repeat (first | apply Kd.R_alloc | apply Kd.R_drewN | apply Kd.R_drew)); exact HO200.out) hb); have n3_ := Aside0.mk (Kd.R_below (by (with_reducible repeat (first | apply Kd.R_alloc | apply Kd.R_drewN | apply Kd.R_drew)); exact HO205.out) hb); have n4_ := Aside0.mk (Kd.R_below (by (with_reducible repeat (first | apply Kd.R_alloc | apply Kd.R_drewN | apply Kd.R_drew)); exact HO208.out) hb); have n5_ := Aside0.mk (Kd.R_below (by (with_reducible repeat (first | apply Kd.R_alloc | apply Kd.R_drewN | apply Kd.R_drew)); exact HO211.out) hb); have n6_ := Aside0.mk (Kd.R_below (by (with_reducible repeat (first | apply Kd.R_alloc | apply Kd.R_drewN | apply Kd.R_drew)); exact HO217.out) hb); have n7_ := Aside0.mk (Kd.R_below (by (with_reducible repeat (first | apply Kd.R_alloc | apply Kd.R_drewN | apply Kd.R_drew)); exact HO222.out) hb); have n8_ := Aside0.mk (Kd.R_below (by (with_reducible repeat (first | apply Kd.R_alloc | apply Kd.R_drewN | apply Kd.R_drew)); exact HO226.out) hb); have n9_ := Aside0.mk (Kd.R_below (by (with_reducible repeat (first | apply Kd.R_alloc | apply Kd.R_drewN | apply Kd.R_drew)); exact HO229.out) hb); have n10_ := Aside0.mk (Kd.R_below (by (with_reducible repeat (first | apply Kd.R_alloc | apply Kd.R_drewN | apply Kd.R_drew)); exact HO232.out) hb); have n11_ := Aside0.mk (Kd.R_below (by (with_reducible repeat (first | apply Kd.R_alloc | apply Kd.R_drewN | apply Kd.R_drew)); exact HO238.out) hb); have n12_ := Aside0.mk (Kd.R_below (by (with_reducible repeat (first | apply Kd.R_alloc | apply Kd.R_drewN | apply Kd.R_drew)); exact HO241.out) hb); have n13_ := Aside0.mk (Kd.R_below (by (with_reducible repeat (first | apply Kd.R_alloc | apply Kd.R_drewN | apply Kd.R_drew)); exact HO244.out) hb); have n14_ := Aside0.mk (Kd.R_below (by (with_reducible repeat (first | apply Kd.R_alloc | apply Kd.R_drewN | apply Kd.R_drew)); exact HO250.out) hb); have n15_ := Aside0.mk (Kd.R_below (by (with_reducible repeat (first | apply Kd.R_alloc | apply Kd.R_drewN | apply Kd.R_drew)); exact HO255.out) hb); have n16_ := Aside0.mk (Kd.R_below (by (with_reducible repeat (first | apply Kd.R_alloc | apply Kd.R_drewN | apply Kd.R_drew)); exact HO258.out) hb); have n17_ := Aside0.mk (blk_below (g := gb197) (o := .cells #[.slice Ao31 t190.length co31, .slice Ao33 t193.length co33] 25 (0, 0)) (by (with_reducible repeat (first | refine blk_drewN ?_ _ | refine blk_drew ?_ | refine blk_alloc ?_ _)); exact BK197.out) hb); have n18_ := Aside0.mk (blk_below (g := gb214) (o := .cells #[.slice Ao41 t206.length co41, .slice Ao44 t209.length co44] 25 (0, 0)) (by (with_reducible repeat (first | refine blk_drewN ?_ _ | refine blk_drew ?_ | refine blk_alloc ?_ _)); exact BK214.out) hb); have n19_ := Aside0.mk (blk_below (g := gb235) (o := .cells #[.slice Ao54 t227.length co54, .slice Ao58 t230.length co58] 25 (0, 0)) (by (with_reducible repeat (first | refine blk_drewN ?_ _ | refine blk_drew ?_ | refine blk_alloc ?_ _)); exact BK235.out) hb); have n20_ := Aside0.mk (blk_below (g := gb247) (o := .cells #[.slice Ao65 t239.length co65, .slice Ao70 t242.length co70] 25 (0, 0)) (by (with_reducible repeat (first | refine blk_drewN ?_ _ | refine blk_drew ?_ | refine blk_alloc ?_ _)); exact BK247.out) hb); have n21_ := Aside0.mk (below_step (by repeat (first | (with_reducible first | exact HB.out | apply below_alloc | apply pw_below_drewN | apply below_drew1 | refine below_set ?_ GE197.out | refine below_set ?_ GE214.out | refine below_set ?_ GE235.out | refine below_set ?_ GE247.out) | exact HB.out)) hb); have n22_ := Aside0.mk (hbox); have n23_ := Aside0.mk ((by rw [hg]; exact (below_size (by repeat (first | (with_reducible first | exact HB.out | apply below_alloc | apply pw_below_drewN | apply below_drew1 | refine below_set ?_ GE197.out | refine below_set ?_ GE214.out | refine below_set ?_ GE235.out | refine below_set ?_ GE247.out) | exact HB.out))) : w.heap.size ≤ gb260)); have n24_ := Aside0.mk ((by rw [hg]; exact (below_size (by repeat (first | (with_reducible first | exact HB.out | apply below_alloc | apply pw_below_drewN | apply below_drew1 | refine below_set ?_ GE197.out | refine below_set ?_ GE214.out | refine below_set ?_ GE235.out | refine below_set ?_ GE247.out) | exact HB.out))) : w.heap.size ≤ gb260)); have n25_ := Aside0.mk ((by rw [hg]; exact Nat.ne_of_lt (blk_lt (g := gb197) (o := .cells #[.slice Ao31 t190.length co31, .slice Ao33 t193.length co33] 25 (0, 0)) (by (with_reducible repeat (first | refine blk_drewN ?_ _ | refine blk_drew ?_ | refine blk_alloc ?_ _)); exact BK197.out)) : gb197 ≠ gb260)); have n26_ := Aside0.mk ((by rw [hg]; exact Nat.ne_of_gt (blk_lt (g := gb197) (o := .cells #[.slice Ao31 t190.length co31, .slice Ao33 t193.length co33] 25 (0, 0)) (by (with_reducible repeat (first | refine blk_drewN ?_ _ | refine blk_drew ?_ | refine blk_alloc ?_ _)); exact BK197.out)) : gb260 ≠ gb197)); have n27_ := Aside0.mk ((by rw [hg]; exact Nat.ne_of_lt (blk_lt (g := gb214) (o := .cells #[.slice Ao41 t206.length co41, .slice Ao44 t209.length co44] 25 (0, 0)) (by (with_reducible repeat (first | refine blk_drewN ?_ _ | refine blk_drew ?_ | refine blk_alloc ?_ _)); exact BK214.out)) : gb214 ≠ gb260)); have n28_ := Aside0.mk ((by rw [hg]; exact Nat.ne_of_gt (blk_lt (g := gb214) (o := .cells #[.slice Ao41 t206.length co41, .slice Ao44 t209.length co44] 25 (0, 0)) (by (with_reducible repeat (first | refine blk_drewN ?_ _ | refine blk_drew ?_ | refine blk_alloc ?_ _)); exact BK214.out)) : gb260 ≠ gb214)); have n29_ := Aside0.mk ((by rw [hg]; exact Nat.ne_of_lt (blk_lt (g := gb235) (o := .cells #[.slice Ao54 t227.length co54, .slice Ao58 t230.length co58] 25 (0, 0)) (by (with_reducible repeat (first | refine blk_drewN ?_ _ | refine blk_drew ?_ | refine blk_alloc ?_ _)); exact BK235.out)) : gb235 ≠ gb260)); have n30_ := Aside0.mk ((by rw [hg]; exact Nat.ne_of_gt (blk_lt (g := gb235) (o := .cells #[.slice Ao54 t227.length co54, .slice Ao58 t230.length co58] 25 (0, 0)) (by (with_reducible repeat (first | refine blk_drewN ?_ _ | refine blk_drew ?_ | refine blk_alloc ?_ _)); exact BK235.out)) : gb260 ≠ gb235)); have n31_ := Aside0.mk ((by rw [hg]; exact Nat.ne_of_lt (blk_lt (g := gb247) (o := .cells #[.slice Ao65 t239.length co65, .slice Ao70 t242.length co70] 25 (0, 0)) (by (with_reducible repeat (first | refine blk_drewN ?_ _ | refine blk_drew ?_ | refine blk_alloc ?_ _)); exact BK247.out)) : gb247 ≠ gb260)); have n32_ := Aside0.mk ((by rw [hg]; exact Nat.ne_of_gt (blk_lt (g := gb247) (o := .cells #[.slice Ao65 t239.length co65, .slice Ao70 t242.length co70] 25 (0, 0)) (by (with_reducible repeat (first | refine blk_drewN ?_ _ | refine blk_drew ?_ | refine blk_alloc ?_ _)); exact BK247.out)) : gb260 ≠ gb247)); clear HO192; clear HO195; clear HO200; clear HO205; clear HO208; clear HO211; clear HO217; clear HO222; clear HO226; clear HO229; clear HO232; clear HO238; clear HO241; clear HO244; clear HO250; clear HO255; clear HO258; clear BK197; clear BK214; clear BK235; clear BK247; clear HB; have HO192 := n0_; have HO195 := n1_; have HO200 := n2_; have HO205 := n3_; have HO208 := n4_; have HO211 := n5_; have HO217 := n6_; have HO222 := n7_; have HO226 := n8_; have HO229 := n9_; have HO232 := n10_; have HO238 := n11_; have HO241 := n12_; have HO244 := n13_; have HO250 := n14_; have HO255 := n15_; have HO258 := n16_; have BK197 := n17_; have BK214 := n18_; have BK235 := n19_; have BK247 := n20_; have HB := n21_; have BK260 := n22_; have GW260 := n23_; have GE260 := n24_; have NB197_260 := n25_; have NB260_197 := n26_; have NB214_260 := n27_; have NB260_214 := n28_; have NB235_260 := n29_; have NB260_235 := n30_; have NB247_260 := n31_; have NB260_247 := n32_; clear n0_ n1_ n2_ n3_ n4_ n5_ n6_ n7_ n8_ n9_ n10_ n11_ n12_ n13_ n14_ n15_ n16_ n17_ n18_ n19_ n20_ n21_ n22_ n23_ n24_ n25_ n26_ n27_ n28_ n29_ n30_ n31_ n32_; clear hb hbox hg; obtain ⟨Ao74, co74, eo74⟩ := Kd.R_slice HO255.out; subst eo74; have hnb75 := NB260_197.out; have hnc75 := NB197_260.out; have hnb76 := NB260_214.out; have hnc76 := NB214_260.out; have hnb77 := NB260_235.out; have hnc77 := NB235_260.out; have hnb78 := NB260_247.out; have hnc78 := NB247_260.out; have hcz79_0 : w73.cell? ⟨gb260, 0, none⟩ = some (.slice none 0 0) := (blk_cell BK260.out 0).trans rfl; have hcz79_1 : w73.cell? ⟨gb260, 1, none⟩ = some (.slice none 0 0) := (blk_cell BK260.out 1).trans rfl; have hfz79_0 := blk_frozen BK260.out 0; have hfz79_1 := blk_frozen BK260.out 1; obtain ⟨Ao80, co80, eo80⟩ := Kd.R_slice HO258.out; subst eo80; obtain ⟨Ao81, co81, eo81⟩ := Kd.R_slice HO200.out; subst eo81) | (go_at_call 24; (have CA := Aside0.mk (Kd.R_mono (Kd.R_far (p := ⟨gb260, 1, none⟩) (Kd.R_far (p := ⟨gb260, 0, none⟩) (Kd.R_types HO217.out BK260.out (by decide)) (fun _ hk => hk.2) (.slice Ao74 t253.length co74)) (fun _ hk => hk.2) (.slice Ao80 t256.length co80)) (fun _ h_ => h_.1)); have CB := Aside0.mk (Kd.R_mono (Kd.R_far (p := ⟨gb260, 1, none⟩) (Kd.R_far (p := ⟨gb260, 0, none⟩) (Kd.R_types HO222.out BK260.out (by decide)) (fun _ hk => hk.2) (.slice Ao74 t253.length co74)) (fun _ hk => hk.2) (.slice Ao80 t256.length co80)) (fun _ h_ => h_.1)); have CC := Aside0.mk (Kd.R_mono (Kd.R_far (p := ⟨gb260, 1, none⟩) (Kd.R_far (p := ⟨gb260, 0, none⟩) (Kd.R_types HO250.out BK260.out (by decide)) (fun _ hk => hk.2) (.slice Ao74 t253.length co74)) (fun _ hk => hk.2) (.slice Ao80 t256.length co80)) (fun _ h_ => h_.1)); obtain ⟨Ao84, co84, eo84⟩ := Kd.R_slice CA.out; subst eo84; obtain ⟨Ao85, co85, eo85⟩ := Kd.R_slice CB.out; subst eo85; obtain ⟨Ao86, co86, eo86⟩ := Kd.R_slice CC.out; subst eo86; refine (sextonref01_Texts.calls k _ _ t215 _ 2 [⟨#[97]⟩, ⟨#[98]⟩] true _ (by repeat (first | exact (Kd.R_reads' CA.out).2.2 | (with_reducible refine Kd.C_alloc ?_ _) | (with_reducible refine Kd.C_drewN ?_ _) | (with_reducible refine Kd.C_drew ?_))) (Kd.R_reads' CA.out).2.1 ?lit (by simp) (by rw [← Ny261.out]; exact A17.out)).mono ?_; (case lit => exact lit_S [⟨#[97]⟩, ⟨#[98]⟩] _ _ (by first | rfl | simp [World.setCell]) (by decide)); rintro e w' ⟨rfl, ⟨nd, rfl⟩⟩)) | (go_at_call 46; (refine (sextonref01_Ints.calls k _ _ t220 _ 1 [4] true _ (by repeat (first | exact (Kd.R_reads' CB.out).2.2 | (with_reducible refine Kd.C_alloc ?_ _) | (with_reducible refine Kd.C_drewN ?_ _) | (with_reducible refine Kd.C_drew ?_))) (Kd.R_reads' CB.out).2.1 ?lit (by simp) (by rw [← Ny265.out]; exact A21.out)).mono ?_; (case lit => exact lit_I [4] _ _ (by first | rfl | simp [World.setCell]) (by decide)); rintro e w' ⟨rfl, ⟨nd2, rfl⟩⟩)) | (go_at_call 24; (refine (sextonref01_Texts.calls k _ _ t248 _ 1 [⟨#[99]⟩] true _ (by repeat (first | exact (Kd.R_reads' CC.out).2.2 | (with_reducible refine Kd.C_alloc ?_ _) | (with_reducible refine Kd.C_drewN ?_ _) | (with_reducible refine Kd.C_drew ?_))) (Kd.R_reads' CC.out).2.1 ?lit (by simp) (by rw [← Ny269.out]; exact A26.out)).mono ?_; (case lit => exact lit_S [⟨#[99]⟩] _ _ (by first | rfl | simp [World.setCell]) (by decide)); rintro e w' ⟨rfl, ⟨nd3, rfl⟩⟩)))
                                  go_ret
                                  exact ⟨by first | rfl | (simp [errW_none, errW_some] <;> rfl) | (simp [*, errW_none, errW_some] <;> rfl), by repeat (first | (with_reducible first | exact HB.out | apply below_alloc | apply pw_below_drewN | apply below_drew1 | refine below_set ?_ GE197.out | refine below_set ?_ GE214.out | refine below_set ?_ GE235.out | refine below_set ?_ GE247.out | refine below_set ?_ GE260.out) | exact HB.out)⟩
                                · rw [if_neg c28] at H
                                  exact absurd (H.trans (congrArg some HRT.out)) (by decide)
                              · replace c27 := Bool.eq_false_iff.mpr c27
                                subst c27
                                have H1 : (some false) = some r := by rw [if_neg (show ¬ (false = true) by decide)] at H; exact H
                                exact absurd (H1.trans (congrArg some HRT.out)) (by decide)
                            · rw [if_neg c25] at H
                              exact absurd (H.trans (congrArg some HRT.out)) (by decide)
                          · rw [if_neg c24] at H
                            exact absurd (H.trans (congrArg some HRT.out)) (by decide)
                        · rw [if_neg c23] at H
                          exact absurd (H.trans (congrArg some HRT.out)) (by decide)
                      · replace c22 := Bool.eq_false_iff.mpr c22
                        subst c22
                        have H1 : (some false) = some r := by rw [if_neg (show ¬ (false = true) by decide)] at H; exact H
                        exact absurd (H1.trans (congrArg some HRT.out)) (by decide)
                    · rw [if_neg c20] at H
                      exact absurd (H.trans (congrArg some HRT.out)) (by decide)
                  · rw [if_neg c19] at H
                    exact absurd (H.trans (congrArg some HRT.out)) (by decide)
                · replace c18 := Bool.eq_false_iff.mpr c18
                  subst c18
                  have H1 : (some false) = some r := by rw [if_neg (show ¬ (false = true) by decide)] at H; exact H
                  exact absurd (H1.trans (congrArg some HRT.out)) (by decide)
              · rw [if_neg c16] at H
                exact absurd (H.trans (congrArg some HRT.out)) (by decide)
            · rw [if_neg c15] at H
              exact absurd (H.trans (congrArg some HRT.out)) (by decide)
          · replace c14 := Bool.eq_false_iff.mpr c14
            subst c14
            have H1 : (some false) = some r := by rw [if_neg (show ¬ (false = true) by decide)] at H; exact H
            exact absurd (H1.trans (congrArg some HRT.out)) (by decide)
        · rw [if_neg c13] at H
          exact absurd (H.trans (congrArg some HRT.out)) (by decide)
      · rw [if_neg c12] at H
        exact absurd (H.trans (congrArg some HRT.out)) (by decide)
    · rw [if_neg c11] at H
      exact absurd (H.trans (congrArg some HRT.out)) (by decide)
  · rw [if_neg c10] at H
    exact absurd (H.trans (congrArg some HRT.out)) (by decide)

/-- THE ONE PURE STATEMENT of sextonlaw06_shelvedP: yours. -/

theorem sextonlaw06_shelvedP_true : sextonlaw06_shelvedP.f 60 = some true := by decide +kernel
/-- What it answers. -/
def sextonlaw06_shelved.f : Option Bool := some true
theorem sextonlaw06_shelved.calls (r : Bool) (w : World) (h : sextonlaw06_shelved.f = some r) :
    Calls Try.prog 22 #[] w fun e w' => e = .returned (.bool r) ∧ Below w.heap.size w w' := by
  obtain rfl := Option.some.inj h
  exact sextonlaw06_shelvedP.calls 60 true (w := w) (h := sextonlaw06_shelvedP_true)
end Go.Proofs.Ytkgcaheddhfpgaa.P
/-
  What a crash leaves, plainly.
-/
namespace Go.Proofs.Ytkgcaheddhfpgaa.P
open Go.RowKit Go.Proofs.YtkgcaheddhfpgaaW.PrintWords Go.Proofs.YtkgcaheddhfpgaaW.PrintLast Go.Proofs.Plain

theorem apply_from (p : Int → Bool) : ∀ (l : List S73) (i : Nat) (b : List ByteArray) (k : Nat), k < b.length →
    (applyW p i l b)[k]? = b[k]? ∨ ∃ x ∈ l, x.f0.toNat = k ∧ (applyW p i l b)[k]? = some x.f1
  | [], i, b, k, h => .inl rfl
  | y :: l, i, b, k, h => by
    simp only [applyW]
    by_cases hp : p (i : Int) = true
    · rw [if_pos hp]
      rcases apply_from p l (i + 1) (b.set y.f0.toNat y.f1) k (by simpa using h) with h1 | ⟨x, hx, h2, h3⟩
      · by_cases hk : y.f0.toNat = k
        · right
          refine ⟨y, List.mem_cons_self, hk, ?_⟩
          rw [h1, List.getElem?_set, if_pos hk, if_pos (by omega)]
        · left
          rw [h1, List.getElem?_set, if_neg hk]
      · exact .inr ⟨x, List.mem_cons_of_mem _ hx, h2, h3⟩
    · rw [if_neg hp]
      rcases apply_from p l (i + 1) b k h with h1 | ⟨x, hx, h2, h3⟩
      · exact .inl h1
      · exact .inr ⟨x, List.mem_cons_of_mem _ hx, h2, h3⟩


theorem crash_parts (p : Int → Bool) {l0 : List ByteArray} {l1 : List S73} (h : checkB l0 l1 = true) (k : Nat) (hk : k < (applyW p 0 l1 l0).length) (hk' : k < l0.length) :
    (applyW p 0 l1 l0)[k] = l0[k] ∨ ∃ x ∈ l1, x.f0 = (k : Int) ∧ x.f1 = (applyW p 0 l1 l0)[k] := by
  obtain ⟨_, _, _, _, hx⟩ := check_len h
  rcases apply_from p l1 0 l0 k hk' with h1 | ⟨x, hm, h2, h3⟩
  · left
    rw [List.getElem?_eq_getElem hk, List.getElem?_eq_getElem hk'] at h1
    exact Option.some.inj h1
  · right
    rw [List.getElem?_eq_getElem hk] at h3
    have := hx x hm
    exact ⟨x, hm, by omega, (Option.some.inj h3).symm⟩

theorem crash_right (p : Int → Bool) {l0 : List ByteArray} {l1 : List S73} (h : checkB l0 l1 = true) : checkB (applyW p 0 l1 l0) [] = true := by
  obtain ⟨h1, h2, h3, h4, h5⟩ := check_len h
  unfold checkB
  have hany : (applyW p 0 l1 l0).any longS = false := by
    rw [List.any_eq_false]
    intro s hs
    obtain ⟨k, hk, rfl⟩ := List.getElem_of_mem hs
    have hsz : (applyW p 0 l1 l0)[k].size ≤ 256 := by
      rcases crash_parts p h k hk (by rw [applyW_length] at hk; exact hk) with e | ⟨x, hx, _, e⟩
      · rw [e]; exact h4 _ (List.getElem_mem _)
      · rw [← e]; exact (h5 x hx).2.2
    unfold longS
    simp
    omega
  rw [hany, applyW_length]
  simp
  omega

end Go.Proofs.Ytkgcaheddhfpgaa.P
/-
  What a Stop makes of a twin, plainly.
-/
namespace Go.Proofs.Ytkgcaheddhfpgaa.P
open Go.RowKit Go.Proofs Go.Proofs.CodecPlain Go.Proofs.YtkgcaheddhfpgaaW.PrintWords Go.Proofs.YtkgcaheddhfpgaaW.PrintLast Go.Proofs.Plain

/-- What a disk's blocks say. -/
def contW (l0 : List ByteArray) (l1 : List S73) : List ByteArray := applyW (fun _ => true) 0 l1 l0
theorem contW_length (l0 : List ByteArray) (l1 : List S73) : (contW l0 l1).length = l0.length := applyW_length _ _ _ _
theorem contW_nil (l0 : List ByteArray) : contW l0 [] = l0 := rfl
theorem contW_snoc (l0 : List ByteArray) (l1 : List S73) (at_ : Int) (f : ByteArray) : contW l0 (l1 ++ [⟨at_, f⟩]) = (contW l0 l1).set at_.toNat f := by
  unfold contW
  rw [applyW_snoc, if_pos rfl]
theorem readV_at {l0 : List ByteArray} {l1 : List S73} {i : Int} (h : checkB l0 l1 = true) (h0 : 0 ≤ i) (h1 : i < (l0.length : Int)) : readV l0 l1 i = (rdOf ByteArray.empty (contW l0 l1) i, 0) := by
  unfold readV contW
  rw [if_neg (by rw [h]; decide), if_neg (by omega)]
theorem readV_out {l0 : List ByteArray} {l1 : List S73} {i : Int} (h : checkB l0 l1 = true) (h0 : i < 0 ∨ i ≥ (l0.length : Int)) : readV l0 l1 i = (⟨#[]⟩, 40) := by
  unfold readV
  rw [if_neg (by rw [h]; decide), if_pos h0]
theorem ver_put (m : Int) (s : ByteArray) (h0 : 0 ≤ m) (h1 : m ≤ 4294967295) (hs : s.size ≤ 200) : verV (frameOf (numStr m ++ s)) = (m, s, true) := by
  have hz := numStr_size m
  have hg := getFrame_put (numStr m ++ s) (by rw [CodecPlain.size_append]; omega) ⟨#[]⟩
  rw [show frameOf (numStr m ++ s) ++ (⟨#[]⟩ : ByteArray) = frameOf (numStr m ++ s) from ByteArray.append_empty] at hg
  unfold verV
  rw [hg]
  simp only
  rw [if_pos ⟨trivial, trivial⟩]
  exact getNum_put m h0 h1 s
theorem frame_short (m : Int) (s : ByteArray) (hs : s.size ≤ 200) : longS (frameOf (numStr m ++ s)) = false := by
  have hz := numStr_size m
  have := (frame_size (numStr m ++ s)).2
  rw [CodecPlain.size_append] at this
  unfold longS
  exact decide_eq_false (by omega)
/-- A twin that can be read: its place, and the newer copy. -/
structure TwinAt (l0 : List ByteArray) (l1 : List S73) (a : Int) (n0 : Int) (t0 : ByteArray) (k0 : Bool) (n1 : Int) (t1 : ByteArray) (k1 : Bool) : Prop where
  check : checkB l0 l1 = true
  low : 0 ≤ a
  high : a + 1 < (l0.length : Int)
  v0 : verV (rdOf ByteArray.empty (contW l0 l1) a) = (n0, t0, k0)
  v1 : verV (rdOf ByteArray.empty (contW l0 l1) (a + 1)) = (n1, t1, k1)
  apart : ¬ (k0 = true ∧ k1 = true ∧ n0 = n1)
theorem TwinAt.pair {l0 : List ByteArray} {l1 : List S73} {a n0 n1 : Int} {t0 t1 : ByteArray} {k0 k1 : Bool} (h : TwinAt l0 l1 a n0 t0 k0 n1 t1 k1) : pairV l0 l1 a = (n0, t0, k0, n1, t1, k1, 0) := by
  have hl := (check_len h.check).2.1
  have h1 := h.low
  have h2 := h.high
  unfold pairV
  rw [wrap_at (x := a) (by omega) (by omega), wrap_at (x := a + 1) (by omega) (by omega), readV_at h.check h.low (by omega), readV_at h.check (by omega) h.high]
  simp only
  rw [if_pos trivial, if_pos trivial, h.v0, h.v1]
  simp only
  rw [if_neg h.apart]
theorem twin_of {l0 : List ByteArray} {l1 : List S73} {a : Int} (ha : -9223372036854775808 ≤ a ∧ a ≤ 9223372036854775807) {n0 : Int} {t0 : ByteArray} {k0 : Bool} {n1 : Int} {t1 : ByteArray} {k1 : Bool} (hp : pairV l0 l1 a = (n0, t0, k0, n1, t1, k1, 0)) : TwinAt l0 l1 a n0 t0 k0 n1 t1 k1 := by
  obtain ⟨g1, g2, g3, g4, g5⟩ := pair_ok hp
  rw [wrap_at ha.1 ha.2] at g1 g3
  obtain ⟨o1, o2, o3, o4⟩ := readV_ok g1
  have hl := (check_len o1).2.1
  rw [wrap_at (x := a + 1) (by omega) (by omega)] at g2 g4
  obtain ⟨p1, p2, p3, p4⟩ := readV_ok g2
  exact ⟨o1, o2, p3, by rw [g3, o4]; rfl, by rw [g4, p4]; rfl, g5⟩
/-- The newer copy's number and text. -/
def newN (n0 : Int) (k0 : Bool) (n1 : Int) (k1 : Bool) : Int := if newB n0 k0 n1 k1 = true then n0 else n1
def newT (n0 : Int) (t0 : ByteArray) (k0 : Bool) (n1 : Int) (t1 : ByteArray) (k1 : Bool) : ByteArray := if newB n0 k0 n1 k1 = true then t0 else t1
theorem TwinAt.get {l0 : List ByteArray} {l1 : List S73} {a n0 n1 : Int} {t0 t1 : ByteArray} {k0 k1 : Bool} (h : TwinAt l0 l1 a n0 t0 k0 n1 t1 k1) : getT l0 l1 a = (newT n0 t0 k0 n1 t1 k1, newN n0 k0 n1 k1, 0) := by
  unfold getT newT newN
  rw [h.pair]
  simp only
  rw [if_pos trivial]
  split <;> rfl
theorem TwinAt.num {l0 : List ByteArray} {l1 : List S73} {a n0 n1 : Int} {t0 t1 : ByteArray} {k0 k1 : Bool} (h : TwinAt l0 l1 a n0 t0 k0 n1 t1 k1) : 0 ≤ n0 ∧ 0 ≤ n1 ∧ 0 ≤ newN n0 k0 n1 k1 := by
  have h0 := ver_bd (rdOf ByteArray.empty (contW l0 l1) a)
  have h1 := ver_bd (rdOf ByteArray.empty (contW l0 l1) (a + 1))
  rw [h.v0] at h0
  rw [h.v1] at h1
  simp only at h0 h1
  refine ⟨h0, h1, ?_⟩
  unfold newN
  split
  · exact h0
  · exact h1
/-- The block to which the next copy goes. -/
def nextAt (a n0 : Int) (k0 : Bool) (n1 : Int) (k1 : Bool) : Int := a + 1 - newV n0 k0 n1 k1
theorem nextAt_is (a n0 : Int) (k0 : Bool) (n1 : Int) (k1 : Bool) : newB n0 k0 n1 k1 = true ∧ nextAt a n0 k0 n1 k1 = a + 1 ∨ newB n0 k0 n1 k1 = false ∧ nextAt a n0 k0 n1 k1 = a := by
  unfold nextAt newV
  cases h : newB n0 k0 n1 k1
  · right; simp
  · left; simp
/-- Behind the next copy: it is the newer one. -/
theorem TwinAt.next {l0 : List ByteArray} {l1 : List S73} {a n0 n1 : Int} {t0 t1 : ByteArray} {k0 k1 : Bool} (h : TwinAt l0 l1 a n0 t0 k0 n1 t1 k1) {s : ByteArray} (hs : s.size ≤ 200) (hn : newN n0 k0 n1 k1 < 1000000000)
    {c0 : List ByteArray} {c1 : List S73} (hck : checkB c0 c1 = true) (hc : contW c0 c1 = (contW l0 l1).set (nextAt a n0 k0 n1 k1).toNat (frameOf (numStr (newN n0 k0 n1 k1 + 1) ++ s))) :
    ∃ m0 u0 j0 m1 u1 j1, TwinAt c0 c1 a m0 u0 j0 m1 u1 j1 ∧ newN m0 j0 m1 j1 = newN n0 k0 n1 k1 + 1 ∧ newT m0 u0 j0 m1 u1 j1 = s := by
  obtain ⟨b0, b1, b2⟩ := h.num
  have hl := h.low
  have hh := h.high
  have hlen : c0.length = l0.length := by rw [← contW_length c0 c1, hc, List.length_set, contW_length]
  have hcl : (contW l0 l1).length = l0.length := contW_length l0 l1
  have hv := ver_put (newN n0 k0 n1 k1 + 1) s (by omega) (by omega) hs
  have hset : ∀ i : Int, 0 ≤ i → rdOf ByteArray.empty (contW c0 c1) i = if i = nextAt a n0 k0 n1 k1 then frameOf (numStr (newN n0 k0 n1 k1 + 1) ++ s) else rdOf ByteArray.empty (contW l0 l1) i := by
    intro i hi
    rw [hc]
    exact rdOf_set _ _ _ _ (by rcases nextAt_is a n0 k0 n1 k1 with h | h <;> omega) (by rcases nextAt_is a n0 k0 n1 k1 with h | h <;> omega) hi
  rcases nextAt_is a n0 k0 n1 k1 with ⟨hb, hx⟩ | ⟨hb, hx⟩
  · have e : newN n0 k0 n1 k1 = n0 := by unfold newN; rw [if_pos hb]
    have hk : k0 = true := by unfold newB at hb; revert hb; cases k0 <;> simp
    have r0 := hset a (by omega)
    have r1 := hset (a + 1) (by omega)
    rw [if_neg (by omega)] at r0
    rw [if_pos (by omega)] at r1
    have hnb : newB n0 k0 (n0 + 1) true = false := by
      unfold newB
      rw [hk, decide_eq_false (by omega)]
      rfl
    refine ⟨n0, t0, k0, n0 + 1, s, true, ⟨hck, hl, by omega, by rw [r0]; exact h.v0, by rw [r1, hv, e], fun hq => by omega⟩, ?_, ?_⟩
    · unfold newN; rw [hnb, hb]; simp
    · unfold newT; rw [hnb]; simp
  · have e : newN n0 k0 n1 k1 = n1 := by unfold newN; rw [hb]; simp
    have r0 := hset a (by omega)
    have r1 := hset (a + 1) (by omega)
    rw [if_pos (by omega)] at r0
    rw [if_neg (by omega)] at r1
    have hnb : newB (n1 + 1) true n1 k1 = true := by
      unfold newB
      rw [decide_eq_true (show n1 + 1 > n1 by omega)]
      simp
    refine ⟨n1 + 1, s, true, n1, t1, k1, ⟨hck, hl, by omega, by rw [r0, hv, e], by rw [r1]; exact h.v1, fun hq => by omega⟩, ?_, ?_⟩
    · unfold newN; rw [hnb, hb]; simp
    · unfold newT; rw [hnb]; simp
/-- What a Stop makes that is not refused: one write, or none. -/
theorem TwinAt.stop {l0 : List ByteArray} {l1 : List S73} {a n0 n1 : Int} {t0 t1 : ByteArray} {k0 k1 : Bool} (h : TwinAt l0 l1 a n0 t0 k0 n1 t1 k1) (s : ByteArray) (deeds : Int) :
    stopV l0 l1 a s deeds = (if 200 < s.size ∨ 1000000000 ≤ newN n0 k0 n1 k1 then ([], [], false, 2) else if l1.length = 100 then ([], [], false, 41) else
      if deeds = 0 then (l0, l1, false, 0) else if deeds = 1 then (l0, l1 ++ [⟨nextAt a n0 k0 n1 k1, frameOf (numStr (newN n0 k0 n1 k1 + 1) ++ s)⟩], false, 0)
      else ((contW l0 l1).set (nextAt a n0 k0 n1 k1).toNat (frameOf (numStr (newN n0 k0 n1 k1 + 1) ++ s)), [], true, 0)) := by
  have hl := h.low
  have hh := h.high
  unfold stopV
  rw [h.pair]
  simp only
  rw [if_pos trivial]
  show (if 200 < s.size ∨ 1000000000 ≤ newN n0 k0 n1 k1 then _ else stopW l0 l1 (nextAt a n0 k0 n1 k1) (frameOf (numStr (newN n0 k0 n1 k1 + 1) ++ s)) deeds) = _
  by_cases hlim : 200 < s.size ∨ 1000000000 ≤ newN n0 k0 n1 k1
  · rw [if_pos hlim, if_pos hlim]
  · rw [if_neg hlim, if_neg hlim]
    have ha : ¬ (nextAt a n0 k0 n1 k1 < 0 ∨ nextAt a n0 k0 n1 k1 ≥ (l0.length : Int)) := by rcases nextAt_is a n0 k0 n1 k1 with q | q <;> omega
    have hlo := frame_short (newN n0 k0 n1 k1 + 1) s (by omega)
    have hwv : writeV l0 l1 (nextAt a n0 k0 n1 k1) (frameOf (numStr (newN n0 k0 n1 k1 + 1) ++ s)) = if l1.length = 100 then ([], [], 41) else (l0, l1 ++ [⟨nextAt a n0 k0 n1 k1, frameOf (numStr (newN n0 k0 n1 k1 + 1) ++ s)⟩], 0) := by
      unfold writeV
      rw [if_neg (by rw [h.check]; decide), if_neg ha, if_neg (show ¬ longS (frameOf (numStr (newN n0 k0 n1 k1 + 1) ++ s)) = true by rw [hlo]; decide)]
    unfold stopW
    rw [hwv]
    by_cases hf : l1.length = 100
    · rw [if_pos hf, if_pos hf]
      rfl
    · rw [if_neg hf, if_neg hf]
      have hck := check_write h.check ha hlo hf
      have hd : (doneV (fun _ => true) l0 (l1 ++ [⟨nextAt a n0 k0 n1 k1, frameOf (numStr (newN n0 k0 n1 k1 + 1) ++ s)⟩])).1 = (contW l0 l1).set (nextAt a n0 k0 n1 k1).toNat (frameOf (numStr (newN n0 k0 n1 k1 + 1) ++ s)) := by
        unfold doneV
        rw [if_pos hck, ← contW_snoc]
        rfl
      simp only [if_true]
      rw [hd]
theorem TwinAt.stopped {l0 : List ByteArray} {l1 : List S73} {a n0 n1 : Int} {t0 t1 : ByteArray} {k0 k1 : Bool} (h : TwinAt l0 l1 a n0 t0 k0 n1 t1 k1) (s : ByteArray) (hs : s.size ≤ 200) (hf : ¬ l1.length = 100) :
    checkB l0 (l1 ++ [⟨nextAt a n0 k0 n1 k1, frameOf (numStr (newN n0 k0 n1 k1 + 1) ++ s)⟩]) = true ∧ checkB ((contW l0 l1).set (nextAt a n0 k0 n1 k1).toNat (frameOf (numStr (newN n0 k0 n1 k1 + 1) ++ s))) [] = true := by
  have hl := h.low
  have hh := h.high
  have ha : ¬ (nextAt a n0 k0 n1 k1 < 0 ∨ nextAt a n0 k0 n1 k1 ≥ (l0.length : Int)) := by rcases nextAt_is a n0 k0 n1 k1 with q | q <;> omega
  have hck := check_write h.check ha (frame_short (newN n0 k0 n1 k1 + 1) s hs) hf
  refine ⟨hck, ?_⟩
  have := crash_right (fun _ => true) hck
  rw [← contW_snoc]
  exact this
/-- Where a Stop is not refused there is a twin. -/
theorem stop_twin {l0 : List ByteArray} {l1 : List S73} {a : Int} (ha : -9223372036854775808 ≤ a ∧ a ≤ 9223372036854775807) {s : ByteArray} {deeds : Int} (h : (stopV l0 l1 a s deeds).2.2.2 = 0) : ∃ n0 t0 k0 n1 t1 k1, TwinAt l0 l1 a n0 t0 k0 n1 t1 k1 ∧ s.size ≤ 200 ∧ newN n0 k0 n1 k1 < 1000000000 ∧ ¬ l1.length = 100 := by
  obtain ⟨⟨n0, t0, k0, n1, t1, k1, er⟩, hp⟩ : ∃ p, pairV l0 l1 a = p := ⟨_, rfl⟩
  by_cases he : er = 0
  · subst he
    have ht := twin_of ha hp
    rw [ht.stop] at h
    refine ⟨n0, t0, k0, n1, t1, k1, ht, ?_⟩
    split at h
    · cases h
    · split at h
      · cases h
      · exact ⟨by omega, by omega, by assumption⟩
  · unfold stopV at h
    rw [hp] at h
    simp only at h
    rw [if_neg he] at h
    exact absurd h he
end Go.Proofs.Ytkgcaheddhfpgaa.P
/-
  What is left of a twin behind a Stop and a crash, plainly.
-/
namespace Go.Proofs.Ytkgcaheddhfpgaa.P
open Go.RowKit Go.Proofs Go.Proofs.CodecPlain Go.Proofs.YtkgcaheddhfpgaaW.PrintWords Go.Proofs.YtkgcaheddhfpgaaW.PrintLast Go.Proofs.Plain

end Go.Proofs.Ytkgcaheddhfpgaa.P
/-
  What a Save makes of a shelf, plainly.
-/
namespace Go.Proofs.Ytkgcaheddhfpgaa.P
open Go.RowKit Go.Proofs Go.Proofs.CodecPlain Go.Proofs.YtkgcaheddhfpgaaW.PrintWords Go.Proofs.YtkgcaheddhfpgaaW.PrintLast Go.Proofs.Plain

theorem ba_nil_right (s : ByteArray) : s ++ (⟨#[]⟩ : ByteArray) = s := ByteArray.append_empty
/-! ### Tables -/
theorem blkFold (nb : Int) : ∀ (L acc : List Int), (acc ++ L).Nodup → (∀ b ∈ L, 2 ≤ b ∧ b < nb ∧ b ≤ 4294967295) → (L.map numStr).foldl (blkStep nb) (acc, true) = (acc ++ L, true)
  | [], acc, _, _ => by simp
  | b :: L, acc, hn, hb => by
    obtain ⟨h1, h2, h3⟩ := hb b List.mem_cons_self
    have hg := getNum_put b (by omega) h3 ⟨#[]⟩
    rw [ba_nil_right] at hg
    have hna : b ∉ acc := fun h => by
      have := (List.nodup_append.1 hn).2.2 b h b List.mem_cons_self
      exact this rfl
    have hs : blkStep nb (acc, true) (numStr b) = (acc ++ [b], true) := by
      unfold blkStep
      rw [hg]
      simp [h1, h2, hna]
    rw [List.map_cons, List.foldl_cons, hs, blkFold nb L (acc ++ [b]) (by rw [List.append_assoc]; exact hn) (fun x hx => hb x (List.mem_cons_of_mem _ hx))]
    simp
theorem blocks_named (nb : Int) (L : List Int) (hl : L.length ≤ 1000) (hn : L.Nodup) (hb : ∀ b ∈ L, 2 ≤ b ∧ b < nb ∧ b ≤ 4294967295) : blocksV (rowStr (L.map numStr)) nb = (L, true) := by
  have hg := getRow_put (L.map numStr) (by simpa using hl) (fun s hs => by
    obtain ⟨b, _, rfl⟩ := List.mem_map.1 hs
    have := numStr_size b
    omega) ⟨#[]⟩
  rw [ba_nil_right] at hg
  have hne : ¬ rowStr (L.map numStr) = ⟨#[]⟩ := fun h => by
    have h2 := congrArg ByteArray.size h
    unfold rowStr at h2
    rw [CodecPlain.size_append] at h2
    have := numStr_size ((L.map numStr).length : Int)
    have h3 : (⟨#[]⟩ : ByteArray).size = 0 := rfl
    omega
  unfold blocksV
  rw [if_neg hne, hg]
  simp only
  rw [blkFold nb L [] (by simpa using hn) hb]
  simp
/-! ### Free blocks -/
theorem freeK_rise (tb : List Int) (k : Nat) : (freeK tb k).Pairwise (· < ·) := by
  unfold freeK
  rw [List.pairwise_map]
  refine (List.pairwise_lt_range.filter _).imp ?_
  intro a b h
  exact_mod_cast h
theorem freeK_nodup (tb : List Int) (k : Nat) : (freeK tb k).Nodup := (freeK_rise tb k).imp (fun h => by omega)
theorem freeK_mem' {tb : List Int} {k : Nat} {b : Int} (h : b ∈ freeK tb k) : 2 ≤ b ∧ b < k ∧ b ∉ tb := by
  unfold freeK at h
  obtain ⟨i, hi, rfl⟩ := List.mem_map.1 h
  obtain ⟨h1, h2⟩ := List.mem_filter.1 hi
  have h3 := List.mem_range.1 h1
  simp only [Bool.and_eq_true, decide_eq_true_eq, Bool.not_eq_true', decide_eq_false_iff_not] at h2
  exact ⟨by omega, by omega, h2.2⟩
/-! ### Loads -/
structure LoadOk (b : List ByteArray) (u : List S73) (n : Int) (tb : List Int) (pg : List ByteArray) : Prop where
  len : 3 ≤ b.length
  chk : checkB b u = true
  get : ∃ T, getT b u 0 = (T, n, 0) ∧ blocksV T (b.length : Int) = (tb, true)
  all : tb.all (fun i => (pageV b u i).isSome) = true
  pages : pg = pagesV b u tb
theorem LoadOk.load {b : List ByteArray} {u : List S73} {n : Int} {tb : List Int} {pg : List ByteArray} (h : LoadOk b u n tb pg) : loadV b u = (n, tb, pg, 0) := by
  obtain ⟨T, h1, h2⟩ := h.get
  have h3 := h.len
  unfold loadV
  rw [h1]
  simp only
  rw [h2]
  simp only
  rw [if_neg (by omega), if_neg (by simp), if_neg (by simp), if_pos h.all, h.pages]
/-- A load tells the same where no block is another one but free ones. -/
theorem load_keep {b : List ByteArray} {u : List S73} {n : Int} {tb : List Int} {pg : List ByteArray} (h : LoadOk b u n tb pg) {c : List ByteArray} {v : List S73} (hc : checkB c v = true) (hl : c.length = b.length)
    (hk : ∀ i : Int, 0 ≤ i → i < (b.length : Int) → i ∉ freeK tb b.length → rdOf ByteArray.empty (contW c v) i = rdOf ByteArray.empty (contW b u) i) : LoadOk c v n tb pg := by
  have hr : ∀ i : Int, i ∉ freeK tb b.length → readV c v i = readV b u i := by
    intro i hi
    by_cases h0 : 0 ≤ i ∧ i < (b.length : Int)
    · rw [readV_at hc h0.1 (by omega), readV_at h.chk h0.1 h0.2, hk i h0.1 h0.2 hi]
    · rw [readV_out hc (by omega), readV_out h.chk (by omega)]
  have hg : getT c v 0 = getT b u 0 := by
    have r0 := hr 0 (fun q => by have := freeK_mem' q; omega)
    have r1 := hr 1 (fun q => by have := freeK_mem' q; omega)
    unfold getT pairV
    rw [show wrap64 0 = 0 by (unfold wrap64; omega), show wrap64 (0 + 1) = 1 by (unfold wrap64; omega), r0, r1]
  obtain ⟨T, h1, h2⟩ := h.get
  have hp : ∀ i ∈ tb, pageV c v i = pageV b u i := by
    intro i hi
    unfold pageV
    rw [hr i (fun q => (freeK_mem' q).2.2 hi)]
  refine ⟨by have := h.len; omega, hc, ⟨T, by rw [hg, h1], by rw [hl, h2]⟩, ?_, ?_⟩
  · rw [List.all_eq_true]
    intro i hi
    rw [hp i hi]
    exact List.all_eq_true.1 h.all i hi
  · rw [h.pages]
    unfold pagesV
    refine List.map_congr_left (fun i hi => ?_)
    rw [hp i hi]
end Go.Proofs.Ytkgcaheddhfpgaa.P
/-
  The deeds of a Save, plainly: what they leave at any stop.
-/
namespace Go.Proofs.Ytkgcaheddhfpgaa.P
open Go.RowKit Go.Proofs Go.Proofs.CodecPlain Go.Proofs.YtkgcaheddhfpgaaW.PrintWords Go.Proofs.YtkgcaheddhfpgaaW.PrintLast Go.Proofs.Plain

theorem nodup_inj {l : List Int} (h : l.Nodup) {i j : Nat} (hi : i < l.length) (hj : j < l.length) (e : l[i] = l[j]) : i = j := by
  rcases Nat.lt_trichotomy i j with h1 | h1 | h1
  · exact absurd e (List.pairwise_iff_getElem.1 h i j hi hj h1)
  · exact h1
  · exact absurd e.symm (List.pairwise_iff_getElem.1 h j i hj hi h1)
/-- The writes of the first i pages. -/
def ws (fr : List Int) (t : List ByteArray) (i : Nat) : List S73 := (List.range i).map (fun j : Nat => ⟨rd fr (j : Int), frameOf (rdOf ByteArray.empty t (j : Int))⟩)
theorem ws_succ (fr : List Int) (t : List ByteArray) (i : Nat) : ws fr t (i + 1) = ws fr t i ++ [⟨rd fr (i : Int), frameOf (rdOf ByteArray.empty t (i : Int))⟩] := by
  unfold ws
  rw [List.range_succ, List.map_append]
  rfl
/-- What a Save needs: room, and short texts. -/
structure Room (b : List ByteArray) (fr : List Int) (t : List ByteArray) : Prop where
  most : t.length ≤ fr.length
  nodup : fr.Nodup
  range : ∀ i ∈ fr, 2 ≤ i ∧ i < (b.length : Int)
  short : ∀ s ∈ t, s.size ≤ 200
variable {b : List ByteArray} {fr : List Int} {t : List ByteArray}
theorem Room.at_ (h : Room b fr t) {i : Nat} (hi : i < t.length) : rd fr (i : Int) ∈ fr ∧ 2 ≤ rd fr (i : Int) ∧ rd fr (i : Int) < (b.length : Int) := by
  have hlt : i < fr.length := Nat.lt_of_lt_of_le hi h.most
  rw [slot_rd fr i hlt]
  exact ⟨List.getElem_mem hlt, h.range _ (List.getElem_mem hlt)⟩
theorem Room.text (h : Room b fr t) {i : Nat} (hi : i < t.length) : (rdOf ByteArray.empty t (i : Int)).size ≤ 200 := by
  rw [slot_rds t i hi]
  exact h.short _ (List.getElem_mem hi)
theorem frame_200 {s : ByteArray} (h : s.size ≤ 200) : longS (frameOf s) = false := by
  have := (frame_size s).2
  unfold longS
  exact decide_eq_false (by omega)
theorem Room.deed (h : Room b fr t) {i : Nat} (hi : i < t.length) {v : List S73} (hc : checkB b v = true) :
    deedV fr t i b v = if v.length = 100 then ([], [], 41) else (b, v ++ [⟨rd fr (i : Int), frameOf (rdOf ByteArray.empty t (i : Int))⟩], 0) := by
  obtain ⟨_, h1, h2⟩ := h.at_ hi
  unfold deedV
  rw [if_pos hi]
  unfold writeV
  rw [if_neg (by rw [hc]; decide), if_neg (by omega), if_neg (by rw [frame_200 (h.text hi)]; decide)]
theorem Room.check (h : Room b fr t) {i : Nat} (hi : i < t.length) {v : List S73} (hc : checkB b v = true) (hl : ¬ v.length = 100) : checkB b (v ++ [⟨rd fr (i : Int), frameOf (rdOf ByteArray.empty t (i : Int))⟩]) = true := by
  obtain ⟨_, h1, h2⟩ := h.at_ hi
  exact check_write hc (by omega) (frame_200 (h.text hi)) hl
theorem wrap_m (m : Int) (h0 : -9223372036854775808 ≤ m) (h1 : m ≤ 9223372036854775807) (i : Nat) (hi : i ≤ 1000) : wrap64 (m - i) = 0 ↔ m = i := by unfold wrap64; omega
theorem wrap_s (m : Int) (i : Nat) : wrap64 (wrap64 (m - i) - 1) = wrap64 (m - ((i + 1 : Nat) : Int)) := by unfold wrap64; omega
/-- Where a Save stands behind i of its writes. -/
def Stand (b : List ByteArray) (u : List S73) (fr : List Int) (t : List ByteArray) (m : Int) (i : Nat) (s : SvS) : Prop :=
  (s.st = 0 ∧ s.b = b ∧ s.u = u ++ ws fr t i ∧ s.m = wrap64 (m - i) ∧ checkB b (u ++ ws fr t i) = true ∧ ∀ j : Nat, j < i → m ≠ j) ∨
  (s.st = 1 ∧ ∃ j : Nat, j < i ∧ m = j ∧ s.b = b ∧ s.u = u ++ ws fr t j ∧ checkB b (u ++ ws fr t j) = true) ∨
  (s.st = 2 ∧ s.e = 41)
theorem stand {u : List S73} (h : Room b fr t) (hc : checkB b u = true) (m : Int) (h0 : -9223372036854775808 ≤ m) (h1 : m ≤ 9223372036854775807) (ht : t.length ≤ 999) : ∀ i, i ≤ t.length → Stand b u fr t m i (svN fr t ⟨0, b, u, m, 0⟩ i)
  | 0, _ => .inl ⟨rfl, rfl, by simp [svN, ws], by show m = wrap64 (m - ((0 : Nat) : Int)); unfold wrap64; omega, by simpa [ws] using hc, fun j hj => absurd hj (Nat.not_lt_zero _)⟩
  | i + 1, hi => by
    have ih := stand h hc m h0 h1 ht i (by omega)
    show Stand b u fr t m (i + 1) (svStep fr t (svN fr t ⟨0, b, u, m, 0⟩ i) i)
    generalize svN fr t ⟨0, b, u, m, 0⟩ i = s at ih
    unfold svStep
    rcases ih with ⟨e1, e2, e3, e4, e5, e6⟩ | ⟨e1, j, e2, e3⟩ | ⟨e1, e2⟩
    · rw [if_neg (by rw [e1]; decide)]
      by_cases hm : s.m = 0
      · rw [if_pos hm]
        rw [e4] at hm
        exact .inr (.inl ⟨rfl, i, by omega, (wrap_m m h0 h1 i (by omega)).1 hm, e2, e3, e5⟩)
      · rw [if_neg hm, e2, e3, h.deed (by omega) e5]
        by_cases hf : (u ++ ws fr t i).length = 100
        · rw [if_pos hf, if_pos (by decide)]
          exact .inr (.inr ⟨rfl, rfl⟩)
        · rw [if_neg hf, if_neg (by simp)]
          refine .inl ⟨rfl, rfl, by rw [ws_succ, List.append_assoc], by rw [e4]; exact wrap_s m i, ?_, fun j hj => ?_⟩
          · rw [ws_succ, ← List.append_assoc]
            exact h.check (by omega) e5 hf
          · by_cases hji : j = i
            · subst hji
              intro hmj
              rw [e4] at hm
              exact hm ((wrap_m m h0 h1 j (by omega)).2 hmj)
            · exact e6 j (by omega)
    · rw [if_pos (by rw [e1]; decide)]
      exact .inr (.inl ⟨e1, j, by omega, e3⟩)
    · rw [if_pos (by rw [e1]; decide)]
      exact .inr (.inr ⟨e1, e2⟩)
/-- Where a Save stands behind all of its deeds but the twin's. -/
theorem stand_end {u : List S73} (h : Room b fr t) (hc : checkB b u = true) (m : Int) (h0 : -9223372036854775808 ≤ m) (h1 : m ≤ 9223372036854775807) (ht : t.length ≤ 999) :
    ((svN fr t ⟨0, b, u, m, 0⟩ (t.length + 1)).st = 0 ∧ (svN fr t ⟨0, b, u, m, 0⟩ (t.length + 1)).b = contW b (u ++ ws fr t t.length) ∧ (svN fr t ⟨0, b, u, m, 0⟩ (t.length + 1)).u = [] ∧ (svN fr t ⟨0, b, u, m, 0⟩ (t.length + 1)).m = wrap64 (m - ((t.length + 1 : Nat) : Int)) ∧ checkB b (u ++ ws fr t t.length) = true ∧ ∀ j : Nat, j ≤ t.length → m ≠ j) ∨
    ((svN fr t ⟨0, b, u, m, 0⟩ (t.length + 1)).st = 1 ∧ ∃ j : Nat, j ≤ t.length ∧ m = j ∧ (svN fr t ⟨0, b, u, m, 0⟩ (t.length + 1)).b = b ∧ (svN fr t ⟨0, b, u, m, 0⟩ (t.length + 1)).u = u ++ ws fr t j ∧ checkB b (u ++ ws fr t j) = true) ∨
    ((svN fr t ⟨0, b, u, m, 0⟩ (t.length + 1)).st = 2 ∧ (svN fr t ⟨0, b, u, m, 0⟩ (t.length + 1)).e = 41) := by
  have ih := stand h hc m h0 h1 ht t.length (Nat.le_refl _)
  show ((svStep fr t (svN fr t ⟨0, b, u, m, 0⟩ t.length) t.length).st = 0 ∧ (svStep fr t (svN fr t ⟨0, b, u, m, 0⟩ t.length) t.length).b = _ ∧ (svStep fr t (svN fr t ⟨0, b, u, m, 0⟩ t.length) t.length).u = [] ∧ (svStep fr t (svN fr t ⟨0, b, u, m, 0⟩ t.length) t.length).m = _ ∧ _) ∨
    ((svStep fr t (svN fr t ⟨0, b, u, m, 0⟩ t.length) t.length).st = 1 ∧ ∃ j : Nat, j ≤ t.length ∧ m = j ∧ (svStep fr t (svN fr t ⟨0, b, u, m, 0⟩ t.length) t.length).b = b ∧ (svStep fr t (svN fr t ⟨0, b, u, m, 0⟩ t.length) t.length).u = u ++ ws fr t j ∧ _) ∨ ((svStep fr t (svN fr t ⟨0, b, u, m, 0⟩ t.length) t.length).st = 2 ∧ (svStep fr t (svN fr t ⟨0, b, u, m, 0⟩ t.length) t.length).e = 41)
  generalize svN fr t ⟨0, b, u, m, 0⟩ t.length = s at ih
  unfold svStep
  rcases ih with ⟨e1, e2, e3, e4, e5, e6⟩ | ⟨e1, j, e2, e3⟩ | ⟨e1, e2⟩
  · rw [if_neg (by rw [e1]; decide)]
    by_cases hm : s.m = 0
    · rw [if_pos hm]
      rw [e4] at hm
      exact .inr (.inl ⟨rfl, t.length, by omega, (wrap_m m h0 h1 t.length (by omega)).1 hm, e2, e3, e5⟩)
    · have hd : deedV fr t t.length s.b s.u = (contW b (u ++ ws fr t t.length), [], 0) := by
        unfold deedV
        rw [if_neg (by omega), e2, e3]
        unfold doneV
        rw [if_pos e5]
        rfl
      rw [if_neg hm, hd, if_neg (by simp)]
      refine .inl ⟨rfl, rfl, rfl, by rw [e4]; exact wrap_s m t.length, e5, fun j hj => ?_⟩
      by_cases hji : j = t.length
      · subst hji
        intro hmj
        rw [e4] at hm
        exact hm ((wrap_m m h0 h1 t.length (by omega)).2 hmj)
      · exact e6 j (by omega)
  · rw [if_pos (by rw [e1]; decide)]
    exact .inr (.inl ⟨e1, j, by omega, e3⟩)
  · rw [if_pos (by rw [e1]; decide)]
    exact .inr (.inr ⟨e1, e2⟩)

/-! ### What the blocks say behind some writes -/
theorem cont_ws (h : Room b fr t) (u : List S73) : ∀ i, i ≤ t.length → (contW b (u ++ ws fr t i)).length = b.length ∧
    (∀ k : Int, 0 ≤ k → k ∉ fr → rdOf ByteArray.empty (contW b (u ++ ws fr t i)) k = rdOf ByteArray.empty (contW b u) k) ∧
    (∀ j : Nat, j < i → rdOf ByteArray.empty (contW b (u ++ ws fr t i)) (rd fr (j : Int)) = frameOf (rdOf ByteArray.empty t (j : Int)))
  | 0, _ => ⟨contW_length _ _, fun k _ _ => by simp [ws], fun j hj => absurd hj (Nat.not_lt_zero _)⟩
  | i + 1, hi => by
    obtain ⟨h1, h2, h3⟩ := cont_ws h u i (by omega)
    obtain ⟨g1, g2, g3⟩ := h.at_ (show i < t.length by omega)
    have hlt : i < fr.length := Nat.lt_of_lt_of_le (show i < t.length by omega) h.most
    rw [ws_succ, ← List.append_assoc, contW_snoc]
    refine ⟨by rw [List.length_set]; exact h1, fun k hk hkf => ?_, fun j hj => ?_⟩
    · rw [rdOf_set _ _ _ _ (by omega) (by rw [h1]; exact g3) hk, if_neg (fun e => hkf (by rw [e]; exact g1)), h2 k hk hkf]
    · have hjl : j < fr.length := by omega
      rw [rdOf_set _ _ _ _ (by omega) (by rw [h1]; exact g3) (by
        have := (h.at_ (show j < t.length by omega)).2.1
        omega)]
      by_cases hji : j = i
      · subst hji; rw [if_pos rfl]
      · rw [if_neg, h3 j (by omega)]
        rw [slot_rd fr j hjl, slot_rd fr i hlt]
        intro e
        exact hji (nodup_inj h.nodup hjl hlt e)
end Go.Proofs.Ytkgcaheddhfpgaa.P
/-
  What is loaded behind a Save, plainly.
-/
namespace Go.Proofs.Ytkgcaheddhfpgaa.P
open Go.RowKit Go.Proofs Go.Proofs.CodecPlain Go.Proofs.YtkgcaheddhfpgaaW.PrintWords Go.Proofs.YtkgcaheddhfpgaaW.PrintLast Go.Proofs.Plain

theorem LoadOk.twin {b : List ByteArray} {u : List S73} {n : Int} {tb : List Int} {pg : List ByteArray} (h : LoadOk b u n tb pg) :
    ∃ n0 t0 k0 n1 t1 k1, TwinAt b u 0 n0 t0 k0 n1 t1 k1 ∧ newN n0 k0 n1 k1 = n ∧ blocksV (newT n0 t0 k0 n1 t1 k1) (b.length : Int) = (tb, true) := by
  obtain ⟨T, h1, h2⟩ := h.get
  obtain ⟨⟨n0, t0, k0, n1, t1, k1, er⟩, hp⟩ : ∃ p, pairV b u 0 = p := ⟨_, rfl⟩
  have he : er = 0 := by
    unfold getT at h1
    rw [hp] at h1
    simp only at h1
    by_cases he : er = 0
    · exact he
    · rw [if_neg he] at h1
      simp only [Prod.mk.injEq] at h1
      exact absurd h1.2.2 he
  subst he
  have ht := twin_of (a := 0) (by omega) hp
  have hg := ht.get
  rw [h1] at hg
  simp only [Prod.mk.injEq] at hg
  refine ⟨n0, t0, k0, n1, t1, k1, ht, hg.2.1.symm, ?_⟩
  rw [← hg.1, h2]
/-- A Stop with nothing that waits, and a crash: the next copy is there, or not. -/
theorem TwinAt.crashed {l0 : List ByteArray} {a n0 n1 : Int} {t0 t1 : ByteArray} {k0 k1 : Bool} (h : TwinAt l0 [] a n0 t0 k0 n1 t1 k1) {s : ByteArray} (hs : s.size ≤ 200) (hn : newN n0 k0 n1 k1 < 1000000000) (deeds : Int) (p : Int → Bool) :
    ∃ b u d c, stopV l0 [] a s deeds = (b, u, d, 0) ∧ doneV p b u = (c, [], 0) ∧ checkB c [] = true ∧ ((c = l0.set (nextAt a n0 k0 n1 k1).toNat (frameOf (numStr (newN n0 k0 n1 k1 + 1) ++ s)) ∧ (d = true → b = c ∧ u = [])) ∨ (d = false ∧ c = l0)) := by
  have hst := h.stop s deeds
  rw [if_neg (by omega), if_neg (by simp)] at hst
  obtain ⟨k1', k2'⟩ := h.stopped s hs (by simp)
  rw [List.nil_append] at hst k1'
  by_cases h0 : deeds = 0
  · rw [if_pos h0] at hst
    refine ⟨_, _, _, l0, hst, ?_, h.check, Or.inr ⟨rfl, rfl⟩⟩
    unfold doneV
    rw [if_pos h.check]
    rfl
  · rw [if_neg h0] at hst
    by_cases h1 : deeds = 1
    · rw [if_pos h1] at hst
      by_cases hp : p 0 = true
      · refine ⟨_, _, _, l0.set (nextAt a n0 k0 n1 k1).toNat (frameOf (numStr (newN n0 k0 n1 k1 + 1) ++ s)), hst, ?_, k2', Or.inl ⟨rfl, fun q => by cases q⟩⟩
        unfold doneV
        rw [if_pos k1']
        simp only [applyW]
        rw [show p ((0 : Nat) : Int) = true from hp, if_pos rfl]
      · refine ⟨_, _, _, l0, hst, ?_, h.check, Or.inr ⟨rfl, rfl⟩⟩
        unfold doneV
        rw [if_pos k1']
        simp only [applyW]
        rw [show p ((0 : Nat) : Int) = false by simpa using hp, if_neg (by decide)]
    · rw [if_neg h1] at hst
      refine ⟨_, _, _, l0.set (nextAt a n0 k0 n1 k1).toNat (frameOf (numStr (newN n0 k0 n1 k1 + 1) ++ s)), hst, ?_, k2', Or.inl ⟨rfl, fun _ => ⟨rfl, rfl⟩⟩⟩
      unfold doneV
      rw [if_pos k2']
      rfl
/-- What is loaded behind the next copy. -/
theorem load_new {b : List ByteArray} {u : List S73} {fr : List Int} {t : List ByteArray} (hr : Room b fr t) {C : List ByteArray} (hC : C = contW b (u ++ ws fr t t.length)) {n0 n1 : Int} {t0 t1 : ByteArray} {k0 k1 : Bool} (h : TwinAt C [] 0 n0 t0 k0 n1 t1 k1) (hl3 : 3 ≤ b.length) (hl : b.length ≤ 200)
    (hs : (rowStr ((fr.take t.length).map numStr)).size ≤ 200) (hn : newN n0 k0 n1 k1 < 1000000000) {c : List ByteArray} (hc : c = C.set (nextAt 0 n0 k0 n1 k1).toNat (frameOf (numStr (newN n0 k0 n1 k1 + 1) ++ rowStr ((fr.take t.length).map numStr)))) (hck : checkB c [] = true) (ht : t.length ≤ 999) :
    LoadOk c [] (newN n0 k0 n1 k1 + 1) (fr.take t.length) t := by
  obtain ⟨w1, w2, w3⟩ := cont_ws hr u t.length (Nat.le_refl _)
  rw [← hC] at w1 w2 w3
  have hlc : c.length = b.length := by rw [hc, List.length_set]; exact w1
  obtain ⟨m0, u0, j0, m1, u1, j1, hx, q1, q2⟩ := h.next hs hn (c0 := c) (c1 := []) hck (by rw [contW_nil, contW_nil]; exact hc)
  have hlen : (fr.take t.length).length = t.length := by rw [List.length_take]; have := hr.most; omega
  have hrd : ∀ j : Nat, j < t.length → pageV c [] (rd fr (j : Int)) = some (rdOf ByteArray.empty t (j : Int)) := by
    intro j hj
    obtain ⟨g1, g2, g3⟩ := hr.at_ hj
    have hrr : readV c [] (rd fr (j : Int)) = (frameOf (rdOf ByteArray.empty t (j : Int)), 0) := by
      rw [readV_at hck (by omega) (by rw [hlc]; exact g3), contW_nil, hc, rdOf_set _ _ _ _ (by rcases nextAt_is 0 n0 k0 n1 k1 with q | q <;> omega) (by rcases nextAt_is 0 n0 k0 n1 k1 with q | q <;> omega) (by omega), if_neg (by rcases nextAt_is 0 n0 k0 n1 k1 with q | q <;> omega), w3 j hj]
    have hg := getFrame_put (rdOf ByteArray.empty t (j : Int)) (by have := hr.text hj; omega) ⟨#[]⟩
    rw [ba_nil_right] at hg
    unfold pageV
    rw [hrr]
    simp only [hg]
    rw [if_pos ⟨trivial, trivial⟩]
  have hmem : ∀ i ∈ fr.take t.length, ∃ j : Nat, j < t.length ∧ i = rd fr (j : Int) := by
    intro i hi
    obtain ⟨j, hj, rfl⟩ := List.getElem_of_mem hi
    rw [hlen] at hj
    refine ⟨j, hj, ?_⟩
    rw [List.getElem_take, slot_rd fr j (Nat.lt_of_lt_of_le hj hr.most)]
  refine ⟨by omega, hck, ⟨rowStr ((fr.take t.length).map numStr), ?_, ?_⟩, ?_, ?_⟩
  · rw [hx.get, q1, q2]
  · rw [hlc]
    refine blocks_named _ _ (by omega) (hr.nodup.sublist (List.take_sublist _ _)) (fun i hi => ?_)
    have := hr.range i (List.mem_of_mem_take hi)
    omega
  · rw [List.all_eq_true]
    intro i hi
    obtain ⟨j, hj, rfl⟩ := hmem i hi
    rw [hrd j hj]
    rfl
  · unfold pagesV
    refine List.ext_getElem (by rw [List.length_map, hlen]) (fun j h1 h2 => ?_)
    rw [List.getElem_map, List.getElem_take]
    have := hrd j h1
    rw [slot_rd fr j (Nat.lt_of_lt_of_le h1 hr.most)] at this
    rw [this, slot_rds t j h1]
    rfl
/-- What a Save that is not refused needs, and where it stands. -/
theorem save_ok {b : List ByteArray} {u : List S73} {n : Int} {tb : List Int} {pg : List ByteArray} (h : LoadOk b u n tb pg) {t : List ByteArray} {m : Int} (he : (saveV b u t m).2.2.2 = 0) :
    Room b (freeK tb b.length) t ∧ (rowStr (((freeK tb b.length).take t.length).map numStr)).size ≤ 200 ∧ saveV b u t m = endV (freeK tb b.length) t (rowStr (((freeK tb b.length).take t.length).map numStr)) ⟨0, b, u, m, 0⟩ := by
  have hld := h.load
  unfold saveV at he ⊢
  rw [hld] at he ⊢
  simp only at he ⊢
  rw [if_neg (by simp)] at he ⊢
  by_cases h1 : t.any (fun s => decide (200 < s.size)) = true
  · rw [if_pos h1] at he; cases he
  rw [if_neg h1] at he ⊢
  by_cases h2 : (freeK tb b.length).length < t.length
  · rw [if_pos h2] at he; cases he
  rw [if_neg h2] at he ⊢
  have hnm : namedV ((freeK tb b.length).take t.length) = if 200 < (rowStr (((freeK tb b.length).take t.length).map numStr)).size then (rowStr (((freeK tb b.length).take t.length).map numStr), 2) else (rowStr (((freeK tb b.length).take t.length).map numStr), 0) := rfl
  rw [hnm] at he ⊢
  by_cases h3 : 200 < (rowStr (((freeK tb b.length).take t.length).map numStr)).size
  · rw [if_pos h3] at he
    rw [if_pos (by simp)] at he
    cases he
  rw [if_neg h3, if_neg (by simp)]
  refine ⟨⟨by omega, freeK_nodup _ _, fun i hi => ⟨(freeK_mem' hi).1, (freeK_mem' hi).2.1⟩, fun s hs => ?_⟩, by omega, rfl⟩
  have := List.any_eq_false.1 (show t.any (fun s => decide (200 < s.size)) = false by simpa using h1) s hs
  simp at this
  omega
/-- **Behind a Save at any deed, and any crash.** -/
theorem save_crash {b : List ByteArray} {n : Int} {tb : List Int} {pg : List ByteArray} (h : LoadOk b [] n tb pg) {t : List ByteArray} {m : Int} (h0 : -9223372036854775808 ≤ m) (h1 : m ≤ 9223372036854775807) {B : List ByteArray} {U : List S73} {d : Bool} (hsv : saveV b [] t m = (B, U, d, 0)) (p : Int → Bool) :
    ∃ c, doneV p B U = (c, [], 0) ∧ c.length = b.length ∧ (LoadOk c [] (n + 1) ((freeK tb b.length).take t.length) t ∨ (d = false ∧ LoadOk c [] n tb pg)) := by
  have hln := (check_len h.chk).2.1
  obtain ⟨hr, hsz, hend⟩ := save_ok h (t := t) (m := m) (by rw [hsv])
  rw [hsv] at hend
  have hfl := freeK_length tb b.length
  have htl : t.length ≤ 999 := by have := hr.most; omega
  generalize hfr : freeK tb b.length = fr at *
  unfold endV at hend
  have keep : ∀ (c : List ByteArray), checkB c [] = true → c.length = b.length → (∀ k : Nat, k < b.length → (k : Int) ∉ fr → c[k]? = b[k]?) → LoadOk c [] n tb pg := by
    intro c hc hl hk
    refine load_keep h hc hl (fun i hi0 hi1 hif => ?_)
    rw [contW_nil, contW_nil]
    unfold rdOf
    rw [List.getD_eq_getElem?_getD, List.getD_eq_getElem?_getD, hk i.toNat (by omega) (by rw [show ((i.toNat : Nat) : Int) = i by omega, ← hfr]; exact hif)]
  rcases stand_end hr h.chk m h0 h1 htl with ⟨e1, e2, e3, e4, e5, e6⟩ | ⟨e1, j, hj, e2, e3, e4, e5⟩ | ⟨e1, e2⟩
  · rw [if_neg (by rw [e1]; decide), if_neg (by rw [e1]; decide), e2, e3, e4, List.nil_append] at hend
    rw [List.nil_append] at e5
    obtain ⟨w1, w2, w3⟩ := cont_ws hr [] t.length (Nat.le_refl _)
    rw [List.nil_append] at w1 w2 w3
    have hck : checkB (contW b (ws fr t t.length)) [] = true := crash_right _ e5
    have hold : LoadOk (contW b (ws fr t t.length)) [] n tb pg := load_keep h hck w1 (fun i hi0 _ hif => by rw [contW_nil]; exact w2 i hi0 (by rw [← hfr]; exact hif))
    obtain ⟨n0, t0, k0, n1, t1, k1, ht, hnn, _⟩ := hold.twin
    have hst : (stopV (contW b (ws fr t t.length)) [] 0 (rowStr ((fr.take t.length).map numStr)) (wrap64 (m - ((t.length + 1 : Nat) : Int)))).2.2.2 = 0 := by rw [← hend]
    obtain ⟨_, _, _, _, _, _, ht2, hs2, hn2, _⟩ := stop_twin (by omega) hst
    have hnlt : newN n0 k0 n1 k1 < 1000000000 := by
      have g1 := ht.get
      rw [ht2.get] at g1
      simp only [Prod.mk.injEq] at g1
      omega
    obtain ⟨b', u', d', c, q1, q2, q3, q4⟩ := ht.crashed hsz hnlt (wrap64 (m - ((t.length + 1 : Nat) : Int))) p
    rw [q1] at hend
    cases hend
    rcases q4 with ⟨q4, _⟩ | ⟨q4, q5⟩
    · refine ⟨c, q2, by rw [q4, List.length_set]; exact w1, .inl ?_⟩
      rw [← hnn]
      exact load_new hr (u := []) (by rw [List.nil_append]) ht h.len hln hsz hnlt q4 q3 htl
    · exact ⟨c, q2, by rw [q5]; exact w1, .inr ⟨q4, by rw [q5]; exact hold⟩⟩
  · rw [if_pos e1, e3, e4, List.nil_append] at hend
    rw [List.nil_append] at e5
    cases hend
    refine ⟨applyW p 0 (ws fr t j) b, by unfold doneV; rw [if_pos e5], applyW_length _ _ _ _, .inr ⟨rfl, keep _ (crash_right p e5) (applyW_length _ _ _ _) (fun k hk hkf => ?_)⟩⟩
    rcases apply_from p (ws fr t j) 0 b k hk with q | ⟨x, hx, hx2, _⟩
    · exact q
    · exfalso
      obtain ⟨i, hi, rfl⟩ := List.mem_map.1 hx
      have hij := List.mem_range.1 hi
      obtain ⟨g1, g2, _⟩ := hr.at_ (show i < t.length by omega)
      simp only at hx2
      apply hkf
      rw [show (k : Int) = rd fr (i : Int) by omega]
      exact g1
  · rw [if_neg (by rw [e1]; decide), if_pos e1] at hend
    simp only [Prod.mk.injEq] at hend
    omega
end Go.Proofs.Ytkgcaheddhfpgaa.P
