/- The statement TreeEmpty: for every input the call answers true, and each argument reads as it did. No condition. -/
import Derived.Test.YtoiohlmiofplcaaRows
import Derived.Test.YtoiohlmiofplcaaCn6cd
import Derived.Test.YtoiohlmiofplcaaCTreeEmptyz
namespace Go.Proofs.Ytoiohlmiofplcaa.treeEmpty
open Go.ChangeShapes Go.WideShapes Go.ChangeAt Go.RowKit Go.Proofs.YtoiohlmiofplcaaW.PrintWords Go.Proofs.Ytoiohlmiofplcaa.Opens Go.Proofs.Ytoiohlmiofplcaa.P
open Go.ChangeMaps (open_string shut_string)
set_option linter.unusedVariables false
theorem own : ownKnob Try.prog.godebug = none := by kernel_rfl
theorem laidOut : laidOutB Try.prog = true := by kernel_rfl
set_option maxRecDepth 100000 in
theorem lifted (os : Os) (started : os.Started) (H : Type) (enc : TypeId × Value → H) :
    ReturnsInHanded {} Try.checked os 11 .any (Rows.treeEmptySpec.pre6 enc Try.prog Try.f11 Rows.treeEmptyRow.domain false) (Rows.treeEmptySpec.post enc Try.prog Try.f11 false true false false) := by
  refine returnsInHanded_of_change_sized (C := Try.checked) own started (by kernel_rfl) Try.func11
    (ChangeSpec.witness6 (enc := enc) (C := Try.checked) false ⟨#[], #[.slice none 0 0, .agg #[.string ByteArray.empty, .int .i64 0, .string ByteArray.empty]], []⟩ 8 (by kernel_rfl) (by kernel_rfl) (by kernel_rfl) (by kernel_rfl)) ?_
  intro W base args ds gs before hval0 hW hcnd hsz0 _
  have hval : ∀ (j : Nat) t v, Try.f11.params[j]? = some t → args[j]? = some v → Value.okWide Try.prog W .any base t v := hval0
  have hW' := hW
  obtain ⟨p, q, hA0, hV, rfl, hfz, hnd⟩ := hW
  have hA : DataW.TrodAll enc Try.prog W 0 (fun _ => true) true Try.f11.params.toList args.toList ds p := hA0
  rw [Try.params11] at hA hval
  obtain ⟨v0, vs0, d0, ds0, p0, q0, hargs, rfl, rfl, h0, r0⟩ := trodAll_cons hA
  obtain ⟨v1, vs1, d1, ds1, p1, q1, rfl, rfl, rfl, h1, r1⟩ := trodAll_cons r0
  obtain ⟨rfl, rfl, rfl⟩ := trodAll_nil r1
  obtain rfl : args = #[v0, v1] := by cases args; simp_all
  obtain ⟨rfl, rfl⟩ := trodVars_none hV
  have k0 := h0
  have lt0 : ∀ x ∈ p0, x.block < W.heap.size := by obtain ⟨m, hm⟩ := k0; exact DataW.trod_lt m _ _ _ hm
  obtain ⟨A0, c0, l0, rfl, hc0, hr0, w0⟩ := param_slice Try.underlying22 (opens_slice Try.underlying22 (by kernel_rfl) (show Opens Try.prog k26 (fun b : S26 => (OkPair (fun b : S24 => (OkPair OkStr (OkInt .i64)) (b.f0, b.f1)) OkStr) (b.f0, b.f1)) 26 from opens_struct Try.underlying26 (by kernel_rfl) (opensF_pair (off := 0) (len := 2) (len' := 1) (show Opens Try.prog k24 (fun b : S24 => (OkPair OkStr (OkInt .i64)) (b.f0, b.f1)) 24 from opens_struct Try.underlying24 (by kernel_rfl) (opensF_pair (off := 0) (len := 1) (len' := 1) (opens_string Try.underlying9) rfl rfl (by kernel_rfl) (opensF_one (off := 1) (len := 1) (opens_int Try.underlying3) rfl rfl (by kernel_rfl))) (fun x : S24 => (x.f0, x.f1)) (fun p => ⟨p.1, p.2⟩) (fun _ => rfl)) rfl rfl (by kernel_rfl) (opensF_one (off := 2) (len := 1) (opens_string Try.underlying9) rfl rfl (by kernel_rfl))) (fun x : S26 => (x.f0, x.f1)) (fun p => ⟨p.1, p.2⟩) (fun _ => rfl))) (hval 0 22 v0 rfl rfl) h0
  have k1 := h1
  have lt1 : ∀ x ∈ p1, x.block < W.heap.size := by obtain ⟨m, hm⟩ := k1; exact DataW.trod_lt m _ _ _ hm
  have hop1 : Opens Try.prog (Kd.pair (Kd.pair Kd.string (Kd.int .i64)) Kd.string) (OkPair (OkPair OkStr (OkInt .i64)) OkStr) 26 := (opens_struct_id Try.underlying26 (by kernel_rfl) (opensF_pair (off := 0) (len := 2) (len' := 1) (opens_struct_id Try.underlying24 (by kernel_rfl) (opensF_pair (off := 0) (len := 1) (len' := 1) (opens_string Try.underlying9) rfl rfl (by kernel_rfl) (opensF_one (off := 1) (len := 1) (opens_int Try.underlying3) rfl rfl (by kernel_rfl)))) rfl rfl (by kernel_rfl) (opensF_one (off := 2) (len := 1) (opens_string Try.underlying9) rfl rfl (by kernel_rfl))))
  obtain ⟨cs1, x1, rfl, hK1, w1⟩ := param_struct (kd := (Kd.pair (Kd.pair Kd.string (Kd.int .i64)) Kd.string)) Try.underlying26 hop1 (hval 1 26 v1 rfl rfl) h1
  obtain ⟨l_1, hl_1⟩ : ∃ l_, cs1.toList = l_ := ⟨_, rfl⟩
  obtain rfl := agg_eq hl_1
  clear hl_1
  rw [show l_1.toArray.toList = l_1 from rfl] at hK1
  obtain ⟨_, _, rfl, ⟨_, _, rfl, rfl, rfl⟩, rfl⟩ := hK1
  clear hA0 hval0 hsz0
  have hk := Pure.TreeEmpty l0 x1.1.1 x1.1.2 x1.2 w0 w1
  refine (sextonlaw10_TreeEmpty.calls (A0 := A0) (c0 := c0) (l0 := l0) (hr0 := hr0) (hc0 := hc0) (a1_0 := x1.1.1) (a1_1 := x1.1.2) (a1_2 := x1.2) (r := true) (w := W) (h := hk)).mono ?_
  rintro e W' ⟨rfl, bel⟩
  exact ⟨_, rfl, _, _, _, [], _, [], hW', trodAll_mk1 (shut_bool Try.underlying4 _), (trodAll_cons_mk (Below.trod laidOut (by kernel_rfl) (of_decide_eq_true (by kernel_rfl)) k0 bel lt0) (trodAll_cons_mk (Below.trod laidOut (by kernel_rfl) (of_decide_eq_true (by kernel_rfl)) k1 bel lt1) trodAll_mk0)), rfl, bel.frame _, fun h => by cases h⟩
theorem over : Rows.treeEmptyRow.holds Try.pinned (OpenSpec.ofChange Rows.treeEmptySpec) :=
  OpenClaim.holds_of_wide 11 Try.f11 rfl rfl rfl rfl rfl rfl rfl ⟨rfl, rfl, rfl, rfl, rfl⟩ rfl rfl rfl rfl rfl (by kernel_rfl) Try.func11 (by kernel_rfl)
    (of_decide_eq_true (by kernel_rfl)) (by unfold Func.isWrapper; first | (rw [if_pos (by decide +kernel)]; kernel_rfl) | (rw [if_neg (by decide +kernel)]; exact ⟨rfl, rfl⟩))
    (fun os started H enc _ => lifted os started H enc)
theorem proved : Rows.TreeEmptySaid := over
#print axioms proved
end Go.Proofs.Ytoiohlmiofplcaa.treeEmpty
namespace Go.Proofs.Ytoiohlmiofplcaa
/-- The row, under a short name, for the claim. -/
theorem treeEmpty_holds : Rows.TreeEmptySaid := treeEmpty.proved
end Go.Proofs.Ytoiohlmiofplcaa
