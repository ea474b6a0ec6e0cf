/- The statement TreeOld: for every input the call answers true, and each argument reads as it did. No condition. -/
import Derived.Test.YtoiohlmiofplcaaRows
import Derived.Test.YtoiohlmiofplcaaCTreeOldz
import Derived.Test.YtoiohlmiofplcaaCn6df
namespace Go.Proofs.Ytoiohlmiofplcaa.treeOld
open Go.ChangeShapes Go.WideShapes Go.ChangeAt Go.RowKit Go.Proofs.YtoiohlmiofplcaaW.PrintWords Go.Proofs.Ytoiohlmiofplcaa.Opens Go.Proofs.Ytoiohlmiofplcaa.P
open Go.ChangeMaps (open_string shut_string)
set_option linter.unusedVariables false
theorem own : ownKnob Try.prog.godebug = none := by kernel_rfl
theorem laidOut : laidOutB Try.prog = true := by kernel_rfl
set_option maxRecDepth 100000 in
theorem lifted (os : Os) (started : os.Started) (H : Type) (enc : TypeId × Value → H) :
    ReturnsInHanded {} Try.checked os 9 .any (Rows.treeOldSpec.pre6 enc Try.prog Try.f9 Rows.treeOldRow.domain false) (Rows.treeOldSpec.post enc Try.prog Try.f9 false true false false) := by
  refine returnsInHanded_of_change_sized (C := Try.checked) own started (by kernel_rfl) Try.func9
    (ChangeSpec.witness6 (enc := enc) (C := Try.checked) false ⟨#[], #[.slice none 0 0], []⟩ 8 (by kernel_rfl) (by kernel_rfl) (by kernel_rfl) (by kernel_rfl)) ?_
  intro W base args ds gs before hval0 hW hcnd hsz0 _
  have hval : ∀ (j : Nat) t v, Try.f9.params[j]? = some t → args[j]? = some v → Value.okWide Try.prog W .any base t v := hval0
  have hW' := hW
  obtain ⟨p, q, hA0, hV, rfl, hfz, hnd⟩ := hW
  have hA : DataW.TrodAll enc Try.prog W 0 (fun _ => true) true Try.f9.params.toList args.toList ds p := hA0
  rw [Try.params9] at hA hval
  obtain ⟨v0, vs0, d0, ds0, p0, q0, hargs, rfl, rfl, h0, r0⟩ := trodAll_cons hA
  obtain ⟨rfl, rfl, rfl⟩ := trodAll_nil r0
  obtain rfl : args = #[v0] := by cases args; simp_all
  obtain ⟨rfl, rfl⟩ := trodVars_none hV
  have k0 := h0
  have lt0 : ∀ x ∈ p0, x.block < W.heap.size := by obtain ⟨m, hm⟩ := k0; exact DataW.trod_lt m _ _ _ hm
  obtain ⟨A0, c0, l0, rfl, hc0, hr0, w0⟩ := param_slice Try.underlying45 (opens_slice Try.underlying45 (by kernel_rfl) (show Opens Try.prog k51 (fun b : S51 => (OkPair (OkInt .i64) (fun b : S26 => (OkPair (fun b : S24 => (OkPair OkStr (OkInt .i64)) (b.f0, b.f1)) OkStr) (b.f0, b.f1))) (b.f0, b.f1)) 51 from opens_struct Try.underlying51 (by kernel_rfl) (opensF_pair (off := 0) (len := 1) (len' := 3) (opens_int Try.underlying3) rfl rfl (by kernel_rfl) (opensF_one (off := 1) (len := 3) (show Opens Try.prog k26 (fun b : S26 => (OkPair (fun b : S24 => (OkPair OkStr (OkInt .i64)) (b.f0, b.f1)) OkStr) (b.f0, b.f1)) 26 from opens_struct Try.underlying26 (by kernel_rfl) (opensF_pair (off := 0) (len := 2) (len' := 1) (show Opens Try.prog k24 (fun b : S24 => (OkPair OkStr (OkInt .i64)) (b.f0, b.f1)) 24 from opens_struct Try.underlying24 (by kernel_rfl) (opensF_pair (off := 0) (len := 1) (len' := 1) (opens_string Try.underlying9) rfl rfl (by kernel_rfl) (opensF_one (off := 1) (len := 1) (opens_int Try.underlying3) rfl rfl (by kernel_rfl))) (fun x : S24 => (x.f0, x.f1)) (fun p => ⟨p.1, p.2⟩) (fun _ => rfl)) rfl rfl (by kernel_rfl) (opensF_one (off := 2) (len := 1) (opens_string Try.underlying9) rfl rfl (by kernel_rfl))) (fun x : S26 => (x.f0, x.f1)) (fun p => ⟨p.1, p.2⟩) (fun _ => rfl)) rfl rfl (by kernel_rfl))) (fun x : S51 => (x.f0, x.f1)) (fun p => ⟨p.1, p.2⟩) (fun _ => rfl))) (hval 0 45 v0 rfl rfl) h0
  clear hA0 hval0 hsz0
  have hk := Pure.TreeOld l0 w0
  refine (sextonlaw10_TreeOld.calls (A0 := A0) (c0 := c0) (l0 := l0) (hr0 := hr0) (hc0 := hc0) (r := true) (w := W) (h := hk)).mono ?_
  rintro e W' ⟨rfl, bel⟩
  exact ⟨_, rfl, _, _, _, [], _, [], hW', trodAll_mk1 (shut_bool Try.underlying4 _), (trodAll_cons_mk (Below.trod laidOut (by kernel_rfl) (of_decide_eq_true (by kernel_rfl)) k0 bel lt0) trodAll_mk0), rfl, bel.frame _, fun h => by cases h⟩
theorem over : Rows.treeOldRow.holds Try.pinned (OpenSpec.ofChange Rows.treeOldSpec) :=
  OpenClaim.holds_of_wide 9 Try.f9 rfl rfl rfl rfl rfl rfl rfl ⟨rfl, rfl, rfl, rfl, rfl⟩ rfl rfl rfl rfl rfl (by kernel_rfl) Try.func9 (by kernel_rfl)
    (of_decide_eq_true (by kernel_rfl)) (by unfold Func.isWrapper; first | (rw [if_pos (by decide +kernel)]; kernel_rfl) | (rw [if_neg (by decide +kernel)]; exact ⟨rfl, rfl⟩))
    (fun os started H enc _ => lifted os started H enc)
theorem proved : Rows.TreeOldSaid := over
#print axioms proved
end Go.Proofs.Ytoiohlmiofplcaa.treeOld
namespace Go.Proofs.Ytoiohlmiofplcaa
/-- The row, under a short name, for the claim. -/
theorem treeOld_holds : Rows.TreeOldSaid := treeOld.proved
end Go.Proofs.Ytoiohlmiofplcaa
