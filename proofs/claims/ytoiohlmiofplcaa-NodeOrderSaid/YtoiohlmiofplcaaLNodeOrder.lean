/- The statement NodeOrder: for every input the call answers true, and each argument reads as it did. No condition. -/
import Derived.Test.YtoiohlmiofplcaaRows
import Derived.Test.YtoiohlmiofplcaaHNodeOrder
import Derived.Test.YtoiohlmiofplcaaYNodeOrder
import Derived.Test.YtoiohlmiofplcaaMOpens
namespace Go.Proofs.Ytoiohlmiofplcaa.nodeOrder
open Go.ChangeShapes Go.WideShapes Go.ChangeAt Go.RowKit Go.Proofs.YtoiohlmiofplcaaW.PrintWords Go.Proofs.Ytoiohlmiofplcaa.Opens Go.Proofs.Ytoiohlmiofplcaa.P
open Go.ChangeMaps (open_string shut_string)
set_option linter.unusedVariables false
theorem own : ownKnob Try.prog.godebug = none := by kernel_rfl
theorem laidOut : laidOutB Try.prog = true := by kernel_rfl
set_option maxRecDepth 100000 in
theorem lifted (os : Os) (started : os.Started) (H : Type) (enc : TypeId × Value → H) :
    ReturnsInHanded {} Try.checked os 7 .any (Rows.nodeOrderSpec.pre6 enc Try.prog Try.f7 Rows.nodeOrderRow.domain false) (Rows.nodeOrderSpec.post enc Try.prog Try.f7 false true false false) := by
  refine returnsInHanded_of_change_sized (C := Try.checked) own started (by kernel_rfl) Try.func7
    (ChangeSpec.witness6 (enc := enc) (C := Try.checked) false ⟨#[], #[.slice none 0 0], []⟩ 8 (by kernel_rfl) (by kernel_rfl) (by kernel_rfl) (by kernel_rfl)) ?_
  intro W base args ds gs before hval0 hW hcnd hsz0 _
  have hval : ∀ (j : Nat) t v, Try.f7.params[j]? = some t → args[j]? = some v → Value.okWide Try.prog W .any base t v := hval0
  have hW' := hW
  obtain ⟨p, q, hA0, hV, rfl, hfz, hnd⟩ := hW
  have hA : DataW.TrodAll enc Try.prog W 0 (fun _ => true) true Try.f7.params.toList args.toList ds p := hA0
  rw [Try.params7] at hA hval
  obtain ⟨v0, vs0, d0, ds0, p0, q0, hargs, rfl, rfl, h0, r0⟩ := trodAll_cons hA
  obtain ⟨rfl, rfl, rfl⟩ := trodAll_nil r0
  obtain rfl : args = #[v0] := by cases args; simp_all
  obtain ⟨rfl, rfl⟩ := trodVars_none hV
  have k0 := h0
  have lt0 : ∀ x ∈ p0, x.block < W.heap.size := by obtain ⟨m, hm⟩ := k0; exact DataW.trod_lt m _ _ _ hm
  obtain ⟨A0, c0, l0, rfl, hc0, hr0, w0⟩ := param_slice Try.underlying22 (opens_slice Try.underlying22 (by kernel_rfl) (show Opens Try.prog k26 (fun b : S26 => (OkPair (fun b : S24 => (OkPair OkStr (OkInt .i64)) (b.f0, b.f1)) OkStr) (b.f0, b.f1)) 26 from opens_struct Try.underlying26 (by kernel_rfl) (opensF_pair (off := 0) (len := 2) (len' := 1) (show Opens Try.prog k24 (fun b : S24 => (OkPair OkStr (OkInt .i64)) (b.f0, b.f1)) 24 from opens_struct Try.underlying24 (by kernel_rfl) (opensF_pair (off := 0) (len := 1) (len' := 1) (opens_string Try.underlying9) rfl rfl (by kernel_rfl) (opensF_one (off := 1) (len := 1) (opens_int Try.underlying3) rfl rfl (by kernel_rfl))) (fun x : S24 => (x.f0, x.f1)) (fun p => ⟨p.1, p.2⟩) (fun _ => rfl)) rfl rfl (by kernel_rfl) (opensF_one (off := 2) (len := 1) (opens_string Try.underlying9) rfl rfl (by kernel_rfl))) (fun x : S26 => (x.f0, x.f1)) (fun p => ⟨p.1, p.2⟩) (fun _ => rfl))) (hval 0 22 v0 rfl rfl) h0
  clear hA0 hval0 hsz0
  obtain ⟨k, hk⟩ := Pure.NodeOrder l0 w0
  refine (sextonlaw09_NodeOrder.calls (k := k) (A0 := A0) (c0 := c0) (l0 := l0) (hr0 := hr0) (hc0 := hc0) (r := true) (w := W) (h := hk)).mono ?_
  rintro e W' ⟨rfl, bel⟩
  exact ⟨_, rfl, _, _, _, [], _, [], hW', trodAll_mk1 (shut_bool Try.underlying4 _), (trodAll_cons_mk (Below.trod laidOut (by kernel_rfl) (of_decide_eq_true (by kernel_rfl)) k0 bel lt0) trodAll_mk0), rfl, bel.frame _, fun h => by cases h⟩
theorem over : Rows.nodeOrderRow.holds Try.pinned (OpenSpec.ofChange Rows.nodeOrderSpec) :=
  OpenClaim.holds_of_wide 7 Try.f7 rfl rfl rfl rfl rfl rfl rfl ⟨rfl, rfl, rfl, rfl, rfl⟩ rfl rfl rfl rfl rfl (by kernel_rfl) Try.func7 (by kernel_rfl)
    (of_decide_eq_true (by kernel_rfl)) (by unfold Func.isWrapper; first | (rw [if_pos (by decide +kernel)]; kernel_rfl) | (rw [if_neg (by decide +kernel)]; exact ⟨rfl, rfl⟩))
    (fun os started H enc _ => lifted os started H enc)
theorem proved : Rows.NodeOrderSaid := over
#print axioms proved
end Go.Proofs.Ytoiohlmiofplcaa.nodeOrder
namespace Go.Proofs.Ytoiohlmiofplcaa
/-- The row, under a short name, for the claim. -/
theorem nodeOrder_holds : Rows.NodeOrderSaid := nodeOrder.proved
end Go.Proofs.Ytoiohlmiofplcaa
