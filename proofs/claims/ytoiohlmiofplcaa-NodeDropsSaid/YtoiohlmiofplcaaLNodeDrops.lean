/- The statement NodeDrops: for every input the call answers true, and each argument reads as it did. No condition. -/
import Derived.Test.YtoiohlmiofplcaaRows
import Derived.Test.YtoiohlmiofplcaaHNodeDrops
import Derived.Test.YtoiohlmiofplcaaYNodeDrops
import Derived.Test.YtoiohlmiofplcaaMOpens
namespace Go.Proofs.Ytoiohlmiofplcaa.nodeDrops
open Go.ChangeShapes Go.WideShapes Go.ChangeAt Go.RowKit Go.Proofs.YtoiohlmiofplcaaW.PrintWords Go.Proofs.Ytoiohlmiofplcaa.Opens Go.Proofs.Ytoiohlmiofplcaa.P
open Go.ChangeMaps (open_string shut_string)
set_option linter.unusedVariables false
theorem own : ownKnob Try.prog.godebug = none := by kernel_rfl
theorem laidOut : laidOutB Try.prog = true := by kernel_rfl
set_option maxRecDepth 100000 in
theorem lifted (os : Os) (started : os.Started) (H : Type) (enc : TypeId × Value → H) :
    ReturnsInHanded {} Try.checked os 5 .any (Rows.nodeDropsSpec.pre6 enc Try.prog Try.f5 Rows.nodeDropsRow.domain false) (Rows.nodeDropsSpec.post enc Try.prog Try.f5 false true false false) := by
  refine returnsInHanded_of_change_sized (C := Try.checked) own started (by kernel_rfl) Try.func5
    (ChangeSpec.witness6 (enc := enc) (C := Try.checked) false ⟨#[], #[.slice none 0 0, .int .i64 0], []⟩ 8 (by kernel_rfl) (by kernel_rfl) (by kernel_rfl) (by kernel_rfl)) ?_
  intro W base args ds gs before hval0 hW hcnd hsz0 _
  have hval : ∀ (j : Nat) t v, Try.f5.params[j]? = some t → args[j]? = some v → Value.okWide Try.prog W .any base t v := hval0
  have hW' := hW
  obtain ⟨p, q, hA0, hV, rfl, hfz, hnd⟩ := hW
  have hA : DataW.TrodAll enc Try.prog W 0 (fun _ => true) true Try.f5.params.toList args.toList ds p := hA0
  rw [Try.params5] at hA hval
  obtain ⟨v0, vs0, d0, ds0, p0, q0, hargs, rfl, rfl, h0, r0⟩ := trodAll_cons hA
  obtain ⟨v1, vs1, d1, ds1, p1, q1, rfl, rfl, rfl, h1, r1⟩ := trodAll_cons r0
  obtain ⟨rfl, rfl, rfl⟩ := trodAll_nil r1
  obtain rfl : args = #[v0, v1] := by cases args; simp_all
  obtain ⟨rfl, rfl⟩ := trodVars_none hV
  have k0 := h0
  have lt0 : ∀ x ∈ p0, x.block < W.heap.size := by obtain ⟨m, hm⟩ := k0; exact DataW.trod_lt m _ _ _ hm
  obtain ⟨A0, c0, l0, rfl, hc0, hr0, w0⟩ := param_slice Try.underlying22 (opens_slice Try.underlying22 (by kernel_rfl) (show Opens Try.prog k26 (fun b : S26 => (OkPair (fun b : S24 => (OkPair OkStr (OkInt .i64)) (b.f0, b.f1)) OkStr) (b.f0, b.f1)) 26 from opens_struct Try.underlying26 (by kernel_rfl) (opensF_pair (off := 0) (len := 2) (len' := 1) (show Opens Try.prog k24 (fun b : S24 => (OkPair OkStr (OkInt .i64)) (b.f0, b.f1)) 24 from opens_struct Try.underlying24 (by kernel_rfl) (opensF_pair (off := 0) (len := 1) (len' := 1) (opens_string Try.underlying9) rfl rfl (by kernel_rfl) (opensF_one (off := 1) (len := 1) (opens_int Try.underlying3) rfl rfl (by kernel_rfl))) (fun x : S24 => (x.f0, x.f1)) (fun p => ⟨p.1, p.2⟩) (fun _ => rfl)) rfl rfl (by kernel_rfl) (opensF_one (off := 2) (len := 1) (opens_string Try.underlying9) rfl rfl (by kernel_rfl))) (fun x : S26 => (x.f0, x.f1)) (fun p => ⟨p.1, p.2⟩) (fun _ => rfl))) (hval 0 22 v0 rfl rfl) h0
  have k1 := h1
  have lt1 : ∀ x ∈ p1, x.block < W.heap.size := by obtain ⟨m, hm⟩ := k1; exact DataW.trod_lt m _ _ _ hm
  obtain ⟨a1, rfl, rfl, rfl, w1⟩ := open_int Try.underlying3 (hval 1 3 v1 rfl rfl) h1
  clear hA0 hval0 hsz0
  obtain ⟨k, hk⟩ := Pure.NodeDrops l0 a1 w0 w1
  refine (sextonlaw09_NodeDrops.calls (k := k) (A0 := A0) (c0 := c0) (l0 := l0) (hr0 := hr0) (hc0 := hc0) (a1 := a1) (r := true) (w := W) (h := hk)).mono ?_
  rintro e W' ⟨rfl, bel⟩
  exact ⟨_, rfl, _, _, _, [], _, [], hW', trodAll_mk1 (shut_bool Try.underlying4 _), (trodAll_cons_mk (Below.trod laidOut (by kernel_rfl) (of_decide_eq_true (by kernel_rfl)) k0 bel lt0) (trodAll_cons_mk (Below.trod laidOut (by kernel_rfl) (of_decide_eq_true (by kernel_rfl)) k1 bel lt1) trodAll_mk0)), rfl, bel.frame _, fun h => by cases h⟩
theorem over : Rows.nodeDropsRow.holds Try.pinned (OpenSpec.ofChange Rows.nodeDropsSpec) :=
  OpenClaim.holds_of_wide 5 Try.f5 rfl rfl rfl rfl rfl rfl rfl ⟨rfl, rfl, rfl, rfl, rfl⟩ rfl rfl rfl rfl rfl (by kernel_rfl) Try.func5 (by kernel_rfl)
    (of_decide_eq_true (by kernel_rfl)) (by unfold Func.isWrapper; first | (rw [if_pos (by decide +kernel)]; kernel_rfl) | (rw [if_neg (by decide +kernel)]; exact ⟨rfl, rfl⟩))
    (fun os started H enc _ => lifted os started H enc)
theorem proved : Rows.NodeDropsSaid := over
#print axioms proved
end Go.Proofs.Ytoiohlmiofplcaa.nodeDrops
namespace Go.Proofs.Ytoiohlmiofplcaa
/-- The row, under a short name, for the claim. -/
theorem nodeDrops_holds : Rows.NodeDropsSaid := nodeDrops.proved
end Go.Proofs.Ytoiohlmiofplcaa
