/- The statement SlotRow: for every input the call answers true, and each argument reads as it did. No condition. -/
import Derived.Test.YtkgcaheddhfpgaaRows
import Derived.Test.YtkgcaheddhfpgaaCSlotRowz
import Derived.Test.YtkgcaheddhfpgaaC06h
namespace Go.Proofs.Ytkgcaheddhfpgaa.slotRow
open Go.ChangeShapes Go.WideShapes Go.ChangeAt Go.RowKit Go.Proofs.YtkgcaheddhfpgaaW.PrintWords Go.Proofs.Ytkgcaheddhfpgaa.Opens Go.Proofs.Ytkgcaheddhfpgaa.P
open Go.ChangeMaps (open_string shut_string)
set_option linter.unusedVariables false
theorem own : ownKnob Try.prog.godebug = none := by kernel_rfl
theorem laidOut : laidOutB Try.prog = true := by kernel_rfl
set_option maxRecDepth 100000 in
theorem lifted (os : Os) (started : os.Started) (H : Type) (enc : TypeId × Value → H) :
    ReturnsInHanded {} Try.checked os 10 .any (Rows.slotRowSpec.pre6 enc Try.prog Try.f10 Rows.slotRowRow.domain false) (Rows.slotRowSpec.post enc Try.prog Try.f10 false true false false) := by
  refine returnsInHanded_of_change_sized (C := Try.checked) own started (by kernel_rfl) Try.func10
    (ChangeSpec.witness6 (enc := enc) (C := Try.checked) false ⟨#[], #[.int .i64 0, .slice none 0 0], []⟩ 8 (by kernel_rfl) (by kernel_rfl) (by kernel_rfl) (by kernel_rfl)) ?_
  intro W base args ds gs before hval0 hW hcnd hsz0 _
  have hval : ∀ (j : Nat) t v, Try.f10.params[j]? = some t → args[j]? = some v → Value.okWide Try.prog W .any base t v := hval0
  have hW' := hW
  obtain ⟨p, q, hA0, hV, rfl, hfz, hnd⟩ := hW
  have hA : DataW.TrodAll enc Try.prog W 0 (fun _ => true) true Try.f10.params.toList args.toList ds p := hA0
  rw [Try.params10] at hA hval
  obtain ⟨v0, vs0, d0, ds0, p0, q0, hargs, rfl, rfl, h0, r0⟩ := trodAll_cons hA
  obtain ⟨v1, vs1, d1, ds1, p1, q1, rfl, rfl, rfl, h1, r1⟩ := trodAll_cons r0
  obtain ⟨rfl, rfl, rfl⟩ := trodAll_nil r1
  obtain rfl : args = #[v0, v1] := by cases args; simp_all
  obtain ⟨rfl, rfl⟩ := trodVars_none hV
  have k0 := h0
  have lt0 : ∀ x ∈ p0, x.block < W.heap.size := by obtain ⟨m, hm⟩ := k0; exact DataW.trod_lt m _ _ _ hm
  obtain ⟨a0, rfl, rfl, rfl, w0⟩ := open_int Try.underlying3 (hval 0 3 v0 rfl rfl) h0
  have k1 := h1
  have lt1 : ∀ x ∈ p1, x.block < W.heap.size := by obtain ⟨m, hm⟩ := k1; exact DataW.trod_lt m _ _ _ hm
  obtain ⟨A1, c1, l1, rfl, hc1, hr1, w1⟩ := param_slice Try.underlying54 (opens_slice Try.underlying54 (by kernel_rfl) (show Opens Try.prog k56 (fun b : S56 => (OkPair (OkList OkStr) (OkPair (OkInt .i64) (OkList OkTrue))) (b.f0, b.f1, b.f2)) 56 from opens_struct Try.underlying56 (by kernel_rfl) (opensF_pair (off := 0) (len := 1) (len' := 2) (opens_slice Try.underlying22 (by kernel_rfl) (opens_string Try.underlying9)) rfl rfl (by kernel_rfl) (opensF_pair (off := 1) (len := 1) (len' := 1) (opens_int Try.underlying3) rfl rfl (by kernel_rfl) (opensF_one (off := 2) (len := 1) (opens_slice Try.underlying34 (by kernel_rfl) (opens_bool Try.underlying4)) rfl rfl (by kernel_rfl)))) (fun x : S56 => (x.f0, x.f1, x.f2)) (fun p => ⟨p.1, p.2.1, p.2.2⟩) (fun _ => rfl))) (hval 1 54 v1 rfl rfl) h1
  clear hA0 hval0 hsz0
  obtain ⟨k, hk⟩ := Pure.SlotRow a0 l1 w0 w1
  refine (sextonlaw06_SlotRow.calls (k := k) (a0 := a0) (A1 := A1) (c1 := c1) (l1 := l1) (hr1 := hr1) (hc1 := hc1) (r := true) (w := W) (h := hk)).mono ?_
  rintro e W' ⟨rfl, bel⟩
  exact ⟨_, rfl, _, _, _, [], _, [], hW', trodAll_mk1 (shut_bool Try.underlying4 _), (trodAll_cons_mk (Below.trod laidOut (by kernel_rfl) (of_decide_eq_true (by kernel_rfl)) k0 bel lt0) (trodAll_cons_mk (Below.trod laidOut (by kernel_rfl) (of_decide_eq_true (by kernel_rfl)) k1 bel lt1) trodAll_mk0)), rfl, bel.frame _, fun h => by cases h⟩
theorem over : Rows.slotRowRow.holds Try.pinned (OpenSpec.ofChange Rows.slotRowSpec) :=
  OpenClaim.holds_of_wide 10 Try.f10 rfl rfl rfl rfl rfl rfl rfl ⟨rfl, rfl, rfl, rfl, rfl⟩ rfl rfl rfl rfl rfl (by kernel_rfl) Try.func10 (by kernel_rfl)
    (of_decide_eq_true (by kernel_rfl)) (by unfold Func.isWrapper; first | (rw [if_pos (by decide +kernel)]; kernel_rfl) | (rw [if_neg (by decide +kernel)]; exact ⟨rfl, rfl⟩))
    (fun os started H enc _ => lifted os started H enc)
theorem proved : Rows.SlotRowSaid := over
#print axioms proved
end Go.Proofs.Ytkgcaheddhfpgaa.slotRow
namespace Go.Proofs.Ytkgcaheddhfpgaa
/-- The row, under a short name, for the claim. -/
theorem slotRow_holds : Rows.SlotRowSaid := slotRow.proved
end Go.Proofs.Ytkgcaheddhfpgaa
