/- The statement NetSplit: for every input the call answers true, and each argument reads as it did. No condition. -/
import Derived.Test.YtfejidinfcmfjaaRows
import Derived.Test.YtfejidinfcmfjaaCNetSplitz
import Derived.Test.YtfejidinfcmfjaaCn5ee
namespace Go.Proofs.Ytfejidinfcmfjaa.netSplit
open Go.ChangeShapes Go.WideShapes Go.ChangeAt Go.RowKit Go.Proofs.YtfejidinfcmfjaaW.PrintWords Go.Proofs.Ytfejidinfcmfjaa.Opens Go.Proofs.Ytfejidinfcmfjaa.P
open Go.ChangeMaps (open_string shut_string)
set_option linter.unusedVariables false
theorem own : ownKnob Try.prog.godebug = none := by kernel_rfl
theorem laidOut : laidOutB Try.prog = true := by kernel_rfl
set_option maxRecDepth 100000 in
theorem lifted (os : Os) (started : os.Started) (H : Type) (enc : TypeId × Value → H) :
    ReturnsInHanded {} Try.checked os 5 .any (Rows.netSplitSpec.pre6 enc Try.prog Try.f5 Rows.netSplitRow.domain false) (Rows.netSplitSpec.post enc Try.prog Try.f5 false true false false) := by
  refine returnsInHanded_of_change_sized (C := Try.checked) own started (by kernel_rfl) Try.func5
    (ChangeSpec.witness6 (enc := enc) (C := Try.checked) false ⟨#[], #[.slice none 0 0, .int .i64 0, .int .i64 0, .int .i64 0], []⟩ 8 (by kernel_rfl) (by kernel_rfl) (by kernel_rfl) (by kernel_rfl)) ?_
  intro W base args ds gs before hval0 hW hcnd hsz0 _
  have hval : ∀ (j : Nat) t v, Try.f5.params[j]? = some t → args[j]? = some v → Value.okWide Try.prog W .any base t v := hval0
  have hW' := hW
  obtain ⟨p, q, hA0, hV, rfl, hfz, hnd⟩ := hW
  have hA : DataW.TrodAll enc Try.prog W 0 (fun _ => true) true Try.f5.params.toList args.toList ds p := hA0
  rw [Try.params5] at hA hval
  obtain ⟨v0, vs0, d0, ds0, p0, q0, hargs, rfl, rfl, h0, r0⟩ := trodAll_cons hA
  obtain ⟨v1, vs1, d1, ds1, p1, q1, rfl, rfl, rfl, h1, r1⟩ := trodAll_cons r0
  obtain ⟨v2, vs2, d2, ds2, p2, q2, rfl, rfl, rfl, h2, r2⟩ := trodAll_cons r1
  obtain ⟨v3, vs3, d3, ds3, p3, q3, rfl, rfl, rfl, h3, r3⟩ := trodAll_cons r2
  obtain ⟨rfl, rfl, rfl⟩ := trodAll_nil r3
  obtain rfl : args = #[v0, v1, v2, v3] := by cases args; simp_all
  obtain ⟨rfl, rfl⟩ := trodVars_none hV
  have k0 := h0
  have lt0 : ∀ x ∈ p0, x.block < W.heap.size := by obtain ⟨m, hm⟩ := k0; exact DataW.trod_lt m _ _ _ hm
  obtain ⟨A0, c0, l0, rfl, hc0, hr0, w0⟩ := param_slice Try.underlying22 (opens_slice Try.underlying22 (by kernel_rfl) (show Opens Try.prog k29 (fun b : S29 => (OkPair (OkInt .i64) (OkPair (OkInt .i64) (OkPair (OkInt .i64) (OkPair (OkInt .i64) (OkPair (OkInt .i64) (OkPair (OkInt .i64) (OkPair (OkInt .i64) (OkList OkStr)))))))) (b.f0, b.f1, b.f2, b.f3, b.f4, b.f5, b.f6, b.f7)) 29 from opens_struct Try.underlying29 (by kernel_rfl) (opensF_pair (off := 0) (len := 1) (len' := 7) (opens_int Try.underlying3) rfl rfl (by kernel_rfl) (opensF_pair (off := 1) (len := 1) (len' := 6) (opens_int Try.underlying3) rfl rfl (by kernel_rfl) (opensF_pair (off := 2) (len := 1) (len' := 5) (opens_int Try.underlying3) rfl rfl (by kernel_rfl) (opensF_pair (off := 3) (len := 1) (len' := 4) (opens_int Try.underlying3) rfl rfl (by kernel_rfl) (opensF_pair (off := 4) (len := 1) (len' := 3) (opens_int Try.underlying3) rfl rfl (by kernel_rfl) (opensF_pair (off := 5) (len := 1) (len' := 2) (opens_int Try.underlying3) rfl rfl (by kernel_rfl) (opensF_pair (off := 6) (len := 1) (len' := 1) (opens_int Try.underlying3) rfl rfl (by kernel_rfl) (opensF_one (off := 7) (len := 1) (opens_slice Try.underlying27 (by kernel_rfl) (opens_string Try.underlying9)) rfl rfl (by kernel_rfl))))))))) (fun x : S29 => (x.f0, x.f1, x.f2, x.f3, x.f4, x.f5, x.f6, x.f7)) (fun p => ⟨p.1, p.2.1, p.2.2.1, p.2.2.2.1, p.2.2.2.2.1, p.2.2.2.2.2.1, p.2.2.2.2.2.2.1, p.2.2.2.2.2.2.2⟩) (fun _ => rfl))) (hval 0 22 v0 rfl rfl) h0
  have k1 := h1
  have lt1 : ∀ x ∈ p1, x.block < W.heap.size := by obtain ⟨m, hm⟩ := k1; exact DataW.trod_lt m _ _ _ hm
  obtain ⟨a1, rfl, rfl, rfl, w1⟩ := open_int Try.underlying3 (hval 1 3 v1 rfl rfl) h1
  have k2 := h2
  have lt2 : ∀ x ∈ p2, x.block < W.heap.size := by obtain ⟨m, hm⟩ := k2; exact DataW.trod_lt m _ _ _ hm
  obtain ⟨a2, rfl, rfl, rfl, w2⟩ := open_int Try.underlying3 (hval 2 3 v2 rfl rfl) h2
  have k3 := h3
  have lt3 : ∀ x ∈ p3, x.block < W.heap.size := by obtain ⟨m, hm⟩ := k3; exact DataW.trod_lt m _ _ _ hm
  obtain ⟨a3, rfl, rfl, rfl, w3⟩ := open_int Try.underlying3 (hval 3 3 v3 rfl rfl) h3
  clear hA0 hval0 hsz0
  obtain ⟨k, hk⟩ := Pure.NetSplit l0 a1 a2 a3 w0 w1 w2 w3
  refine (sextonlaw25_NetSplit.calls (k := k) (A0 := A0) (c0 := c0) (l0 := l0) (hr0 := hr0) (hc0 := hc0) (a1 := a1) (a2 := a2) (a3 := a3) (r := true) (w := W) (h := hk)).mono ?_
  rintro e W' ⟨rfl, bel⟩
  exact ⟨_, rfl, _, _, _, [], _, [], hW', trodAll_mk1 (shut_bool Try.underlying4 _), (trodAll_cons_mk (Below.trod laidOut (by kernel_rfl) (of_decide_eq_true (by kernel_rfl)) k0 bel lt0) (trodAll_cons_mk (Below.trod laidOut (by kernel_rfl) (of_decide_eq_true (by kernel_rfl)) k1 bel lt1) (trodAll_cons_mk (Below.trod laidOut (by kernel_rfl) (of_decide_eq_true (by kernel_rfl)) k2 bel lt2) (trodAll_cons_mk (Below.trod laidOut (by kernel_rfl) (of_decide_eq_true (by kernel_rfl)) k3 bel lt3) trodAll_mk0)))), rfl, bel.frame _, fun h => by cases h⟩
theorem over : Rows.netSplitRow.holds Try.pinned (OpenSpec.ofChange Rows.netSplitSpec) :=
  OpenClaim.holds_of_wide 5 Try.f5 rfl rfl rfl rfl rfl rfl rfl ⟨rfl, rfl, rfl, rfl, rfl⟩ rfl rfl rfl rfl rfl (by kernel_rfl) Try.func5 (by kernel_rfl)
    (of_decide_eq_true (by kernel_rfl)) (by unfold Func.isWrapper; first | (rw [if_pos (by decide +kernel)]; kernel_rfl) | (rw [if_neg (by decide +kernel)]; exact ⟨rfl, rfl⟩))
    (fun os started H enc _ => lifted os started H enc)
theorem proved : Rows.NetSplitSaid := over
#print axioms proved
end Go.Proofs.Ytfejidinfcmfjaa.netSplit
namespace Go.Proofs.Ytfejidinfcmfjaa
/-- The row, under a short name, for the claim. -/
theorem netSplit_holds : Rows.NetSplitSaid := netSplit.proved
end Go.Proofs.Ytfejidinfcmfjaa
