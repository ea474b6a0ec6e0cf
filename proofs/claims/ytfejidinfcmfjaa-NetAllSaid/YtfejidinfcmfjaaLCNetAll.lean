/- The statement NetAll: for every input the call answers true, and each argument reads as it did. No condition. -/
import Derived.Test.YtfejidinfcmfjaaRows
import Derived.Test.YtfejidinfcmfjaaCNetAllz
import Derived.Test.YtfejidinfcmfjaaCn5be
namespace Go.Proofs.Ytfejidinfcmfjaa.netAll
open Go.ChangeShapes Go.WideShapes Go.ChangeAt Go.RowKit Go.Proofs.YtfejidinfcmfjaaW.PrintWords Go.Proofs.Ytfejidinfcmfjaa.Opens Go.Proofs.Ytfejidinfcmfjaa.P
open Go.ChangeMaps (open_string shut_string)
set_option linter.unusedVariables false
theorem own : ownKnob Try.prog.godebug = none := by kernel_rfl
theorem laidOut : laidOutB Try.prog = true := by kernel_rfl
set_option maxRecDepth 100000 in
theorem lifted (os : Os) (started : os.Started) (H : Type) (enc : TypeId × Value → H) :
    ReturnsInHanded {} Try.checked os 4 .any (Rows.netAllSpec.pre6 enc Try.prog Try.f4 Rows.netAllRow.domain false) (Rows.netAllSpec.post enc Try.prog Try.f4 false true false false) := by
  refine returnsInHanded_of_change_sized (C := Try.checked) own started (by kernel_rfl) Try.func4
    (ChangeSpec.witness6 (enc := enc) (C := Try.checked) false ⟨#[], #[.slice none 0 0], []⟩ 8 (by kernel_rfl) (by kernel_rfl) (by kernel_rfl) (by kernel_rfl)) ?_
  intro W base args ds gs before hval0 hW hcnd hsz0 _
  have hval : ∀ (j : Nat) t v, Try.f4.params[j]? = some t → args[j]? = some v → Value.okWide Try.prog W .any base t v := hval0
  have hW' := hW
  obtain ⟨p, q, hA0, hV, rfl, hfz, hnd⟩ := hW
  have hA : DataW.TrodAll enc Try.prog W 0 (fun _ => true) true Try.f4.params.toList args.toList ds p := hA0
  rw [Try.params4] at hA hval
  obtain ⟨v0, vs0, d0, ds0, p0, q0, hargs, rfl, rfl, h0, r0⟩ := trodAll_cons hA
  obtain ⟨rfl, rfl, rfl⟩ := trodAll_nil r0
  obtain rfl : args = #[v0] := by cases args; simp_all
  obtain ⟨rfl, rfl⟩ := trodVars_none hV
  have k0 := h0
  have lt0 : ∀ x ∈ p0, x.block < W.heap.size := by obtain ⟨m, hm⟩ := k0; exact DataW.trod_lt m _ _ _ hm
  obtain ⟨A0, c0, l0, rfl, hc0, hr0, w0⟩ := param_slice Try.underlying22 (opens_slice Try.underlying22 (by kernel_rfl) (show Opens Try.prog k29 (fun b : S29 => (OkPair (OkInt .i64) (OkPair (OkInt .i64) (OkPair (OkInt .i64) (OkPair (OkInt .i64) (OkPair (OkInt .i64) (OkPair (OkInt .i64) (OkPair (OkInt .i64) (OkList OkStr)))))))) (b.f0, b.f1, b.f2, b.f3, b.f4, b.f5, b.f6, b.f7)) 29 from opens_struct Try.underlying29 (by kernel_rfl) (opensF_pair (off := 0) (len := 1) (len' := 7) (opens_int Try.underlying3) rfl rfl (by kernel_rfl) (opensF_pair (off := 1) (len := 1) (len' := 6) (opens_int Try.underlying3) rfl rfl (by kernel_rfl) (opensF_pair (off := 2) (len := 1) (len' := 5) (opens_int Try.underlying3) rfl rfl (by kernel_rfl) (opensF_pair (off := 3) (len := 1) (len' := 4) (opens_int Try.underlying3) rfl rfl (by kernel_rfl) (opensF_pair (off := 4) (len := 1) (len' := 3) (opens_int Try.underlying3) rfl rfl (by kernel_rfl) (opensF_pair (off := 5) (len := 1) (len' := 2) (opens_int Try.underlying3) rfl rfl (by kernel_rfl) (opensF_pair (off := 6) (len := 1) (len' := 1) (opens_int Try.underlying3) rfl rfl (by kernel_rfl) (opensF_one (off := 7) (len := 1) (opens_slice Try.underlying27 (by kernel_rfl) (opens_string Try.underlying9)) rfl rfl (by kernel_rfl))))))))) (fun x : S29 => (x.f0, x.f1, x.f2, x.f3, x.f4, x.f5, x.f6, x.f7)) (fun p => ⟨p.1, p.2.1, p.2.2.1, p.2.2.2.1, p.2.2.2.2.1, p.2.2.2.2.2.1, p.2.2.2.2.2.2.1, p.2.2.2.2.2.2.2⟩) (fun _ => rfl))) (hval 0 22 v0 rfl rfl) h0
  clear hA0 hval0 hsz0
  obtain ⟨k, hk⟩ := Pure.NetAll l0 w0
  refine (sextonlaw25_NetAll.calls (k := k) (A0 := A0) (c0 := c0) (l0 := l0) (hr0 := hr0) (hc0 := hc0) (r := true) (w := W) (h := hk)).mono ?_
  rintro e W' ⟨rfl, bel⟩
  exact ⟨_, rfl, _, _, _, [], _, [], hW', trodAll_mk1 (shut_bool Try.underlying4 _), (trodAll_cons_mk (Below.trod laidOut (by kernel_rfl) (of_decide_eq_true (by kernel_rfl)) k0 bel lt0) trodAll_mk0), rfl, bel.frame _, fun h => by cases h⟩
theorem over : Rows.netAllRow.holds Try.pinned (OpenSpec.ofChange Rows.netAllSpec) :=
  OpenClaim.holds_of_wide 4 Try.f4 rfl rfl rfl rfl rfl rfl rfl ⟨rfl, rfl, rfl, rfl, rfl⟩ rfl rfl rfl rfl rfl (by kernel_rfl) Try.func4 (by kernel_rfl)
    (of_decide_eq_true (by kernel_rfl)) (by unfold Func.isWrapper; first | (rw [if_pos (by decide +kernel)]; kernel_rfl) | (rw [if_neg (by decide +kernel)]; exact ⟨rfl, rfl⟩))
    (fun os started H enc _ => lifted os started H enc)
theorem proved : Rows.NetAllSaid := over
#print axioms proved
end Go.Proofs.Ytfejidinfcmfjaa.netAll
namespace Go.Proofs.Ytfejidinfcmfjaa
/-- The row, under a short name, for the claim. -/
theorem netAll_holds : Rows.NetAllSaid := netAll.proved
end Go.Proofs.Ytfejidinfcmfjaa
