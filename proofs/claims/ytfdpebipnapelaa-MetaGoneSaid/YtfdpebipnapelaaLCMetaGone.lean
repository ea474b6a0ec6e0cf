/- The statement MetaGone: for every input the call answers true, and each argument reads as it did. No condition. -/
import Derived.Test.YtfdpebipnapelaaRows
import Derived.Test.YtfdpebipnapelaaCMetaGonez
import Derived.Test.YtfdpebipnapelaaC12c
namespace Go.Proofs.Ytfdpebipnapelaa.metaGone
open Go.ChangeShapes Go.WideShapes Go.ChangeAt Go.RowKit Go.Proofs.YtfdpebipnapelaaW.PrintWords Go.Proofs.Ytfdpebipnapelaa.Opens Go.Proofs.Ytfdpebipnapelaa.P
open Go.ChangeMaps (open_string shut_string)
set_option linter.unusedVariables false
theorem own : ownKnob Try.prog.godebug = none := by kernel_rfl
theorem laidOut : laidOutB Try.prog = true := by kernel_rfl
set_option maxRecDepth 100000 in
theorem lifted (os : Os) (started : os.Started) (H : Type) (enc : TypeId × Value → H) :
    ReturnsInHanded {} Try.checked os 6 .any (Rows.metaGoneSpec.pre6 enc Try.prog Try.f6 Rows.metaGoneRow.domain false) (Rows.metaGoneSpec.post enc Try.prog Try.f6 false true false false) := by
  refine returnsInHanded_of_change_sized (C := Try.checked) own started (by kernel_rfl) Try.func6
    (ChangeSpec.witness6 (enc := enc) (C := Try.checked) false ⟨#[], #[.agg #[.int .i64 0, .int .i64 0, .slice none 0 0], .agg #[.int .i64 0, .int .i64 0, .slice none 0 0]], []⟩ 8 (by kernel_rfl) (by kernel_rfl) (by kernel_rfl) (by kernel_rfl)) ?_
  intro W base args ds gs before hval0 hW hcnd hsz0 _
  have hval : ∀ (j : Nat) t v, Try.f6.params[j]? = some t → args[j]? = some v → Value.okWide Try.prog W .any base t v := hval0
  have hW' := hW
  obtain ⟨p, q, hA0, hV, rfl, hfz, hnd⟩ := hW
  have hA : DataW.TrodAll enc Try.prog W 0 (fun _ => true) true Try.f6.params.toList args.toList ds p := hA0
  rw [Try.params6] at hA hval
  obtain ⟨v0, vs0, d0, ds0, p0, q0, hargs, rfl, rfl, h0, r0⟩ := trodAll_cons hA
  obtain ⟨v1, vs1, d1, ds1, p1, q1, rfl, rfl, rfl, h1, r1⟩ := trodAll_cons r0
  obtain ⟨rfl, rfl, rfl⟩ := trodAll_nil r1
  obtain rfl : args = #[v0, v1] := by cases args; simp_all
  obtain ⟨rfl, rfl⟩ := trodVars_none hV
  have k0 := h0
  have lt0 : ∀ x ∈ p0, x.block < W.heap.size := by obtain ⟨m, hm⟩ := k0; exact DataW.trod_lt m _ _ _ hm
  have hop0 : Opens Try.prog (Kd.pair (Kd.int .i64) (Kd.pair (Kd.int .i64) (Kd.slice 3 (Kd.int .i64)))) (OkPair (OkInt .i64) (OkPair (OkInt .i64) (OkList (OkInt .i64)))) 24 := (opens_struct_id Try.underlying24 (by kernel_rfl) (opensF_pair (off := 0) (len := 1) (len' := 2) (opens_int Try.underlying3) rfl rfl (by kernel_rfl) (opensF_pair (off := 1) (len := 1) (len' := 1) (opens_int Try.underlying3) rfl rfl (by kernel_rfl) (opensF_one (off := 2) (len := 1) (opens_slice Try.underlying22 (by kernel_rfl) (opens_int Try.underlying3)) rfl rfl (by kernel_rfl)))))
  obtain ⟨cs0, x0, rfl, hK0, w0⟩ := param_struct (kd := (Kd.pair (Kd.int .i64) (Kd.pair (Kd.int .i64) (Kd.slice 3 (Kd.int .i64))))) Try.underlying24 hop0 (hval 0 24 v0 rfl rfl) h0
  obtain ⟨l_0, hl_0⟩ : ∃ l_, cs0.toList = l_ := ⟨_, rfl⟩
  obtain rfl := agg_eq hl_0
  clear hl_0
  rw [show l_0.toArray.toList = l_0 from rfl] at hK0
  obtain ⟨_, _, rfl, rfl, ⟨_, _, rfl, rfl, ⟨A0_2, c0_2, rfl, hc0_2, hr0_2⟩⟩⟩ := hK0
  have k1 := h1
  have lt1 : ∀ x ∈ p1, x.block < W.heap.size := by obtain ⟨m, hm⟩ := k1; exact DataW.trod_lt m _ _ _ hm
  have hop1 : Opens Try.prog (Kd.pair (Kd.int .i64) (Kd.pair (Kd.int .i64) (Kd.slice 3 (Kd.int .i64)))) (OkPair (OkInt .i64) (OkPair (OkInt .i64) (OkList (OkInt .i64)))) 24 := (opens_struct_id Try.underlying24 (by kernel_rfl) (opensF_pair (off := 0) (len := 1) (len' := 2) (opens_int Try.underlying3) rfl rfl (by kernel_rfl) (opensF_pair (off := 1) (len := 1) (len' := 1) (opens_int Try.underlying3) rfl rfl (by kernel_rfl) (opensF_one (off := 2) (len := 1) (opens_slice Try.underlying22 (by kernel_rfl) (opens_int Try.underlying3)) rfl rfl (by kernel_rfl)))))
  obtain ⟨cs1, x1, rfl, hK1, w1⟩ := param_struct (kd := (Kd.pair (Kd.int .i64) (Kd.pair (Kd.int .i64) (Kd.slice 3 (Kd.int .i64))))) Try.underlying24 hop1 (hval 1 24 v1 rfl rfl) h1
  obtain ⟨l_1, hl_1⟩ : ∃ l_, cs1.toList = l_ := ⟨_, rfl⟩
  obtain rfl := agg_eq hl_1
  clear hl_1
  rw [show l_1.toArray.toList = l_1 from rfl] at hK1
  obtain ⟨_, _, rfl, rfl, ⟨_, _, rfl, rfl, ⟨A1_2, c1_2, rfl, hc1_2, hr1_2⟩⟩⟩ := hK1
  clear hA0 hval0 hsz0
  obtain ⟨k, hk⟩ := Pure.MetaGone x0.1 x0.2.1 x0.2.2 x1.1 x1.2.1 x1.2.2 w0 w1
  refine (sextonlaw12_MetaGone.calls (k := k) (a0_0 := x0.1) (a0_1 := x0.2.1) (A0_2 := A0_2) (c0_2 := c0_2) (l0_2 := x0.2.2) (hr0_2 := hr0_2) (hc0_2 := hc0_2) (a1_0 := x1.1) (a1_1 := x1.2.1) (A1_2 := A1_2) (c1_2 := c1_2) (l1_2 := x1.2.2) (hr1_2 := hr1_2) (hc1_2 := hc1_2) (r := true) (w := W) (h := hk)).mono ?_
  rintro e W' ⟨rfl, bel⟩
  exact ⟨_, rfl, _, _, _, [], _, [], hW', trodAll_mk1 (shut_bool Try.underlying4 _), (trodAll_cons_mk (Below.trod laidOut (by kernel_rfl) (of_decide_eq_true (by kernel_rfl)) k0 bel lt0) (trodAll_cons_mk (Below.trod laidOut (by kernel_rfl) (of_decide_eq_true (by kernel_rfl)) k1 bel lt1) trodAll_mk0)), rfl, bel.frame _, fun h => by cases h⟩
theorem over : Rows.metaGoneRow.holds Try.pinned (OpenSpec.ofChange Rows.metaGoneSpec) :=
  OpenClaim.holds_of_wide 6 Try.f6 rfl rfl rfl rfl rfl rfl rfl ⟨rfl, rfl, rfl, rfl, rfl⟩ rfl rfl rfl rfl rfl (by kernel_rfl) Try.func6 (by kernel_rfl)
    (of_decide_eq_true (by kernel_rfl)) (by unfold Func.isWrapper; first | (rw [if_pos (by decide +kernel)]; kernel_rfl) | (rw [if_neg (by decide +kernel)]; exact ⟨rfl, rfl⟩))
    (fun os started H enc _ => lifted os started H enc)
theorem proved : Rows.MetaGoneSaid := over
#print axioms proved
end Go.Proofs.Ytfdpebipnapelaa.metaGone
namespace Go.Proofs.Ytfdpebipnapelaa
/-- The row, under a short name, for the claim. -/
theorem metaGone_holds : Rows.MetaGoneSaid := metaGone.proved
end Go.Proofs.Ytfdpebipnapelaa
