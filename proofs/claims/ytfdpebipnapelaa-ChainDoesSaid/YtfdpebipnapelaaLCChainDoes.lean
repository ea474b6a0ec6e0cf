/- The statement ChainDoes: for every input the call answers true, and each argument reads as it did. No condition. -/
import Derived.Test.YtfdpebipnapelaaRows
import Derived.Test.YtfdpebipnapelaaCChainDoesz
import Derived.Test.YtfdpebipnapelaaC13bc
namespace Go.Proofs.Ytfdpebipnapelaa.chainDoes
open Go.ChangeShapes Go.WideShapes Go.ChangeAt Go.RowKit Go.Proofs.YtfdpebipnapelaaW.PrintWords Go.Proofs.Ytfdpebipnapelaa.Opens Go.Proofs.Ytfdpebipnapelaa.P
open Go.ChangeMaps (open_string shut_string)
set_option linter.unusedVariables false
theorem own : ownKnob Try.prog.godebug = none := by kernel_rfl
theorem laidOut : laidOutB Try.prog = true := by kernel_rfl
set_option maxRecDepth 100000 in
theorem lifted (os : Os) (started : os.Started) (H : Type) (enc : TypeId × Value → H) :
    ReturnsInHanded {} Try.checked os 7 .any (Rows.chainDoesSpec.pre6 enc Try.prog Try.f7 Rows.chainDoesRow.domain false) (Rows.chainDoesSpec.post enc Try.prog Try.f7 false true false false) := by
  refine returnsInHanded_of_change_sized (C := Try.checked) own started (by kernel_rfl) Try.func7
    (ChangeSpec.witness6 (enc := enc) (C := Try.checked) false ⟨#[], #[.string ByteArray.empty, .int .i64 0, .int .i64 0, .agg #[.int .i64 0, .int .i64 0, .slice none 0 0], .slice none 0 0], []⟩ 8 (by kernel_rfl) (by kernel_rfl) (by kernel_rfl) (by kernel_rfl)) ?_
  intro W base args ds gs before hval0 hW hcnd hsz0 _
  have hval : ∀ (j : Nat) t v, Try.f7.params[j]? = some t → args[j]? = some v → Value.okWide Try.prog W .any base t v := hval0
  have hW' := hW
  obtain ⟨p, q, hA0, hV, rfl, hfz, hnd⟩ := hW
  have hA : DataW.TrodAll enc Try.prog W 0 (fun _ => true) true Try.f7.params.toList args.toList ds p := hA0
  rw [Try.params7] at hA hval
  obtain ⟨v0, vs0, d0, ds0, p0, q0, hargs, rfl, rfl, h0, r0⟩ := trodAll_cons hA
  obtain ⟨v1, vs1, d1, ds1, p1, q1, rfl, rfl, rfl, h1, r1⟩ := trodAll_cons r0
  obtain ⟨v2, vs2, d2, ds2, p2, q2, rfl, rfl, rfl, h2, r2⟩ := trodAll_cons r1
  obtain ⟨v3, vs3, d3, ds3, p3, q3, rfl, rfl, rfl, h3, r3⟩ := trodAll_cons r2
  obtain ⟨v4, vs4, d4, ds4, p4, q4, rfl, rfl, rfl, h4, r4⟩ := trodAll_cons r3
  obtain ⟨rfl, rfl, rfl⟩ := trodAll_nil r4
  obtain rfl : args = #[v0, v1, v2, v3, v4] := by cases args; simp_all
  obtain ⟨rfl, rfl⟩ := trodVars_none hV
  have k0 := h0
  have lt0 : ∀ x ∈ p0, x.block < W.heap.size := by obtain ⟨m, hm⟩ := k0; exact DataW.trod_lt m _ _ _ hm
  obtain ⟨a0, rfl, rfl, rfl, w0⟩ := open_string Try.underlying9 (hval 0 9 v0 rfl rfl) h0
  have k1 := h1
  have lt1 : ∀ x ∈ p1, x.block < W.heap.size := by obtain ⟨m, hm⟩ := k1; exact DataW.trod_lt m _ _ _ hm
  obtain ⟨a1, rfl, rfl, rfl, w1⟩ := open_int Try.underlying3 (hval 1 3 v1 rfl rfl) h1
  have k2 := h2
  have lt2 : ∀ x ∈ p2, x.block < W.heap.size := by obtain ⟨m, hm⟩ := k2; exact DataW.trod_lt m _ _ _ hm
  obtain ⟨a2, rfl, rfl, rfl, w2⟩ := open_int Try.underlying3 (hval 2 3 v2 rfl rfl) h2
  have k3 := h3
  have lt3 : ∀ x ∈ p3, x.block < W.heap.size := by obtain ⟨m, hm⟩ := k3; exact DataW.trod_lt m _ _ _ hm
  have hop3 : Opens Try.prog (Kd.pair (Kd.int .i64) (Kd.pair (Kd.int .i64) (Kd.slice 3 (Kd.int .i64)))) (OkPair (OkInt .i64) (OkPair (OkInt .i64) (OkList (OkInt .i64)))) 24 := (opens_struct_id Try.underlying24 (by kernel_rfl) (opensF_pair (off := 0) (len := 1) (len' := 2) (opens_int Try.underlying3) rfl rfl (by kernel_rfl) (opensF_pair (off := 1) (len := 1) (len' := 1) (opens_int Try.underlying3) rfl rfl (by kernel_rfl) (opensF_one (off := 2) (len := 1) (opens_slice Try.underlying22 (by kernel_rfl) (opens_int Try.underlying3)) rfl rfl (by kernel_rfl)))))
  obtain ⟨cs3, x3, rfl, hK3, w3⟩ := param_struct (kd := (Kd.pair (Kd.int .i64) (Kd.pair (Kd.int .i64) (Kd.slice 3 (Kd.int .i64))))) Try.underlying24 hop3 (hval 3 24 v3 rfl rfl) h3
  obtain ⟨l_3, hl_3⟩ : ∃ l_, cs3.toList = l_ := ⟨_, rfl⟩
  obtain rfl := agg_eq hl_3
  clear hl_3
  rw [show l_3.toArray.toList = l_3 from rfl] at hK3
  obtain ⟨_, _, rfl, rfl, ⟨_, _, rfl, rfl, ⟨A3_2, c3_2, rfl, hc3_2, hr3_2⟩⟩⟩ := hK3
  have k4 := h4
  have lt4 : ∀ x ∈ p4, x.block < W.heap.size := by obtain ⟨m, hm⟩ := k4; exact DataW.trod_lt m _ _ _ hm
  obtain ⟨A4, c4, l4, rfl, hc4, hr4, w4⟩ := param_slice Try.underlying40 (opens_slice Try.underlying40 (by kernel_rfl) (opens_string Try.underlying9)) (hval 4 40 v4 rfl rfl) h4
  clear hA0 hval0 hsz0
  obtain ⟨k, hk⟩ := Pure.ChainDoes a0 a1 a2 x3.1 x3.2.1 x3.2.2 l4 w0 w1 w2 w3 w4
  refine (sextonlaw13_ChainDoes.calls (k := k) (a0 := a0) (a1 := a1) (a2 := a2) (a3_0 := x3.1) (a3_1 := x3.2.1) (A3_2 := A3_2) (c3_2 := c3_2) (l3_2 := x3.2.2) (hr3_2 := hr3_2) (hc3_2 := hc3_2) (A4 := A4) (c4 := c4) (l4 := l4) (hr4 := hr4) (hc4 := hc4) (r := true) (w := W) (h := hk)).mono ?_
  rintro e W' ⟨rfl, bel⟩
  exact ⟨_, rfl, _, _, _, [], _, [], hW', trodAll_mk1 (shut_bool Try.underlying4 _), (trodAll_cons_mk (Below.trod laidOut (by kernel_rfl) (of_decide_eq_true (by kernel_rfl)) k0 bel lt0) (trodAll_cons_mk (Below.trod laidOut (by kernel_rfl) (of_decide_eq_true (by kernel_rfl)) k1 bel lt1) (trodAll_cons_mk (Below.trod laidOut (by kernel_rfl) (of_decide_eq_true (by kernel_rfl)) k2 bel lt2) (trodAll_cons_mk (Below.trod laidOut (by kernel_rfl) (of_decide_eq_true (by kernel_rfl)) k3 bel lt3) (trodAll_cons_mk (Below.trod laidOut (by kernel_rfl) (of_decide_eq_true (by kernel_rfl)) k4 bel lt4) trodAll_mk0))))), rfl, bel.frame _, fun h => by cases h⟩
theorem over : Rows.chainDoesRow.holds Try.pinned (OpenSpec.ofChange Rows.chainDoesSpec) :=
  OpenClaim.holds_of_wide 7 Try.f7 rfl rfl rfl rfl rfl rfl rfl ⟨rfl, rfl, rfl, rfl, rfl⟩ rfl rfl rfl rfl rfl (by kernel_rfl) Try.func7 (by kernel_rfl)
    (of_decide_eq_true (by kernel_rfl)) (by unfold Func.isWrapper; first | (rw [if_pos (by decide +kernel)]; kernel_rfl) | (rw [if_neg (by decide +kernel)]; exact ⟨rfl, rfl⟩))
    (fun os started H enc _ => lifted os started H enc)
theorem proved : Rows.ChainDoesSaid := over
#print axioms proved
end Go.Proofs.Ytfdpebipnapelaa.chainDoes
namespace Go.Proofs.Ytfdpebipnapelaa
/-- The row, under a short name, for the claim. -/
theorem chainDoes_holds : Rows.ChainDoesSaid := chainDoes.proved
end Go.Proofs.Ytfdpebipnapelaa
