/- The statement WalDoes: for every input the call answers true, and each argument reads as it did. No condition. -/
import Derived.Test.YtoibofhmlokglaaRows
import Derived.Test.YtoibofhmlokglaaCWalDoesz
import Derived.Test.YtoibofhmlokglaaC7dh
namespace Go.Proofs.Ytoibofhmlokglaa.walDoes
open Go.ChangeShapes Go.WideShapes Go.ChangeAt Go.RowKit Go.Proofs.YtoibofhmlokglaaW.PrintWords Go.Proofs.Ytoibofhmlokglaa.Opens Go.Proofs.Ytoibofhmlokglaa.P
open Go.ChangeMaps (open_string shut_string)
set_option linter.unusedVariables false
theorem own : ownKnob Try.prog.godebug = none := by kernel_rfl
theorem laidOut : laidOutB Try.prog = true := by kernel_rfl
set_option maxRecDepth 100000 in
theorem lifted (os : Os) (started : os.Started) (H : Type) (enc : TypeId × Value → H) :
    ReturnsInHanded {} Try.checked os 8 .any (Rows.walDoesSpec.pre6 enc Try.prog Try.f8 Rows.walDoesRow.domain false) (Rows.walDoesSpec.post enc Try.prog Try.f8 false true false false) := by
  refine returnsInHanded_of_change_sized (C := Try.checked) own started (by kernel_rfl) Try.func8
    (ChangeSpec.witness6 (enc := enc) (C := Try.checked) false ⟨#[], #[.agg #[.slice none 0 0, .slice none 0 0], .int .i64 0, .int .i64 0, .slice none 0 0, .int .i64 0], []⟩ 8 (by kernel_rfl) (by kernel_rfl) (by kernel_rfl) (by kernel_rfl)) ?_
  intro W base args ds gs before hval0 hW hcnd hsz0 _
  have hval : ∀ (j : Nat) t v, Try.f8.params[j]? = some t → args[j]? = some v → Value.okWide Try.prog W .any base t v := hval0
  have hW' := hW
  obtain ⟨p, q, hA0, hV, rfl, hfz, hnd⟩ := hW
  have hA : DataW.TrodAll enc Try.prog W 0 (fun _ => true) true Try.f8.params.toList args.toList ds p := hA0
  rw [Try.params8] at hA hval
  obtain ⟨v0, vs0, d0, ds0, p0, q0, hargs, rfl, rfl, h0, r0⟩ := trodAll_cons hA
  obtain ⟨v1, vs1, d1, ds1, p1, q1, rfl, rfl, rfl, h1, r1⟩ := trodAll_cons r0
  obtain ⟨v2, vs2, d2, ds2, p2, q2, rfl, rfl, rfl, h2, r2⟩ := trodAll_cons r1
  obtain ⟨v3, vs3, d3, ds3, p3, q3, rfl, rfl, rfl, h3, r3⟩ := trodAll_cons r2
  obtain ⟨v4, vs4, d4, ds4, p4, q4, rfl, rfl, rfl, h4, r4⟩ := trodAll_cons r3
  obtain ⟨rfl, rfl, rfl⟩ := trodAll_nil r4
  obtain rfl : args = #[v0, v1, v2, v3, v4] := by cases args; simp_all
  obtain ⟨rfl, rfl⟩ := trodVars_none hV
  have k0 := h0
  have lt0 : ∀ x ∈ p0, x.block < W.heap.size := by obtain ⟨m, hm⟩ := k0; exact DataW.trod_lt m _ _ _ hm
  have hop0 : Opens Try.prog (Kd.pair (Kd.slice 9 Kd.string) (Kd.slice 40 k40)) (OkPair (OkList OkStr) (OkList (fun b : S40 => (OkPair (OkInt .i64) OkStr) (b.f0, b.f1)))) 25 := (opens_struct_id Try.underlying25 (by kernel_rfl) (opensF_pair (off := 0) (len := 1) (len' := 1) (opens_slice Try.underlying22 (by kernel_rfl) (opens_string Try.underlying9)) rfl rfl (by kernel_rfl) (opensF_one (off := 1) (len := 1) (opens_slice Try.underlying23 (by kernel_rfl) (show Opens Try.prog k40 (fun b : S40 => (OkPair (OkInt .i64) OkStr) (b.f0, b.f1)) 40 from opens_struct Try.underlying40 (by kernel_rfl) (opensF_pair (off := 0) (len := 1) (len' := 1) (opens_int Try.underlying3) rfl rfl (by kernel_rfl) (opensF_one (off := 1) (len := 1) (opens_string Try.underlying9) rfl rfl (by kernel_rfl))) (fun x : S40 => (x.f0, x.f1)) (fun p => ⟨p.1, p.2⟩) (fun _ => rfl))) rfl rfl (by kernel_rfl))))
  obtain ⟨cs0, x0, rfl, hK0, w0⟩ := param_struct (kd := (Kd.pair (Kd.slice 9 Kd.string) (Kd.slice 40 k40))) Try.underlying25 hop0 (hval 0 25 v0 rfl rfl) h0
  obtain ⟨l_0, hl_0⟩ : ∃ l_, cs0.toList = l_ := ⟨_, rfl⟩
  obtain rfl := agg_eq hl_0
  clear hl_0
  rw [show l_0.toArray.toList = l_0 from rfl] at hK0
  obtain ⟨_, _, rfl, ⟨A0_0, c0_0, rfl, hc0_0, hr0_0⟩, ⟨A0_1, c0_1, rfl, hc0_1, hr0_1⟩⟩ := hK0
  have k1 := h1
  have lt1 : ∀ x ∈ p1, x.block < W.heap.size := by obtain ⟨m, hm⟩ := k1; exact DataW.trod_lt m _ _ _ hm
  obtain ⟨a1, rfl, rfl, rfl, w1⟩ := open_int Try.underlying3 (hval 1 3 v1 rfl rfl) h1
  have k2 := h2
  have lt2 : ∀ x ∈ p2, x.block < W.heap.size := by obtain ⟨m, hm⟩ := k2; exact DataW.trod_lt m _ _ _ hm
  obtain ⟨a2, rfl, rfl, rfl, w2⟩ := open_int Try.underlying3 (hval 2 3 v2 rfl rfl) h2
  have k3 := h3
  have lt3 : ∀ x ∈ p3, x.block < W.heap.size := by obtain ⟨m, hm⟩ := k3; exact DataW.trod_lt m _ _ _ hm
  obtain ⟨A3, c3, l3, rfl, hc3, hr3, w3⟩ := param_slice Try.underlying22 (opens_slice Try.underlying22 (by kernel_rfl) (opens_string Try.underlying9)) (hval 3 22 v3 rfl rfl) h3
  have k4 := h4
  have lt4 : ∀ x ∈ p4, x.block < W.heap.size := by obtain ⟨m, hm⟩ := k4; exact DataW.trod_lt m _ _ _ hm
  obtain ⟨a4, rfl, rfl, rfl, w4⟩ := open_int Try.underlying3 (hval 4 3 v4 rfl rfl) h4
  clear hA0 hval0 hsz0
  obtain ⟨k, hk⟩ := Pure.WalDoes x0.1 x0.2 a1 a2 l3 a4 w0 w1 w2 w3 w4
  refine (sextonlaw07_WalDoes.calls (k := k) (A0_0 := A0_0) (c0_0 := c0_0) (l0_0 := x0.1) (hr0_0 := hr0_0) (hc0_0 := hc0_0) (A0_1 := A0_1) (c0_1 := c0_1) (l0_1 := x0.2) (hr0_1 := hr0_1) (hc0_1 := hc0_1) (a1 := a1) (a2 := a2) (A3 := A3) (c3 := c3) (l3 := l3) (hr3 := hr3) (hc3 := hc3) (a4 := a4) (r := true) (w := W) (h := hk)).mono ?_
  rintro e W' ⟨rfl, bel⟩
  exact ⟨_, rfl, _, _, _, [], _, [], hW', trodAll_mk1 (shut_bool Try.underlying4 _), (trodAll_cons_mk (Below.trod laidOut (by kernel_rfl) (of_decide_eq_true (by kernel_rfl)) k0 bel lt0) (trodAll_cons_mk (Below.trod laidOut (by kernel_rfl) (of_decide_eq_true (by kernel_rfl)) k1 bel lt1) (trodAll_cons_mk (Below.trod laidOut (by kernel_rfl) (of_decide_eq_true (by kernel_rfl)) k2 bel lt2) (trodAll_cons_mk (Below.trod laidOut (by kernel_rfl) (of_decide_eq_true (by kernel_rfl)) k3 bel lt3) (trodAll_cons_mk (Below.trod laidOut (by kernel_rfl) (of_decide_eq_true (by kernel_rfl)) k4 bel lt4) trodAll_mk0))))), rfl, bel.frame _, fun h => by cases h⟩
theorem over : Rows.walDoesRow.holds Try.pinned (OpenSpec.ofChange Rows.walDoesSpec) :=
  OpenClaim.holds_of_wide 8 Try.f8 rfl rfl rfl rfl rfl rfl rfl ⟨rfl, rfl, rfl, rfl, rfl⟩ rfl rfl rfl rfl rfl (by kernel_rfl) Try.func8 (by kernel_rfl)
    (of_decide_eq_true (by kernel_rfl)) (by unfold Func.isWrapper; first | (rw [if_pos (by decide +kernel)]; kernel_rfl) | (rw [if_neg (by decide +kernel)]; exact ⟨rfl, rfl⟩))
    (fun os started H enc _ => lifted os started H enc)
theorem proved : Rows.WalDoesSaid := over
#print axioms proved
end Go.Proofs.Ytoibofhmlokglaa.walDoes
namespace Go.Proofs.Ytoibofhmlokglaa
/-- The row, under a short name, for the claim. -/
theorem walDoes_holds : Rows.WalDoesSaid := walDoes.proved
end Go.Proofs.Ytoibofhmlokglaa
