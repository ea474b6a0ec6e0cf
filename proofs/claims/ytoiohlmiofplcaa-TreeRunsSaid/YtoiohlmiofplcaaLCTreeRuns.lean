/- The statement TreeRuns: for every input the call answers true, and each argument reads as it did. No condition. -/
import Derived.Test.YtoiohlmiofplcaaRows
import Derived.Test.YtoiohlmiofplcaaCTreeRunsz
import Derived.Test.YtoiohlmiofplcaaCn6cd
namespace Go.Proofs.Ytoiohlmiofplcaa.treeRuns
open Go.ChangeShapes Go.WideShapes Go.ChangeAt Go.RowKit Go.Proofs.YtoiohlmiofplcaaW.PrintWords Go.Proofs.Ytoiohlmiofplcaa.Opens Go.Proofs.Ytoiohlmiofplcaa.P
open Go.ChangeMaps (open_string shut_string)
set_option linter.unusedVariables false
theorem own : ownKnob Try.prog.godebug = none := by kernel_rfl
theorem laidOut : laidOutB Try.prog = true := by kernel_rfl
set_option maxRecDepth 100000 in
theorem lifted (os : Os) (started : os.Started) (H : Type) (enc : TypeId × Value → H) :
    ReturnsInHanded {} Try.checked os 8 .any (Rows.treeRunsSpec.pre6 enc Try.prog Try.f8 Rows.treeRunsRow.domain false) (Rows.treeRunsSpec.post enc Try.prog Try.f8 false true false false) := by
  refine returnsInHanded_of_change_sized (C := Try.checked) own started (by kernel_rfl) Try.func8
    (ChangeSpec.witness6 (enc := enc) (C := Try.checked) false ⟨#[], #[.slice none 0 0, .agg #[.string ByteArray.empty, .int .i64 0], .int .i64 0], []⟩ 8 (by kernel_rfl) (by kernel_rfl) (by kernel_rfl) (by kernel_rfl)) ?_
  intro W base args ds gs before hval0 hW hcnd hsz0 _
  have hval : ∀ (j : Nat) t v, Try.f8.params[j]? = some t → args[j]? = some v → Value.okWide Try.prog W .any base t v := hval0
  have hW' := hW
  obtain ⟨p, q, hA0, hV, rfl, hfz, hnd⟩ := hW
  have hA : DataW.TrodAll enc Try.prog W 0 (fun _ => true) true Try.f8.params.toList args.toList ds p := hA0
  rw [Try.params8] at hA hval
  obtain ⟨v0, vs0, d0, ds0, p0, q0, hargs, rfl, rfl, h0, r0⟩ := trodAll_cons hA
  obtain ⟨v1, vs1, d1, ds1, p1, q1, rfl, rfl, rfl, h1, r1⟩ := trodAll_cons r0
  obtain ⟨v2, vs2, d2, ds2, p2, q2, rfl, rfl, rfl, h2, r2⟩ := trodAll_cons r1
  obtain ⟨rfl, rfl, rfl⟩ := trodAll_nil r2
  obtain rfl : args = #[v0, v1, v2] := by cases args; simp_all
  obtain ⟨rfl, rfl⟩ := trodVars_none hV
  have k0 := h0
  have lt0 : ∀ x ∈ p0, x.block < W.heap.size := by obtain ⟨m, hm⟩ := k0; exact DataW.trod_lt m _ _ _ hm
  obtain ⟨A0, c0, l0, rfl, hc0, hr0, w0⟩ := param_slice Try.underlying45 (opens_slice Try.underlying45 (by kernel_rfl) (show Opens Try.prog k51 (fun b : S51 => (OkPair (OkInt .i64) (fun b : S26 => (OkPair (fun b : S24 => (OkPair OkStr (OkInt .i64)) (b.f0, b.f1)) OkStr) (b.f0, b.f1))) (b.f0, b.f1)) 51 from opens_struct Try.underlying51 (by kernel_rfl) (opensF_pair (off := 0) (len := 1) (len' := 3) (opens_int Try.underlying3) rfl rfl (by kernel_rfl) (opensF_one (off := 1) (len := 3) (show Opens Try.prog k26 (fun b : S26 => (OkPair (fun b : S24 => (OkPair OkStr (OkInt .i64)) (b.f0, b.f1)) OkStr) (b.f0, b.f1)) 26 from opens_struct Try.underlying26 (by kernel_rfl) (opensF_pair (off := 0) (len := 2) (len' := 1) (show Opens Try.prog k24 (fun b : S24 => (OkPair OkStr (OkInt .i64)) (b.f0, b.f1)) 24 from opens_struct Try.underlying24 (by kernel_rfl) (opensF_pair (off := 0) (len := 1) (len' := 1) (opens_string Try.underlying9) rfl rfl (by kernel_rfl) (opensF_one (off := 1) (len := 1) (opens_int Try.underlying3) rfl rfl (by kernel_rfl))) (fun x : S24 => (x.f0, x.f1)) (fun p => ⟨p.1, p.2⟩) (fun _ => rfl)) rfl rfl (by kernel_rfl) (opensF_one (off := 2) (len := 1) (opens_string Try.underlying9) rfl rfl (by kernel_rfl))) (fun x : S26 => (x.f0, x.f1)) (fun p => ⟨p.1, p.2⟩) (fun _ => rfl)) rfl rfl (by kernel_rfl))) (fun x : S51 => (x.f0, x.f1)) (fun p => ⟨p.1, p.2⟩) (fun _ => rfl))) (hval 0 45 v0 rfl rfl) h0
  have k1 := h1
  have lt1 : ∀ x ∈ p1, x.block < W.heap.size := by obtain ⟨m, hm⟩ := k1; exact DataW.trod_lt m _ _ _ hm
  have hop1 : Opens Try.prog (Kd.pair Kd.string (Kd.int .i64)) (OkPair OkStr (OkInt .i64)) 24 := (opens_struct_id Try.underlying24 (by kernel_rfl) (opensF_pair (off := 0) (len := 1) (len' := 1) (opens_string Try.underlying9) rfl rfl (by kernel_rfl) (opensF_one (off := 1) (len := 1) (opens_int Try.underlying3) rfl rfl (by kernel_rfl))))
  obtain ⟨cs1, x1, rfl, hK1, w1⟩ := param_struct (kd := (Kd.pair Kd.string (Kd.int .i64))) Try.underlying24 hop1 (hval 1 24 v1 rfl rfl) h1
  obtain ⟨l_1, hl_1⟩ : ∃ l_, cs1.toList = l_ := ⟨_, rfl⟩
  obtain rfl := agg_eq hl_1
  clear hl_1
  rw [show l_1.toArray.toList = l_1 from rfl] at hK1
  obtain ⟨_, _, rfl, rfl, rfl⟩ := hK1
  have k2 := h2
  have lt2 : ∀ x ∈ p2, x.block < W.heap.size := by obtain ⟨m, hm⟩ := k2; exact DataW.trod_lt m _ _ _ hm
  obtain ⟨a2, rfl, rfl, rfl, w2⟩ := open_int Try.underlying3 (hval 2 3 v2 rfl rfl) h2
  clear hA0 hval0 hsz0
  have hk := Pure.TreeRuns l0 x1.1 x1.2 a2 w0 w1 w2
  refine (sextonlaw10_TreeRuns.calls (A0 := A0) (c0 := c0) (l0 := l0) (hr0 := hr0) (hc0 := hc0) (a1_0 := x1.1) (a1_1 := x1.2) (a2 := a2) (r := true) (w := W) (h := hk)).mono ?_
  rintro e W' ⟨rfl, bel⟩
  exact ⟨_, rfl, _, _, _, [], _, [], hW', trodAll_mk1 (shut_bool Try.underlying4 _), (trodAll_cons_mk (Below.trod laidOut (by kernel_rfl) (of_decide_eq_true (by kernel_rfl)) k0 bel lt0) (trodAll_cons_mk (Below.trod laidOut (by kernel_rfl) (of_decide_eq_true (by kernel_rfl)) k1 bel lt1) (trodAll_cons_mk (Below.trod laidOut (by kernel_rfl) (of_decide_eq_true (by kernel_rfl)) k2 bel lt2) trodAll_mk0))), rfl, bel.frame _, fun h => by cases h⟩
theorem over : Rows.treeRunsRow.holds Try.pinned (OpenSpec.ofChange Rows.treeRunsSpec) :=
  OpenClaim.holds_of_wide 8 Try.f8 rfl rfl rfl rfl rfl rfl rfl ⟨rfl, rfl, rfl, rfl, rfl⟩ rfl rfl rfl rfl rfl (by kernel_rfl) Try.func8 (by kernel_rfl)
    (of_decide_eq_true (by kernel_rfl)) (by unfold Func.isWrapper; first | (rw [if_pos (by decide +kernel)]; kernel_rfl) | (rw [if_neg (by decide +kernel)]; exact ⟨rfl, rfl⟩))
    (fun os started H enc _ => lifted os started H enc)
theorem proved : Rows.TreeRunsSaid := over
#print axioms proved
end Go.Proofs.Ytoiohlmiofplcaa.treeRuns
namespace Go.Proofs.Ytoiohlmiofplcaa
/-- The row, under a short name, for the claim. -/
theorem treeRuns_holds : Rows.TreeRunsSaid := treeRuns.proved
end Go.Proofs.Ytoiohlmiofplcaa
