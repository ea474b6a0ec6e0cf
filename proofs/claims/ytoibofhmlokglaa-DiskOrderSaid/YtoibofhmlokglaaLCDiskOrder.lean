/- The statement DiskOrder: for every input the call answers true, and each argument reads as it did. No condition. -/
import Derived.Test.YtoibofhmlokglaaRows
import Derived.Test.YtoibofhmlokglaaCDiskOrderz
import Derived.Test.YtoibofhmlokglaaCo4c
namespace Go.Proofs.Ytoibofhmlokglaa.diskOrder
open Go.ChangeShapes Go.WideShapes Go.ChangeAt Go.RowKit Go.Proofs.YtoibofhmlokglaaW.PrintWords Go.Proofs.Ytoibofhmlokglaa.Opens Go.Proofs.Ytoibofhmlokglaa.P
open Go.ChangeMaps (open_string shut_string)
set_option linter.unusedVariables false
theorem own : ownKnob Try.prog.godebug = none := by kernel_rfl
theorem laidOut : laidOutB Try.prog = true := by kernel_rfl
set_option maxRecDepth 100000 in
theorem lifted (os : Os) (started : os.Started) (H : Type) (enc : TypeId × Value → H) :
    ReturnsInHanded {} Try.checked os 7 .any (Rows.diskOrderSpec.pre6 enc Try.prog Try.f7 Rows.diskOrderRow.domain false) (Rows.diskOrderSpec.post enc Try.prog Try.f7 false true false false) := by
  refine returnsInHanded_of_change_sized (C := Try.checked) own started (by kernel_rfl) Try.func7
    (ChangeSpec.witness6 (enc := enc) (C := Try.checked) false ⟨#[], #[.agg #[.slice none 0 0, .slice none 0 0], .slice none 0 0], []⟩ 8 (by kernel_rfl) (by kernel_rfl) (by kernel_rfl) (by kernel_rfl)) ?_
  intro W base args ds gs before hval0 hW hcnd hsz0 _
  have hval : ∀ (j : Nat) t v, Try.f7.params[j]? = some t → args[j]? = some v → Value.okWide Try.prog W .any base t v := hval0
  have hW' := hW
  obtain ⟨p, q, hA0, hV, rfl, hfz, hnd⟩ := hW
  have hA : DataW.TrodAll enc Try.prog W 0 (fun _ => true) true Try.f7.params.toList args.toList ds p := hA0
  rw [Try.params7] at hA hval
  obtain ⟨v0, vs0, d0, ds0, p0, q0, hargs, rfl, rfl, h0, r0⟩ := trodAll_cons hA
  obtain ⟨v1, vs1, d1, ds1, p1, q1, rfl, rfl, rfl, h1, r1⟩ := trodAll_cons r0
  obtain ⟨rfl, rfl, rfl⟩ := trodAll_nil r1
  obtain rfl : args = #[v0, v1] := by cases args; simp_all
  obtain ⟨rfl, rfl⟩ := trodVars_none hV
  have k0 := h0
  have lt0 : ∀ x ∈ p0, x.block < W.heap.size := by obtain ⟨m, hm⟩ := k0; exact DataW.trod_lt m _ _ _ hm
  have hop0 : Opens Try.prog (Kd.pair (Kd.slice 9 Kd.string) (Kd.slice 40 k40)) (OkPair (OkList OkStr) (OkList (fun b : S40 => (OkPair (OkInt .i64) OkStr) (b.f0, b.f1)))) 25 := (opens_struct_id Try.underlying25 (by kernel_rfl) (opensF_pair (off := 0) (len := 1) (len' := 1) (opens_slice Try.underlying22 (by kernel_rfl) (opens_string Try.underlying9)) rfl rfl (by kernel_rfl) (opensF_one (off := 1) (len := 1) (opens_slice Try.underlying23 (by kernel_rfl) (show Opens Try.prog k40 (fun b : S40 => (OkPair (OkInt .i64) OkStr) (b.f0, b.f1)) 40 from opens_struct Try.underlying40 (by kernel_rfl) (opensF_pair (off := 0) (len := 1) (len' := 1) (opens_int Try.underlying3) rfl rfl (by kernel_rfl) (opensF_one (off := 1) (len := 1) (opens_string Try.underlying9) rfl rfl (by kernel_rfl))) (fun x : S40 => (x.f0, x.f1)) (fun p => ⟨p.1, p.2⟩) (fun _ => rfl))) rfl rfl (by kernel_rfl))))
  obtain ⟨cs0, x0, rfl, hK0, w0⟩ := param_struct (kd := (Kd.pair (Kd.slice 9 Kd.string) (Kd.slice 40 k40))) Try.underlying25 hop0 (hval 0 25 v0 rfl rfl) h0
  obtain ⟨l_0, hl_0⟩ : ∃ l_, cs0.toList = l_ := ⟨_, rfl⟩
  obtain rfl := agg_eq hl_0
  clear hl_0
  rw [show l_0.toArray.toList = l_0 from rfl] at hK0
  obtain ⟨_, _, rfl, ⟨A0_0, c0_0, rfl, hc0_0, hr0_0⟩, ⟨A0_1, c0_1, rfl, hc0_1, hr0_1⟩⟩ := hK0
  have k1 := h1
  have lt1 : ∀ x ∈ p1, x.block < W.heap.size := by obtain ⟨m, hm⟩ := k1; exact DataW.trod_lt m _ _ _ hm
  obtain ⟨A1, c1, l1, rfl, hc1, hr1, w1⟩ := param_slice Try.underlying23 (opens_slice Try.underlying23 (by kernel_rfl) (show Opens Try.prog k40 (fun b : S40 => (OkPair (OkInt .i64) OkStr) (b.f0, b.f1)) 40 from opens_struct Try.underlying40 (by kernel_rfl) (opensF_pair (off := 0) (len := 1) (len' := 1) (opens_int Try.underlying3) rfl rfl (by kernel_rfl) (opensF_one (off := 1) (len := 1) (opens_string Try.underlying9) rfl rfl (by kernel_rfl))) (fun x : S40 => (x.f0, x.f1)) (fun p => ⟨p.1, p.2⟩) (fun _ => rfl))) (hval 1 23 v1 rfl rfl) h1
  clear hA0 hval0 hsz0
  obtain ⟨k, hk⟩ := Pure.DiskOrder x0.1 x0.2 l1 w0 w1
  refine (sextonlaw04_DiskOrder.calls (k := k) (A0_0 := A0_0) (c0_0 := c0_0) (l0_0 := x0.1) (hr0_0 := hr0_0) (hc0_0 := hc0_0) (A0_1 := A0_1) (c0_1 := c0_1) (l0_1 := x0.2) (hr0_1 := hr0_1) (hc0_1 := hc0_1) (A1 := A1) (c1 := c1) (l1 := l1) (hr1 := hr1) (hc1 := hc1) (r := true) (w := W) (h := hk)).mono ?_
  rintro e W' ⟨rfl, bel⟩
  exact ⟨_, rfl, _, _, _, [], _, [], hW', trodAll_mk1 (shut_bool Try.underlying4 _), (trodAll_cons_mk (Below.trod laidOut (by kernel_rfl) (of_decide_eq_true (by kernel_rfl)) k0 bel lt0) (trodAll_cons_mk (Below.trod laidOut (by kernel_rfl) (of_decide_eq_true (by kernel_rfl)) k1 bel lt1) trodAll_mk0)), rfl, bel.frame _, fun h => by cases h⟩
theorem over : Rows.diskOrderRow.holds Try.pinned (OpenSpec.ofChange Rows.diskOrderSpec) :=
  OpenClaim.holds_of_wide 7 Try.f7 rfl rfl rfl rfl rfl rfl rfl ⟨rfl, rfl, rfl, rfl, rfl⟩ rfl rfl rfl rfl rfl (by kernel_rfl) Try.func7 (by kernel_rfl)
    (of_decide_eq_true (by kernel_rfl)) (by unfold Func.isWrapper; first | (rw [if_pos (by decide +kernel)]; kernel_rfl) | (rw [if_neg (by decide +kernel)]; exact ⟨rfl, rfl⟩))
    (fun os started H enc _ => lifted os started H enc)
theorem proved : Rows.DiskOrderSaid := over
#print axioms proved
end Go.Proofs.Ytoibofhmlokglaa.diskOrder
namespace Go.Proofs.Ytoibofhmlokglaa
/-- The row, under a short name, for the claim. -/
theorem diskOrder_holds : Rows.DiskOrderSaid := diskOrder.proved
end Go.Proofs.Ytoibofhmlokglaa
