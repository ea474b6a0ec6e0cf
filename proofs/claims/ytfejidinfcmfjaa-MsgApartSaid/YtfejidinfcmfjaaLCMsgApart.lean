/- The statement MsgApart: for every input the call answers true, and each argument reads as it did. No condition. -/
import Derived.Test.YtfejidinfcmfjaaRows
import Derived.Test.YtfejidinfcmfjaaCMsgApartc
import Derived.Test.YtfejidinfcmfjaaCMsgApartd
namespace Go.Proofs.Ytfejidinfcmfjaa.msgApart
open Go.ChangeShapes Go.WideShapes Go.ChangeAt Go.RowKit Go.Proofs.YtfejidinfcmfjaaW.PrintWords Go.Proofs.Ytfejidinfcmfjaa.Opens Go.Proofs.Ytfejidinfcmfjaa.P
open Go.ChangeMaps (open_string shut_string)
set_option linter.unusedVariables false
theorem own : ownKnob Try.prog.godebug = none := by kernel_rfl
theorem laidOut : laidOutB Try.prog = true := by kernel_rfl
set_option maxRecDepth 100000 in
theorem lifted (os : Os) (started : os.Started) (H : Type) (enc : TypeId × Value → H) :
    ReturnsInHanded {} Try.checked os 12 .any (Rows.msgApartSpec.pre6 enc Try.prog Try.f12 Rows.msgApartRow.domain false) (Rows.msgApartSpec.post enc Try.prog Try.f12 false true false false) := by
  refine returnsInHanded_of_change_sized (C := Try.checked) own started (by kernel_rfl) Try.func12
    (ChangeSpec.witness6 (enc := enc) (C := Try.checked) false ⟨#[], #[.agg #[.int .i64 0, .int .i64 0, .int .i64 0, .int .i64 0, .int .i64 0, .int .i64 0, .int .i64 0, .slice none 0 0], .agg #[.int .i64 0, .int .i64 0, .int .i64 0, .int .i64 0, .int .i64 0, .int .i64 0, .int .i64 0, .slice none 0 0]], []⟩ 8 (by kernel_rfl) (by kernel_rfl) (by kernel_rfl) (by kernel_rfl)) ?_
  intro W base args ds gs before hval0 hW hcnd hsz0 _
  have hval : ∀ (j : Nat) t v, Try.f12.params[j]? = some t → args[j]? = some v → Value.okWide Try.prog W .any base t v := hval0
  have hW' := hW
  obtain ⟨p, q, hA0, hV, rfl, hfz, hnd⟩ := hW
  have hA : DataW.TrodAll enc Try.prog W 0 (fun _ => true) true Try.f12.params.toList args.toList ds p := hA0
  rw [Try.params12] at hA hval
  obtain ⟨v0, vs0, d0, ds0, p0, q0, hargs, rfl, rfl, h0, r0⟩ := trodAll_cons hA
  obtain ⟨v1, vs1, d1, ds1, p1, q1, rfl, rfl, rfl, h1, r1⟩ := trodAll_cons r0
  obtain ⟨rfl, rfl, rfl⟩ := trodAll_nil r1
  obtain rfl : args = #[v0, v1] := by cases args; simp_all
  obtain ⟨rfl, rfl⟩ := trodVars_none hV
  have k0 := h0
  have lt0 : ∀ x ∈ p0, x.block < W.heap.size := by obtain ⟨m, hm⟩ := k0; exact DataW.trod_lt m _ _ _ hm
  have hop0 : Opens Try.prog (Kd.pair (Kd.int .i64) (Kd.pair (Kd.int .i64) (Kd.pair (Kd.int .i64) (Kd.pair (Kd.int .i64) (Kd.pair (Kd.int .i64) (Kd.pair (Kd.int .i64) (Kd.pair (Kd.int .i64) (Kd.slice 9 Kd.string)))))))) (OkPair (OkInt .i64) (OkPair (OkInt .i64) (OkPair (OkInt .i64) (OkPair (OkInt .i64) (OkPair (OkInt .i64) (OkPair (OkInt .i64) (OkPair (OkInt .i64) (OkList OkStr)))))))) 29 := (opens_struct_id Try.underlying29 (by kernel_rfl) (opensF_pair (off := 0) (len := 1) (len' := 7) (opens_int Try.underlying3) rfl rfl (by kernel_rfl) (opensF_pair (off := 1) (len := 1) (len' := 6) (opens_int Try.underlying3) rfl rfl (by kernel_rfl) (opensF_pair (off := 2) (len := 1) (len' := 5) (opens_int Try.underlying3) rfl rfl (by kernel_rfl) (opensF_pair (off := 3) (len := 1) (len' := 4) (opens_int Try.underlying3) rfl rfl (by kernel_rfl) (opensF_pair (off := 4) (len := 1) (len' := 3) (opens_int Try.underlying3) rfl rfl (by kernel_rfl) (opensF_pair (off := 5) (len := 1) (len' := 2) (opens_int Try.underlying3) rfl rfl (by kernel_rfl) (opensF_pair (off := 6) (len := 1) (len' := 1) (opens_int Try.underlying3) rfl rfl (by kernel_rfl) (opensF_one (off := 7) (len := 1) (opens_slice Try.underlying27 (by kernel_rfl) (opens_string Try.underlying9)) rfl rfl (by kernel_rfl))))))))))
  obtain ⟨cs0, x0, rfl, hK0, w0⟩ := param_struct (kd := (Kd.pair (Kd.int .i64) (Kd.pair (Kd.int .i64) (Kd.pair (Kd.int .i64) (Kd.pair (Kd.int .i64) (Kd.pair (Kd.int .i64) (Kd.pair (Kd.int .i64) (Kd.pair (Kd.int .i64) (Kd.slice 9 Kd.string))))))))) Try.underlying29 hop0 (hval 0 29 v0 rfl rfl) h0
  obtain ⟨l_0, hl_0⟩ : ∃ l_, cs0.toList = l_ := ⟨_, rfl⟩
  obtain rfl := agg_eq hl_0
  clear hl_0
  rw [show l_0.toArray.toList = l_0 from rfl] at hK0
  obtain ⟨_, _, rfl, rfl, ⟨_, _, rfl, rfl, ⟨_, _, rfl, rfl, ⟨_, _, rfl, rfl, ⟨_, _, rfl, rfl, ⟨_, _, rfl, rfl, ⟨_, _, rfl, rfl, ⟨A0_7, c0_7, rfl, hc0_7, hr0_7⟩⟩⟩⟩⟩⟩⟩⟩ := hK0
  have k1 := h1
  have lt1 : ∀ x ∈ p1, x.block < W.heap.size := by obtain ⟨m, hm⟩ := k1; exact DataW.trod_lt m _ _ _ hm
  have hop1 : Opens Try.prog (Kd.pair (Kd.int .i64) (Kd.pair (Kd.int .i64) (Kd.pair (Kd.int .i64) (Kd.pair (Kd.int .i64) (Kd.pair (Kd.int .i64) (Kd.pair (Kd.int .i64) (Kd.pair (Kd.int .i64) (Kd.slice 9 Kd.string)))))))) (OkPair (OkInt .i64) (OkPair (OkInt .i64) (OkPair (OkInt .i64) (OkPair (OkInt .i64) (OkPair (OkInt .i64) (OkPair (OkInt .i64) (OkPair (OkInt .i64) (OkList OkStr)))))))) 29 := (opens_struct_id Try.underlying29 (by kernel_rfl) (opensF_pair (off := 0) (len := 1) (len' := 7) (opens_int Try.underlying3) rfl rfl (by kernel_rfl) (opensF_pair (off := 1) (len := 1) (len' := 6) (opens_int Try.underlying3) rfl rfl (by kernel_rfl) (opensF_pair (off := 2) (len := 1) (len' := 5) (opens_int Try.underlying3) rfl rfl (by kernel_rfl) (opensF_pair (off := 3) (len := 1) (len' := 4) (opens_int Try.underlying3) rfl rfl (by kernel_rfl) (opensF_pair (off := 4) (len := 1) (len' := 3) (opens_int Try.underlying3) rfl rfl (by kernel_rfl) (opensF_pair (off := 5) (len := 1) (len' := 2) (opens_int Try.underlying3) rfl rfl (by kernel_rfl) (opensF_pair (off := 6) (len := 1) (len' := 1) (opens_int Try.underlying3) rfl rfl (by kernel_rfl) (opensF_one (off := 7) (len := 1) (opens_slice Try.underlying27 (by kernel_rfl) (opens_string Try.underlying9)) rfl rfl (by kernel_rfl))))))))))
  obtain ⟨cs1, x1, rfl, hK1, w1⟩ := param_struct (kd := (Kd.pair (Kd.int .i64) (Kd.pair (Kd.int .i64) (Kd.pair (Kd.int .i64) (Kd.pair (Kd.int .i64) (Kd.pair (Kd.int .i64) (Kd.pair (Kd.int .i64) (Kd.pair (Kd.int .i64) (Kd.slice 9 Kd.string))))))))) Try.underlying29 hop1 (hval 1 29 v1 rfl rfl) h1
  obtain ⟨l_1, hl_1⟩ : ∃ l_, cs1.toList = l_ := ⟨_, rfl⟩
  obtain rfl := agg_eq hl_1
  clear hl_1
  rw [show l_1.toArray.toList = l_1 from rfl] at hK1
  obtain ⟨_, _, rfl, rfl, ⟨_, _, rfl, rfl, ⟨_, _, rfl, rfl, ⟨_, _, rfl, rfl, ⟨_, _, rfl, rfl, ⟨_, _, rfl, rfl, ⟨_, _, rfl, rfl, ⟨A1_7, c1_7, rfl, hc1_7, hr1_7⟩⟩⟩⟩⟩⟩⟩⟩ := hK1
  clear hA0 hval0 hsz0
  obtain ⟨k, hk⟩ := Pure.MsgApart x0.1 x0.2.1 x0.2.2.1 x0.2.2.2.1 x0.2.2.2.2.1 x0.2.2.2.2.2.1 x0.2.2.2.2.2.2.1 x0.2.2.2.2.2.2.2 x1.1 x1.2.1 x1.2.2.1 x1.2.2.2.1 x1.2.2.2.2.1 x1.2.2.2.2.2.1 x1.2.2.2.2.2.2.1 x1.2.2.2.2.2.2.2 w0 w1
  refine (sextonlaw23_MsgApart.calls (k := k) (a0_0 := x0.1) (a0_1 := x0.2.1) (a0_2 := x0.2.2.1) (a0_3 := x0.2.2.2.1) (a0_4 := x0.2.2.2.2.1) (a0_5 := x0.2.2.2.2.2.1) (a0_6 := x0.2.2.2.2.2.2.1) (A0_7 := A0_7) (c0_7 := c0_7) (l0_7 := x0.2.2.2.2.2.2.2) (hr0_7 := hr0_7) (hc0_7 := hc0_7) (a1_0 := x1.1) (a1_1 := x1.2.1) (a1_2 := x1.2.2.1) (a1_3 := x1.2.2.2.1) (a1_4 := x1.2.2.2.2.1) (a1_5 := x1.2.2.2.2.2.1) (a1_6 := x1.2.2.2.2.2.2.1) (A1_7 := A1_7) (c1_7 := c1_7) (l1_7 := x1.2.2.2.2.2.2.2) (hr1_7 := hr1_7) (hc1_7 := hc1_7) (r := true) (w := W) (h := hk)).mono ?_
  rintro e W' ⟨rfl, bel⟩
  exact ⟨_, rfl, _, _, _, [], _, [], hW', trodAll_mk1 (shut_bool Try.underlying4 _), (trodAll_cons_mk (Below.trod laidOut (by kernel_rfl) (of_decide_eq_true (by kernel_rfl)) k0 bel lt0) (trodAll_cons_mk (Below.trod laidOut (by kernel_rfl) (of_decide_eq_true (by kernel_rfl)) k1 bel lt1) trodAll_mk0)), rfl, bel.frame _, fun h => by cases h⟩
theorem over : Rows.msgApartRow.holds Try.pinned (OpenSpec.ofChange Rows.msgApartSpec) :=
  OpenClaim.holds_of_wide 12 Try.f12 rfl rfl rfl rfl rfl rfl rfl ⟨rfl, rfl, rfl, rfl, rfl⟩ rfl rfl rfl rfl rfl (by kernel_rfl) Try.func12 (by kernel_rfl)
    (of_decide_eq_true (by kernel_rfl)) (by unfold Func.isWrapper; first | (rw [if_pos (by decide +kernel)]; kernel_rfl) | (rw [if_neg (by decide +kernel)]; exact ⟨rfl, rfl⟩))
    (fun os started H enc _ => lifted os started H enc)
theorem proved : Rows.MsgApartSaid := over
#print axioms proved
end Go.Proofs.Ytfejidinfcmfjaa.msgApart
namespace Go.Proofs.Ytfejidinfcmfjaa
/-- The row, under a short name, for the claim. -/
theorem msgApart_holds : Rows.MsgApartSaid := msgApart.proved
end Go.Proofs.Ytfejidinfcmfjaa
