/- The statement MsgMakes: for every input the call answers true, and each argument reads as it did. No condition. -/
import Derived.Test.YtfejidinfcmfjaaRows
import Derived.Test.YtfejidinfcmfjaaCMsgMakesd
namespace Go.Proofs.Ytfejidinfcmfjaa.msgMakes
open Go.ChangeShapes Go.WideShapes Go.ChangeAt Go.RowKit Go.Proofs.YtfejidinfcmfjaaW.PrintWords Go.Proofs.Ytfejidinfcmfjaa.Opens Go.Proofs.Ytfejidinfcmfjaa.P
open Go.ChangeMaps (open_string shut_string)
set_option linter.unusedVariables false
theorem own : ownKnob Try.prog.godebug = none := by kernel_rfl
theorem laidOut : laidOutB Try.prog = true := by kernel_rfl
set_option maxRecDepth 100000 in
theorem lifted (os : Os) (started : os.Started) (H : Type) (enc : TypeId × Value → H) :
    ReturnsInHanded {} Try.checked os 9 .any (Rows.msgMakesSpec.pre6 enc Try.prog Try.f9 Rows.msgMakesRow.domain false) (Rows.msgMakesSpec.post enc Try.prog Try.f9 false true false false) := by
  refine returnsInHanded_of_change_sized (C := Try.checked) own started (by kernel_rfl) Try.func9
    (ChangeSpec.witness6 (enc := enc) (C := Try.checked) false ⟨#[], #[.int .i64 0, .int .i64 0, .int .i64 0, .int .i64 0, .agg #[.int .i64 0, .int .i64 0, .int .i64 0, .slice none 0 0], .agg #[.int .i64 0, .int .i64 0, .int .i64 0, .int .i64 0, .int .i64 0, .int .i64 0, .int .i64 0, .slice none 0 0]], []⟩ 8 (by kernel_rfl) (by kernel_rfl) (by kernel_rfl) (by kernel_rfl)) ?_
  intro W base args ds gs before hval0 hW hcnd hsz0 _
  have hval : ∀ (j : Nat) t v, Try.f9.params[j]? = some t → args[j]? = some v → Value.okWide Try.prog W .any base t v := hval0
  have hW' := hW
  obtain ⟨p, q, hA0, hV, rfl, hfz, hnd⟩ := hW
  have hA : DataW.TrodAll enc Try.prog W 0 (fun _ => true) true Try.f9.params.toList args.toList ds p := hA0
  rw [Try.params9] at hA hval
  obtain ⟨v0, vs0, d0, ds0, p0, q0, hargs, rfl, rfl, h0, r0⟩ := trodAll_cons hA
  obtain ⟨v1, vs1, d1, ds1, p1, q1, rfl, rfl, rfl, h1, r1⟩ := trodAll_cons r0
  obtain ⟨v2, vs2, d2, ds2, p2, q2, rfl, rfl, rfl, h2, r2⟩ := trodAll_cons r1
  obtain ⟨v3, vs3, d3, ds3, p3, q3, rfl, rfl, rfl, h3, r3⟩ := trodAll_cons r2
  obtain ⟨v4, vs4, d4, ds4, p4, q4, rfl, rfl, rfl, h4, r4⟩ := trodAll_cons r3
  obtain ⟨v5, vs5, d5, ds5, p5, q5, rfl, rfl, rfl, h5, r5⟩ := trodAll_cons r4
  obtain ⟨rfl, rfl, rfl⟩ := trodAll_nil r5
  obtain rfl : args = #[v0, v1, v2, v3, v4, v5] := by cases args; simp_all
  obtain ⟨rfl, rfl⟩ := trodVars_none hV
  have k0 := h0
  have lt0 : ∀ x ∈ p0, x.block < W.heap.size := by obtain ⟨m, hm⟩ := k0; exact DataW.trod_lt m _ _ _ hm
  obtain ⟨a0, rfl, rfl, rfl, w0⟩ := open_int Try.underlying3 (hval 0 3 v0 rfl rfl) h0
  have k1 := h1
  have lt1 : ∀ x ∈ p1, x.block < W.heap.size := by obtain ⟨m, hm⟩ := k1; exact DataW.trod_lt m _ _ _ hm
  obtain ⟨a1, rfl, rfl, rfl, w1⟩ := open_int Try.underlying3 (hval 1 3 v1 rfl rfl) h1
  have k2 := h2
  have lt2 : ∀ x ∈ p2, x.block < W.heap.size := by obtain ⟨m, hm⟩ := k2; exact DataW.trod_lt m _ _ _ hm
  obtain ⟨a2, rfl, rfl, rfl, w2⟩ := open_int Try.underlying3 (hval 2 3 v2 rfl rfl) h2
  have k3 := h3
  have lt3 : ∀ x ∈ p3, x.block < W.heap.size := by obtain ⟨m, hm⟩ := k3; exact DataW.trod_lt m _ _ _ hm
  obtain ⟨a3, rfl, rfl, rfl, w3⟩ := open_int Try.underlying3 (hval 3 3 v3 rfl rfl) h3
  have k4 := h4
  have lt4 : ∀ x ∈ p4, x.block < W.heap.size := by obtain ⟨m, hm⟩ := k4; exact DataW.trod_lt m _ _ _ hm
  have hop4 : Opens Try.prog (Kd.pair (Kd.int .i64) (Kd.pair (Kd.int .i64) (Kd.pair (Kd.int .i64) (Kd.slice 9 Kd.string)))) (OkPair (OkInt .i64) (OkPair (OkInt .i64) (OkPair (OkInt .i64) (OkList OkStr)))) 54 := (opens_struct_id Try.underlying54 (by kernel_rfl) (opensF_pair (off := 0) (len := 1) (len' := 3) (opens_int Try.underlying3) rfl rfl (by kernel_rfl) (opensF_pair (off := 1) (len := 1) (len' := 2) (opens_int Try.underlying3) rfl rfl (by kernel_rfl) (opensF_pair (off := 2) (len := 1) (len' := 1) (opens_int Try.underlying3) rfl rfl (by kernel_rfl) (opensF_one (off := 3) (len := 1) (opens_slice Try.underlying27 (by kernel_rfl) (opens_string Try.underlying9)) rfl rfl (by kernel_rfl))))))
  obtain ⟨cs4, x4, rfl, hK4, w4⟩ := param_struct (kd := (Kd.pair (Kd.int .i64) (Kd.pair (Kd.int .i64) (Kd.pair (Kd.int .i64) (Kd.slice 9 Kd.string))))) Try.underlying54 hop4 (hval 4 54 v4 rfl rfl) h4
  obtain ⟨l_4, hl_4⟩ : ∃ l_, cs4.toList = l_ := ⟨_, rfl⟩
  obtain rfl := agg_eq hl_4
  clear hl_4
  rw [show l_4.toArray.toList = l_4 from rfl] at hK4
  obtain ⟨_, _, rfl, rfl, ⟨_, _, rfl, rfl, ⟨_, _, rfl, rfl, ⟨A4_3, c4_3, rfl, hc4_3, hr4_3⟩⟩⟩⟩ := hK4
  have k5 := h5
  have lt5 : ∀ x ∈ p5, x.block < W.heap.size := by obtain ⟨m, hm⟩ := k5; exact DataW.trod_lt m _ _ _ hm
  have hop5 : Opens Try.prog (Kd.pair (Kd.int .i64) (Kd.pair (Kd.int .i64) (Kd.pair (Kd.int .i64) (Kd.pair (Kd.int .i64) (Kd.pair (Kd.int .i64) (Kd.pair (Kd.int .i64) (Kd.pair (Kd.int .i64) (Kd.slice 9 Kd.string)))))))) (OkPair (OkInt .i64) (OkPair (OkInt .i64) (OkPair (OkInt .i64) (OkPair (OkInt .i64) (OkPair (OkInt .i64) (OkPair (OkInt .i64) (OkPair (OkInt .i64) (OkList OkStr)))))))) 29 := (opens_struct_id Try.underlying29 (by kernel_rfl) (opensF_pair (off := 0) (len := 1) (len' := 7) (opens_int Try.underlying3) rfl rfl (by kernel_rfl) (opensF_pair (off := 1) (len := 1) (len' := 6) (opens_int Try.underlying3) rfl rfl (by kernel_rfl) (opensF_pair (off := 2) (len := 1) (len' := 5) (opens_int Try.underlying3) rfl rfl (by kernel_rfl) (opensF_pair (off := 3) (len := 1) (len' := 4) (opens_int Try.underlying3) rfl rfl (by kernel_rfl) (opensF_pair (off := 4) (len := 1) (len' := 3) (opens_int Try.underlying3) rfl rfl (by kernel_rfl) (opensF_pair (off := 5) (len := 1) (len' := 2) (opens_int Try.underlying3) rfl rfl (by kernel_rfl) (opensF_pair (off := 6) (len := 1) (len' := 1) (opens_int Try.underlying3) rfl rfl (by kernel_rfl) (opensF_one (off := 7) (len := 1) (opens_slice Try.underlying27 (by kernel_rfl) (opens_string Try.underlying9)) rfl rfl (by kernel_rfl))))))))))
  obtain ⟨cs5, x5, rfl, hK5, w5⟩ := param_struct (kd := (Kd.pair (Kd.int .i64) (Kd.pair (Kd.int .i64) (Kd.pair (Kd.int .i64) (Kd.pair (Kd.int .i64) (Kd.pair (Kd.int .i64) (Kd.pair (Kd.int .i64) (Kd.pair (Kd.int .i64) (Kd.slice 9 Kd.string))))))))) Try.underlying29 hop5 (hval 5 29 v5 rfl rfl) h5
  obtain ⟨l_5, hl_5⟩ : ∃ l_, cs5.toList = l_ := ⟨_, rfl⟩
  obtain rfl := agg_eq hl_5
  clear hl_5
  rw [show l_5.toArray.toList = l_5 from rfl] at hK5
  obtain ⟨_, _, rfl, rfl, ⟨_, _, rfl, rfl, ⟨_, _, rfl, rfl, ⟨_, _, rfl, rfl, ⟨_, _, rfl, rfl, ⟨_, _, rfl, rfl, ⟨_, _, rfl, rfl, ⟨A5_7, c5_7, rfl, hc5_7, hr5_7⟩⟩⟩⟩⟩⟩⟩⟩ := hK5
  clear hA0 hval0 hsz0
  have hk := Pure.MsgMakes a0 a1 a2 a3 x4.1 x4.2.1 x4.2.2.1 x4.2.2.2 x5.1 x5.2.1 x5.2.2.1 x5.2.2.2.1 x5.2.2.2.2.1 x5.2.2.2.2.2.1 x5.2.2.2.2.2.2.1 x5.2.2.2.2.2.2.2 w0 w1 w2 w3 w4 w5
  refine (sextonlaw23_MsgMakes.calls (a0 := a0) (a1 := a1) (a2 := a2) (a3 := a3) (a4_0 := x4.1) (a4_1 := x4.2.1) (a4_2 := x4.2.2.1) (A4_3 := A4_3) (c4_3 := c4_3) (l4_3 := x4.2.2.2) (hr4_3 := hr4_3) (hc4_3 := hc4_3) (a5_0 := x5.1) (a5_1 := x5.2.1) (a5_2 := x5.2.2.1) (a5_3 := x5.2.2.2.1) (a5_4 := x5.2.2.2.2.1) (a5_5 := x5.2.2.2.2.2.1) (a5_6 := x5.2.2.2.2.2.2.1) (A5_7 := A5_7) (c5_7 := c5_7) (l5_7 := x5.2.2.2.2.2.2.2) (hr5_7 := hr5_7) (hc5_7 := hc5_7) (r := true) (w := W) (h := hk)).mono ?_
  rintro e W' ⟨rfl, bel⟩
  exact ⟨_, rfl, _, _, _, [], _, [], hW', trodAll_mk1 (shut_bool Try.underlying4 _), (trodAll_cons_mk (Below.trod laidOut (by kernel_rfl) (of_decide_eq_true (by kernel_rfl)) k0 bel lt0) (trodAll_cons_mk (Below.trod laidOut (by kernel_rfl) (of_decide_eq_true (by kernel_rfl)) k1 bel lt1) (trodAll_cons_mk (Below.trod laidOut (by kernel_rfl) (of_decide_eq_true (by kernel_rfl)) k2 bel lt2) (trodAll_cons_mk (Below.trod laidOut (by kernel_rfl) (of_decide_eq_true (by kernel_rfl)) k3 bel lt3) (trodAll_cons_mk (Below.trod laidOut (by kernel_rfl) (of_decide_eq_true (by kernel_rfl)) k4 bel lt4) (trodAll_cons_mk (Below.trod laidOut (by kernel_rfl) (of_decide_eq_true (by kernel_rfl)) k5 bel lt5) trodAll_mk0)))))), rfl, bel.frame _, fun h => by cases h⟩
theorem over : Rows.msgMakesRow.holds Try.pinned (OpenSpec.ofChange Rows.msgMakesSpec) :=
  OpenClaim.holds_of_wide 9 Try.f9 rfl rfl rfl rfl rfl rfl rfl ⟨rfl, rfl, rfl, rfl, rfl⟩ rfl rfl rfl rfl rfl (by kernel_rfl) Try.func9 (by kernel_rfl)
    (of_decide_eq_true (by kernel_rfl)) (by unfold Func.isWrapper; first | (rw [if_pos (by decide +kernel)]; kernel_rfl) | (rw [if_neg (by decide +kernel)]; exact ⟨rfl, rfl⟩))
    (fun os started H enc _ => lifted os started H enc)
theorem proved : Rows.MsgMakesSaid := over
#print axioms proved
end Go.Proofs.Ytfejidinfcmfjaa.msgMakes
namespace Go.Proofs.Ytfejidinfcmfjaa
/-- The row, under a short name, for the claim. -/
theorem msgMakes_holds : Rows.MsgMakesSaid := msgMakes.proved
end Go.Proofs.Ytfejidinfcmfjaa
