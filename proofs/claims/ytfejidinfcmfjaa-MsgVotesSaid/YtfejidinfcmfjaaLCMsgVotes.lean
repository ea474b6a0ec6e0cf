/- The statement MsgVotes: for every input the call answers true, and each argument reads as it did. No condition. -/
import Derived.Test.YtfejidinfcmfjaaRows
import Derived.Test.YtfejidinfcmfjaaCMsgVotesc
import Derived.Test.YtfejidinfcmfjaaCMsgVotesd
namespace Go.Proofs.Ytfejidinfcmfjaa.msgVotes
open Go.ChangeShapes Go.WideShapes Go.ChangeAt Go.RowKit Go.Proofs.YtfejidinfcmfjaaW.PrintWords Go.Proofs.Ytfejidinfcmfjaa.Opens Go.Proofs.Ytfejidinfcmfjaa.P
open Go.ChangeMaps (open_string shut_string)
set_option linter.unusedVariables false
theorem own : ownKnob Try.prog.godebug = none := by kernel_rfl
theorem laidOut : laidOutB Try.prog = true := by kernel_rfl
set_option maxRecDepth 100000 in
theorem lifted (os : Os) (started : os.Started) (H : Type) (enc : TypeId × Value → H) :
    ReturnsInHanded {} Try.checked os 11 .any (Rows.msgVotesSpec.pre6 enc Try.prog Try.f11 Rows.msgVotesRow.domain false) (Rows.msgVotesSpec.post enc Try.prog Try.f11 false true false false) := by
  refine returnsInHanded_of_change_sized (C := Try.checked) own started (by kernel_rfl) Try.func11
    (ChangeSpec.witness6 (enc := enc) (C := Try.checked) false ⟨#[], #[.int .i64 0, .int .i64 0, .agg #[.int .i64 0, .int .i64 0, .int .i64 0, .slice none 0 0]], []⟩ 8 (by kernel_rfl) (by kernel_rfl) (by kernel_rfl) (by kernel_rfl)) ?_
  intro W base args ds gs before hval0 hW hcnd hsz0 _
  have hval : ∀ (j : Nat) t v, Try.f11.params[j]? = some t → args[j]? = some v → Value.okWide Try.prog W .any base t v := hval0
  have hW' := hW
  obtain ⟨p, q, hA0, hV, rfl, hfz, hnd⟩ := hW
  have hA : DataW.TrodAll enc Try.prog W 0 (fun _ => true) true Try.f11.params.toList args.toList ds p := hA0
  rw [Try.params11] at hA hval
  obtain ⟨v0, vs0, d0, ds0, p0, q0, hargs, rfl, rfl, h0, r0⟩ := trodAll_cons hA
  obtain ⟨v1, vs1, d1, ds1, p1, q1, rfl, rfl, rfl, h1, r1⟩ := trodAll_cons r0
  obtain ⟨v2, vs2, d2, ds2, p2, q2, rfl, rfl, rfl, h2, r2⟩ := trodAll_cons r1
  obtain ⟨rfl, rfl, rfl⟩ := trodAll_nil r2
  obtain rfl : args = #[v0, v1, v2] := by cases args; simp_all
  obtain ⟨rfl, rfl⟩ := trodVars_none hV
  have k0 := h0
  have lt0 : ∀ x ∈ p0, x.block < W.heap.size := by obtain ⟨m, hm⟩ := k0; exact DataW.trod_lt m _ _ _ hm
  obtain ⟨a0, rfl, rfl, rfl, w0⟩ := open_int Try.underlying3 (hval 0 3 v0 rfl rfl) h0
  have k1 := h1
  have lt1 : ∀ x ∈ p1, x.block < W.heap.size := by obtain ⟨m, hm⟩ := k1; exact DataW.trod_lt m _ _ _ hm
  obtain ⟨a1, rfl, rfl, rfl, w1⟩ := open_int Try.underlying3 (hval 1 3 v1 rfl rfl) h1
  have k2 := h2
  have lt2 : ∀ x ∈ p2, x.block < W.heap.size := by obtain ⟨m, hm⟩ := k2; exact DataW.trod_lt m _ _ _ hm
  have hop2 : Opens Try.prog (Kd.pair (Kd.int .i64) (Kd.pair (Kd.int .i64) (Kd.pair (Kd.int .i64) (Kd.slice 9 Kd.string)))) (OkPair (OkInt .i64) (OkPair (OkInt .i64) (OkPair (OkInt .i64) (OkList OkStr)))) 54 := (opens_struct_id Try.underlying54 (by kernel_rfl) (opensF_pair (off := 0) (len := 1) (len' := 3) (opens_int Try.underlying3) rfl rfl (by kernel_rfl) (opensF_pair (off := 1) (len := 1) (len' := 2) (opens_int Try.underlying3) rfl rfl (by kernel_rfl) (opensF_pair (off := 2) (len := 1) (len' := 1) (opens_int Try.underlying3) rfl rfl (by kernel_rfl) (opensF_one (off := 3) (len := 1) (opens_slice Try.underlying27 (by kernel_rfl) (opens_string Try.underlying9)) rfl rfl (by kernel_rfl))))))
  obtain ⟨cs2, x2, rfl, hK2, w2⟩ := param_struct (kd := (Kd.pair (Kd.int .i64) (Kd.pair (Kd.int .i64) (Kd.pair (Kd.int .i64) (Kd.slice 9 Kd.string))))) Try.underlying54 hop2 (hval 2 54 v2 rfl rfl) h2
  obtain ⟨l_2, hl_2⟩ : ∃ l_, cs2.toList = l_ := ⟨_, rfl⟩
  obtain rfl := agg_eq hl_2
  clear hl_2
  rw [show l_2.toArray.toList = l_2 from rfl] at hK2
  obtain ⟨_, _, rfl, rfl, ⟨_, _, rfl, rfl, ⟨_, _, rfl, rfl, ⟨A2_3, c2_3, rfl, hc2_3, hr2_3⟩⟩⟩⟩ := hK2
  clear hA0 hval0 hsz0
  have hk := Pure.MsgVotes a0 a1 x2.1 x2.2.1 x2.2.2.1 x2.2.2.2 w0 w1 w2
  refine (sextonlaw23_MsgVotes.calls (a0 := a0) (a1 := a1) (a2_0 := x2.1) (a2_1 := x2.2.1) (a2_2 := x2.2.2.1) (A2_3 := A2_3) (c2_3 := c2_3) (l2_3 := x2.2.2.2) (hr2_3 := hr2_3) (hc2_3 := hc2_3) (r := true) (w := W) (h := hk)).mono ?_
  rintro e W' ⟨rfl, bel⟩
  exact ⟨_, rfl, _, _, _, [], _, [], hW', trodAll_mk1 (shut_bool Try.underlying4 _), (trodAll_cons_mk (Below.trod laidOut (by kernel_rfl) (of_decide_eq_true (by kernel_rfl)) k0 bel lt0) (trodAll_cons_mk (Below.trod laidOut (by kernel_rfl) (of_decide_eq_true (by kernel_rfl)) k1 bel lt1) (trodAll_cons_mk (Below.trod laidOut (by kernel_rfl) (of_decide_eq_true (by kernel_rfl)) k2 bel lt2) trodAll_mk0))), rfl, bel.frame _, fun h => by cases h⟩
theorem over : Rows.msgVotesRow.holds Try.pinned (OpenSpec.ofChange Rows.msgVotesSpec) :=
  OpenClaim.holds_of_wide 11 Try.f11 rfl rfl rfl rfl rfl rfl rfl ⟨rfl, rfl, rfl, rfl, rfl⟩ rfl rfl rfl rfl rfl (by kernel_rfl) Try.func11 (by kernel_rfl)
    (of_decide_eq_true (by kernel_rfl)) (by unfold Func.isWrapper; first | (rw [if_pos (by decide +kernel)]; kernel_rfl) | (rw [if_neg (by decide +kernel)]; exact ⟨rfl, rfl⟩))
    (fun os started H enc _ => lifted os started H enc)
theorem proved : Rows.MsgVotesSaid := over
#print axioms proved
end Go.Proofs.Ytfejidinfcmfjaa.msgVotes
namespace Go.Proofs.Ytfejidinfcmfjaa
/-- The row, under a short name, for the claim. -/
theorem msgVotes_holds : Rows.MsgVotesSaid := msgVotes.proved
end Go.Proofs.Ytfejidinfcmfjaa
