/-
  slices.Clone over writes, by hand: the same elements in a row of its own. For every row of no more than 1000000000 elements.
-/
import Derived.OwnWalk
import Derived.WalkSpells
import Derived.Test.YtoibofhmlokglaaWMore
import Derived.Test.YtoibofhmlokglaaMPlain
import Derived.Test.YtoibofhmlokglaaProg
import Derived.Test.YtoibofhmlokglaaPx0
namespace Go.Proofs.Ytoibofhmlokglaa.P
open Go.RowKit Go.Proofs.YtoibofhmlokglaaW.PrintWords Go.Proofs.YtoibofhmlokglaaW.PrintLast Go.Proofs.YtoibofhmlokglaaW.PrintMore Go.Proofs.Plain

/-- What slices.Clone answers. -/
def slices_Clone_WN.f (l0 : List S40) : Option (List S40) := if l0.length ≤ 1000000000 then some l0 else none
theorem slices_Clone_WN_info : (Try.prog.info? 40).map (fun i => (i.zero, i.size, i.bytes)) = some (some (.agg #[(.int .i64 0), (.string ⟨#[]⟩)]), 2, 24) := by kernel_rfl

set_option maxHeartbeats 2000000 in
theorem slices_Clone_WN.calls (A0 : Option Addr) (c0 : Nat) (l0 : List S40) (r : List S40) (w : World) (hr0 : Kd.C k40 w A0 l0.length l0) (hc0 : l0.length ≤ c0) (h : slices_Clone_WN.f l0 = some r) :
    Calls Try.prog 43 #[.slice A0 l0.length c0] w fun e w' => ∃ v0_ : Value, e = .returned (v0_) ∧ Kd.R k40 40 w' w.heap.size (fun _ => True) v0_ r ∧ Below w.heap.size w w' := by
  unfold slices_Clone_WN.f at h
  split at h
  · rename_i hlen
    obtain rfl := Option.some.inj h
    have HR := Aside0.mk hr0
    have HL := Aside0.mk hlen
    have heq := fun (W : World) => Lib.run_eql_slice_nil (P := Try.prog) W 23 40 A0 l0.length c0 0 0 Try.underlying23
    clear h hlen
    cases A0 with
    | none =>
      have h0 : l0 = [] := by
        cases l0 with
        | nil => rfl
        | cons x l => obtain ⟨_, e, _⟩ := hr0.2.2 (by simp); cases e
      have HN := Aside0.mk h0
      clear hr0 h0
      go_enter Try.func43, Try.ntmps43
      go_wp2
      go_ret
      exact ⟨_, rfl, by rw [HN.out]; exact Kd.R_nil _ _ _ _ _, Below.refl _ _⟩
    | some ad =>
      clear hr0
      have HR0 := Aside0.mk (show Kd.R k40 40 (w.alloc (.cells #[] 40)) w.heap.size (fun _ => True) (.slice (some ⟨w.heap.size, 0, none⟩) 0 0) [] from ⟨fun _ _ => trivial, [], World.ownsRow_lit w #[] 0 (Nat.le_refl _) (by simp [maxLen]) rfl, Reps.none _ _⟩)
      have HB := Aside0.mk (show Below w.heap.size w (w.alloc (.cells #[] 40)) from (Below.refl _ _).alloc (Nat.le_refl _) _)
      go_enter Try.func43, Try.ntmps43
      go_wp2_with (at_builtin; refine Kd.R_append_rows k40 (w0 := w) w.heap.size rfl (.tmp 5) (.tmp 6) 23 40 (.agg #[(.int .i64 0), (.string ⟨#[]⟩)]) 24 rfl Try.underlying23 slices_Clone_WN_info rfl (by decide) (by omega) (.slice (some ⟨w.heap.size, 0, none⟩) 0 0) ([] : List S40) l0 _ _ _ (fun _ => True) (fun _ => False) rfl rfl HR0.out (Kd.C_below HR.out HB.out) (fun _ _ h => h) (fun _ h => h.elim) (fun _ _ => trivial) HB.out HB.out.size (by have := HL.out; simp; omega) ?_; intro v1 w1 ho hb _ _; have HO := Aside0.mk ho; have HB1 := Aside0.mk hb; clear ho hb)
      go_ret
      exact ⟨_, rfl, HO.out, HB1.out⟩
  · cases h
end Go.Proofs.Ytoibofhmlokglaa.P
