/-
  Texts that the claims of this chapter share, joined.
-/
import Derived.OwnWalk
import Derived.StillTailTactics
import Derived.Deep.QuietTactic
import Derived.BigQuiet
import Derived.Test.YtfdpebipnapelaaC12b
import Derived.Test.YtfdpebipnapelaaC12a
import Derived.Test.YtfdpebipnapelaaPx0
import Derived.WalkKit
import Derived.ProofKit
import Derived.OpenShut
import Derived.ShutString
import Derived.ChangeOld
import Derived.Below
import Derived.SizedLaws
import Derived.ChangeArms
import Derived.Test.YtfdpebipnapelaaWWords
/-
  sextonref12.Get, by hand.
-/
namespace Go.Proofs.Ytfdpebipnapelaa.P
open Go.RowKit Go.Proofs Go.Proofs.CodecPlain Go.Proofs.YtfdpebipnapelaaW.PrintWords Go.Proofs.YtfdpebipnapelaaW.PrintLast

attribute [local go_sem] zero_meta zero_errno
/-- What the reference makes of numbers. -/
def refMetaG (r : List Int × Bool) : Int × Int × List Int × Int :=
  match r with
  | (a :: b :: c :: l, true) => if c = (l.length : Int) ∧ metaB a b l = true then (a, b, l, 0) else (0, 0, [], 30)
  | _ => (0, 0, [], 30)
def sextonref12_Get.f (s : ByteArray) : Option (Int × Int × List Int × Int) := if s.size ≤ 17592186044415 then some (refMetaG (numsOf s.size s)) else none
theorem refMetaG_no (l : List Int) : refMetaG (l, false) = (0, 0, [], 30) := by
  unfold refMetaG
  split
  · rename_i e; injection e with _ e; cases e
  · rfl
theorem refMetaG_short {l : List Int} (h : l.length < 3) : refMetaG (l, true) = (0, 0, [], 30) := by
  match l, h with
  | [], _ => rfl
  | [_], _ => rfl
  | [_, _], _ => rfl
theorem heads3 (l : List Int) (h : 3 ≤ l.length) : ∃ a b c m, l = a :: b :: c :: m ∧ rd l 0 = a ∧ rd l 1 = b ∧ rd l 2 = c ∧ m = l.drop 3 ∧ l.length = m.length + 3 := by
  match l, h with
  | a :: b :: c :: m, _ => exact ⟨a, b, c, m, rfl, rfl, rfl, rfl, rfl, rfl⟩
theorem row3 {W : World} {base : Nat} {ok : Nat → Prop} {A : Option Addr} {cap : Nat} {l : List Int} (h : Kd.R (Kd.int .i64) 3 W base ok (.slice A l.length cap) l) (hl : 3 ≤ l.length) :
    ∃ g : Nat, A = some ⟨g, 0, none⟩ ∧ W.cell? ⟨g, 0, none⟩ = some (.int .i64 (rd l 0)) ∧ W.cell? ⟨g, 1, none⟩ = some (.int .i64 (rd l 1)) ∧ W.cell? ⟨g, 2, none⟩ = some (.int .i64 (rd l 2)) := by
  obtain ⟨g, rfl⟩ : ∃ g : Nat, A = some ⟨g, 0, none⟩ := by
    obtain ⟨inner, ho⟩ := Kd.R_own h
    rcases ho.2 with ⟨he, h0⟩ | ⟨g, cap, cu, he, hb, hh, _⟩
    · omega
    · injection he with ha _ _; exact ⟨g, ha⟩
  exact ⟨g, rfl, (Kd.R_cell (0 : Int) h 0 (by decide) (by omega)).1, (Kd.R_cell (0 : Int) h 1 (by decide) (by omega)).1, (Kd.R_cell (0 : Int) h 2 (by decide) (by omega)).1⟩
theorem row3_0 {W : World} {base : Nat} {ok : Nat → Prop} {g cap : Nat} {l : List Int} {a : Int} (h : Kd.R (Kd.int .i64) 3 W base ok (.slice (some ⟨g, 0, none⟩) l.length cap) l) (hl : 3 ≤ l.length) (ha : rd l 0 = a) : W.cell? ⟨g, 0, none⟩ = some (.int .i64 a) := by
  rw [← ha]; exact (Kd.R_cell (0 : Int) h 0 (by decide) (by omega)).1
theorem row3_1 {W : World} {base : Nat} {ok : Nat → Prop} {g cap : Nat} {l : List Int} {a : Int} (h : Kd.R (Kd.int .i64) 3 W base ok (.slice (some ⟨g, 0, none⟩) l.length cap) l) (hl : 3 ≤ l.length) (ha : rd l 1 = a) : W.cell? ⟨g, 1, none⟩ = some (.int .i64 a) := by
  rw [← ha]; exact (Kd.R_cell (0 : Int) h 1 (by decide) (by omega)).1
theorem cut3 (g c : Nat) (l m : List Int) (hm : m = l.drop 3) (hl : l.length = m.length + 3) (hc : l.length ≤ c) : ∃ A' : Option Addr, (∀ W : World, (Instr.slice 22 (.slice (some ⟨g, 0, none⟩) l.length c) (some (.int .i64 3)) none none).run Try.prog W = .ok (.slice A' m.length (c - 3)) W) ∧
    (∀ W, Kd.C (Kd.int .i64) W (some ⟨g, 0, none⟩) l.length l → Kd.C (Kd.int .i64) W A' m.length m) := by
  obtain ⟨i0, hi, hz0, hz1, hz2⟩ := info_parts info3
  refine ⟨if c = 3 then some ⟨g, 0, none⟩ else (some ⟨g, 0, none⟩ : Option Addr).map (·.add (3 * (Kd.int .i64).sz)), fun W => ?_, fun W h => ?_⟩
  rotate_left
  · have h1 := Kd.C_drop h (m := 3) (by omega) hc
    rw [← hm] at h1
    exact h1
  · rw [cut_from 22 3 .i64 Try.underlying22 hi 1 hz1 _ _ _ 3 (by decide) (by omega) W]
    rw [show l.length - (3 : Int).toNat = m.length by show l.length - 3 = _; omega]
    rfl

set_option maxHeartbeats 8000000 in
set_option maxRecDepth 100000 in
theorem refMeta_any (s : ByteArray) (w : World) (hs : s.size ≤ 17592186044415) :
    Calls Try.prog 17 #[.string s] w (GetPost (refMetaG (numsOf s.size s)) w) := by
  obtain ⟨K, e⟩ := refNums s hs
  obtain ⟨l, ok, hl⟩ : ∃ l ok, numsOf s.size s = (l, ok) := ⟨_, _, rfl⟩
  have hlen := numsOf_len s.size s
  simp only at e
  rw [hl] at e hlen ⊢
  have HNs := Aside0.mk (fun W => sextonref12_numbers.calls K s l ok W (e K (Nat.le_refl _)))
  simp only at hlen
  clear e hl
  have HB0 := Aside0.mk ((Below.refl w.heap.size w).alloc (Nat.le_refl _) (.cells #[.int .i64 0, .int .i64 0, .slice none 0 0] 24))
  have HE0 : Aside0 ((w.alloc (.cells #[.int .i64 0, .int .i64 0, .slice none 0 0] 24)).heap[w.heap.size]? = some (.cells (blkE 0 0 (.slice none 0 0)) 24 (0, 0))) := ⟨blk_new w (.cells #[.int .i64 0, .int .i64 0, .slice none 0 0] 24)⟩
  cases ok
  · go_enter Try.func17, Try.ntmps17
    go_wp2_with (first | (go_at_call 49; (with_reducible refine (HNs.out _).mono ?_); rintro e w1 ⟨v1, rfl, hR, hb⟩; have HO1 := Aside0.mk (Kd.R_lower hR HB0.out.size); obtain ⟨A1, c1, rfl⟩ := Kd.R_slice hR; have HB1 := Aside0.mk (HB0.out.trans (hb.mono HB0.out.size)); have HE1 := Aside0.mk (blk_below HE0.out hb); clear hR hb) | ((with_reducible refine gate_store (t := 24) (p := 2) rfl ?_); refine store_event (t := 24) (p := 2) (w1 := (w1).setCells (w.heap.size) 0 (blkE 0 0 (.slice none 0 0)).toList) rfl rfl rfl ?hr ?_; (case hr => (unfold execOp; simp only [Act.eval, Sem.run_bind, Sem.run_pure, Result.andThen_ok]; show ((Sem.run Try.prog (Instr.storeAt 24 (.pointer (some ⟨w.heap.size, 0, none⟩)) (.agg (blkE 0 0 (.slice none 0 0)))) (w1)).andThen _) = _; rw [(store_meta HE1.out rfl 0 0 (.slice none 0 0) rfl).1]; try rfl)); intro w2 hw_; have HE2 := Aside0.mk (hw_ ▸ (store_meta HE1.out rfl 0 0 (.slice none 0 0) rfl).2 : w2.heap[w.heap.size]? = some (.cells (blkE 0 0 (.slice none 0 0)) 24 (0, 0))); have HB2 := Aside0.mk (show Below w.heap.size w w2 by rw [hw_]; exact belowE_cells HB1.out (Nat.le_refl _) _); clear hw_))
    have d0 := blk_cell HE2.out 0
    have d1 := blk_cell HE2.out 1
    have d2 := blk_cell HE2.out 2
    simp only [blkE, List.getElem?_toArray, List.getElem?_cons_zero, List.getElem?_cons_succ] at d0 d1 d2
    refine bodyPost_ret (v := .tuple #[.agg (blkE 0 0 (.slice none 0 0)), .int .i64 30]) ?_ rfl ⟨0, 0, [], 30, refMetaG_no l, _, rfl, Kd.R_nil _ _ _ _ _, HB2.out⟩
    simp [results, Try.results17, go_sem, blkE, d0, d1, d2]
  · by_cases h3 : l.length < 3
    · have hst := Aside0.mk (refMetaG_short h3)
      have h3b : decide (l.length < 3) = true := decide_eq_true h3
      go_enter Try.func17, Try.ntmps17
      go_wp2_with (first | (go_at_call 49; (with_reducible refine (HNs.out _).mono ?_); rintro e w1 ⟨v1, rfl, hR, hb⟩; have HO1 := Aside0.mk (Kd.R_lower hR HB0.out.size); obtain ⟨A1, c1, rfl⟩ := Kd.R_slice hR; have HB1 := Aside0.mk (HB0.out.trans (hb.mono HB0.out.size)); have HE1 := Aside0.mk (blk_below HE0.out hb); clear hR hb) | ((with_reducible refine gate_store (t := 24) (p := 2) rfl ?_); refine store_event (t := 24) (p := 2) (w1 := (w1).setCells (w.heap.size) 0 (blkE 0 0 (.slice none 0 0)).toList) rfl rfl rfl ?hr ?_; (case hr => (unfold execOp; simp only [Act.eval, Sem.run_bind, Sem.run_pure, Result.andThen_ok]; show ((Sem.run Try.prog (Instr.storeAt 24 (.pointer (some ⟨w.heap.size, 0, none⟩)) (.agg (blkE 0 0 (.slice none 0 0)))) (w1)).andThen _) = _; rw [(store_meta HE1.out rfl 0 0 (.slice none 0 0) rfl).1]; try rfl)); intro w2 hw_; have HE2 := Aside0.mk (hw_ ▸ (store_meta HE1.out rfl 0 0 (.slice none 0 0) rfl).2 : w2.heap[w.heap.size]? = some (.cells (blkE 0 0 (.slice none 0 0)) 24 (0, 0))); have HB2 := Aside0.mk (show Below w.heap.size w w2 by rw [hw_]; exact belowE_cells HB1.out (Nat.le_refl _) _); clear hw_))
      have d0 := blk_cell HE2.out 0
      have d1 := blk_cell HE2.out 1
      have d2 := blk_cell HE2.out 2
      simp only [blkE, List.getElem?_toArray, List.getElem?_cons_zero, List.getElem?_cons_succ] at d0 d1 d2
      refine bodyPost_ret (v := .tuple #[.agg (blkE 0 0 (.slice none 0 0)), .int .i64 30]) ?_ rfl ⟨0, 0, [], 30, hst.out, _, rfl, Kd.R_nil _ _ _ _ _, HB2.out⟩
      simp [results, Try.results17, go_sem, blkE, d0, d1, d2]
    · have hl3 : 3 ≤ l.length := by omega
      obtain ⟨a, b, c, m, hl, hd0, hd1, hd2, hm, hml⟩ := heads3 l hl3
      have Hl := Aside0.mk hl
      have Hd0 := Aside0.mk hd0
      have Hd1 := Aside0.mk hd1
      have Hd2 := Aside0.mk hd2
      have Hm := Aside0.mk hm
      have Hml := Aside0.mk hml
      have h3b : decide (l.length < 3) = false := decide_eq_false h3
      clear h3 hl hd0 hd1 hd2 hm
      obtain ⟨K2, e2⟩ := refMetaIs a b m (by omega)
      simp only at e2
      by_cases hc : c = (l.length : Int) - 3
      rotate_left
      · have hst : Aside0 (refMetaG (l, true) = (0, 0, [], 30)) := ⟨by rw [Hl.out]; unfold refMetaG; simp only; rw [if_neg (fun h => hc (by omega))]⟩
        have hcb : (c != (l.length : Int) - 3) = true := by rw [bne_iff_ne]; exact hc
        clear hc hml
        go_enter Try.func17, Try.ntmps17
        go_wp2_with (first | (go_at_call 49; (with_reducible refine (HNs.out _).mono ?_); rintro e w1 ⟨v1, rfl, hR, hb⟩; have HO1 := Aside0.mk (Kd.R_lower hR HB0.out.size); obtain ⟨A1, c1, rfl⟩ := Kd.R_slice hR; have HB1 := Aside0.mk (HB0.out.trans (hb.mono HB0.out.size)); have HE1 := Aside0.mk (blk_below HE0.out hb); clear hR hb; obtain ⟨g1, rfl, x0, x1, x2⟩ := row3 HO1.out hl3; rw [Hd0.out] at x0; rw [Hd1.out] at x1; rw [Hd2.out] at x2) | ((with_reducible refine gate_store (t := 24) (p := 2) rfl ?_); refine store_event (t := 24) (p := 2) (w1 := (w1).setCells (w.heap.size) 0 (blkE 0 0 (.slice none 0 0)).toList) rfl rfl rfl ?hr ?_; (case hr => (unfold execOp; simp only [Act.eval, Sem.run_bind, Sem.run_pure, Result.andThen_ok]; show ((Sem.run Try.prog (Instr.storeAt 24 (.pointer (some ⟨w.heap.size, 0, none⟩)) (.agg (blkE 0 0 (.slice none 0 0)))) (w1)).andThen _) = _; rw [(store_meta HE1.out rfl 0 0 (.slice none 0 0) rfl).1]; try rfl)); intro w2 hw_; have HE2 := Aside0.mk (hw_ ▸ (store_meta HE1.out rfl 0 0 (.slice none 0 0) rfl).2 : w2.heap[w.heap.size]? = some (.cells (blkE 0 0 (.slice none 0 0)) 24 (0, 0))); have HB2 := Aside0.mk (show Below w.heap.size w w2 by rw [hw_]; exact belowE_cells HB1.out (Nat.le_refl _) _); clear hw_))
        have d0 := blk_cell HE2.out 0
        have d1 := blk_cell HE2.out 1
        have d2 := blk_cell HE2.out 2
        simp only [blkE, List.getElem?_toArray, List.getElem?_cons_zero, List.getElem?_cons_succ] at d0 d1 d2
        refine bodyPost_ret (v := .tuple #[.agg (blkE 0 0 (.slice none 0 0)), .int .i64 30]) ?_ rfl ⟨0, 0, [], 30, hst.out, _, rfl, Kd.R_nil _ _ _ _ _, HB2.out⟩
        simp [results, Try.results17, go_sem, blkE, d0, d1, d2]

      cases hmb : metaB a b m
      · have hcb : (c != (l.length : Int) - 3) = false := by rw [bne_eq_false_iff_eq]; exact hc
        have hst : Aside0 (refMetaG (l, true) = (0, 0, [], 30)) := ⟨by rw [Hl.out]; unfold refMetaG; simp only; rw [if_neg (fun h => by rw [hmb] at h; exact absurd h.2 (by decide))]⟩
        have HIs := Aside0.mk (fun (W : World) (Aq : Option Addr) (cq : Nat) (q : Kd.C (Kd.int .i64) W Aq m.length m) (q2 : m.length ≤ cq) => sextonref12_Is.calls K2 a b Aq cq m false W q q2 (by rw [e2 K2 (Nat.le_refl _), hmb]))
        clear e2 hmb
        have Hc := Aside0.mk hc
        have hb0 : 0 < l.length := by omega
        have hb1 : 1 < l.length := by omega
        have hb1i : (1 : Int) < (l.length : Int) := by omega
        clear hc hml
        go_enter Try.func17, Try.ntmps17
        go_wp2_with (first | (go_at_call 49; (with_reducible refine (HNs.out _).mono ?_); rintro e w1 ⟨v1, rfl, hR, hb⟩; have HO1 := Aside0.mk (Kd.R_lower hR HB0.out.size); obtain ⟨A1, c1, rfl⟩ := Kd.R_slice hR; have HB1 := Aside0.mk (HB0.out.trans (hb.mono HB0.out.size)); have HE1 := Aside0.mk (blk_below HE0.out hb); clear hR hb; obtain ⟨g1, rfl, x0, x1, x2⟩ := row3 HO1.out hl3; rw [Hd0.out] at x0; rw [Hd1.out] at x1; rw [Hd2.out] at x2))
        have HO2 := Aside0.mk (Kd.R_drew HO1.out)
        have HE2 := Aside0.mk (blk_drew HE1.out)
        have HB2 := Aside0.mk (below_drew1 HB1.out)
        refine start_ (n := 9) (S := fun w' => w'.cell? ⟨g1, 0, none⟩ = some (.int .i64 a) ∧ w'.cell? ⟨g1, 1, none⟩ = some (.int .i64 b)) (ds := [8]) #[false, false, false, false, false, false, false, false, false] (by kernel_rfl) rfl rfl ⟨(row3_0 (Kd.R_drew HO1.out) hl3 Hd0.out), (row3_1 (Kd.R_drew HO1.out) hl3 Hd1.out)⟩ (fun hHeld => ?_)
        generalize w1.drew = w2 at HO2 HE2 HB2 hHeld ⊢
        refine pure_ (i := 0) (N := some 29) (v := ?_) (a' := ?_) #[true, false, false, false, false, false, false, false, false] rfl rfl (by kernel_rfl) (fun _ _ _ h => h) (Or.inl ⟨by rfl, ?_⟩) ?_ ?_
        rotate_left
        · intro w'
          go_simp
          with_reducible rfl
        rotate_left
        · simp only [Act.put, List.setIfInBounds_toArray, List.set_cons_zero, List.set_cons_succ, i64_w, i32_w]
          rfl
        refine pure_ (i := 1) (N := some 30) (v := ?_) (a' := ?_) #[true, true, false, false, false, false, false, false, false] rfl rfl (by kernel_rfl) (fun _ _ _ h => h) (Or.inl ⟨by rfl, ?_⟩) ?_ ?_
        rotate_left
        · intro w'
          go_simp
          with_reducible rfl
        rotate_left
        · simp only [Act.put, List.setIfInBounds_toArray, List.set_cons_zero, List.set_cons_succ, i64_w, i32_w]
          rfl
        refine pure_ (i := 3) (N := some 32) (v := ?_) (a' := ?_) #[true, true, false, true, false, false, false, false, false] rfl rfl (by kernel_rfl) (fun _ _ _ h => h) (Or.inl ⟨by rfl, ?_⟩) ?_ ?_
        rotate_left
        · intro w'
          go_simp
          with_reducible rfl
        rotate_left
        · simp only [Act.put, List.setIfInBounds_toArray, List.set_cons_zero, List.set_cons_succ, i64_w, i32_w]
          rfl
        refine pure_ (i := 4) (N := some 33) (v := ?_) (a' := ?_) #[true, true, false, true, true, false, false, false, false] rfl rfl (by kernel_rfl) (fun _ _ _ h => h) (Or.inl ⟨by rfl, ?_⟩) ?_ ?_
        rotate_left
        · intro w'
          go_simp
          with_reducible rfl
        rotate_left
        · simp only [Act.put, List.setIfInBounds_toArray, List.set_cons_zero, List.set_cons_succ, i64_w, i32_w]
          rfl
        refine take_ (i := 2) (N := some 31) (v := ?_) (a' := ?_) #[true, true, true, true, true, false, false, false, false] rfl rfl (by kernel_rfl) (fun _ _ _ h => h) (Or.inl ⟨by rfl, ?_⟩) hHeld ?_ ?_
        rotate_left
        · rintro w' ⟨s0, s1⟩
          go_simp
          with_reducible rfl
        rotate_left
        · simp only [Act.put, List.setIfInBounds_toArray, List.set_cons_zero, List.set_cons_succ, i64_w, i32_w]
          rfl
        refine take_ (i := 5) (N := some 34) (v := ?_) (a' := ?_) #[true, true, true, true, true, true, false, false, false] rfl rfl (by kernel_rfl) (fun _ _ _ h => h) (Or.inl ⟨by rfl, ?_⟩) hHeld ?_ ?_
        rotate_left
        · rintro w' ⟨s0, s1⟩
          go_simp
          with_reducible rfl
        rotate_left
        · simp only [Act.put, List.setIfInBounds_toArray, List.set_cons_zero, List.set_cons_succ, i64_w, i32_w]
          rfl
        refine pure_ (i := 6) (N := some 35) (v := ?_) (a' := ?_) #[true, true, true, true, true, true, true, false, false] rfl rfl (by kernel_rfl) (fun _ _ _ h => h) (Or.inl ⟨by rfl, ?_⟩) ?_ ?_
        rotate_left
        · intro w'
          go_simp
          with_reducible rfl
        rotate_left
        · simp only [Act.put, List.setIfInBounds_toArray, List.set_cons_zero, List.set_cons_succ, i64_w, i32_w]
          rfl
        refine one_ (i := 7) (N := some 6) #[true, true, true, true, true, true, true, true, false] rfl rfl (by kernel_rfl) (by decide) (fun K hK => ?_)
        refine value_ (w1 := ?_) (v := ?_) (by rfl) rfl ?_ ?_
        rotate_left 2
        · go_simp
          constructor
          · rfl
          · rfl
        have HO3 := Aside0.mk (Kd.R_alloc HO2.out (.cells #[.int .i64 0, .int .i64 0, .slice none 0 0] 24))
        refine hK.out _ _ ⟨(row3_0 HO3.out hl3 Hd0.out), (row3_1 HO3.out hl3 Hd1.out)⟩ (fun hHeld => ?_)
        clear hK K
        refine norm_ (a' := ?_) ?_ ?_
        rotate_left
        · show Act.put _ (some 6) _ = _
          simp only [Act.put, List.setIfInBounds_toArray, List.set_cons_zero, List.set_cons_succ, i64_w, i32_w]
          rfl
        refine last_ (i := 8) (N := none) #[true, true, true, true, true, true, true, true, true] rfl rfl (by kernel_rfl) (by decide) (fun K hK => ?_)
        refine skip_ (w1 := (w2.alloc (.cells #[.int .i64 0, .int .i64 0, .slice none 0 0] 24)).setCells (w2.heap.size) 0 (blkE a b (.slice none 0 0)).toList) (by rfl) rfl (Go.Proofs.Ytfdpebipnapelaa.CallV.storeRun_ (pv := .pointer (some ⟨w2.heap.size, 0, none⟩)) (xv := .agg (blkE a b (.slice none 0 0))) rfl rfl rfl (store_meta (blk_new w2 (.cells #[.int .i64 0, .int .i64 0, .slice none 0 0] 24)) rfl a b (.slice none 0 0) rfl).1) ?_
        refine hK.out _ _ ?_
        clear hK K
        refine done_ (by kernel_rfl) ?_
        obtain ⟨w5, hw5⟩ : ∃ w5, w5 = (w2.alloc (.cells #[.int .i64 0, .int .i64 0, .slice none 0 0] 24)).setCells w2.heap.size 0 (blkE a b (.slice none 0 0)).toList := ⟨_, rfl⟩
        rw [← hw5]
        have hst5 := store_meta (blk_new w2 (.cells #[.int .i64 0, .int .i64 0, .slice none 0 0] 24)) rfl a b (.slice none 0 0) rfl
        have HM5 := Aside0.mk (show w5.heap[w2.heap.size]? = some (.cells (blkE a b (.slice none 0 0)) 24 (0, 0)) by rw [hw5]; exact hst5.2)
        have HLT := Aside0.mk (blk_lt HE2.out)
        have HB5 := Aside0.mk (show Below w.heap.size w w5 by rw [hw5]; exact belowE_cells (HB2.out.alloc HB2.out.size _) HB2.out.size _)
        have hs25 : Below w2.heap.size w2 w5 := by rw [hw5]; exact belowE_cells ((Below.refl _ _).alloc (Nat.le_refl _) _) (Nat.le_refl _) _
        have HE5 := Aside0.mk (blk_below HE2.out hs25)
        have HO5 := Aside0.mk (Kd.R_below HO2.out hs25)
        clear hw5 hst5 hs25 hHeld HE2 HO2 HB2 HE1 HO1 HB1 x0 x1 x2
        obtain ⟨A3, hcut, hc3⟩ := cut3 g1 c1 l m Hm.out Hml.out (Kd.R_reads' HO5.out).2.1
        have HC3 := Aside0.mk hc3
        clear hc3
        go_wp2
        have HM5d := Aside0.mk (blk_drew HM5.out)
        have HE6 := Aside0.mk (blk_drew HE5.out)
        have HO6 := Aside0.mk (Kd.R_drew HO5.out)
        have HB6 := Aside0.mk (below_drew1 HB5.out)
        refine start_ (n := 7) (S := fun w' => w'.cell? ⟨w2.heap.size, 2, none⟩ = some (.slice none 0 0)) (ds := [6]) #[false, false, false, false, false, false, false] (by kernel_rfl) rfl rfl (((blk_cell HM5d.out 2).trans rfl)) (fun hHeld => ?_)
        have HM6 := HM5d
        generalize w5.drew = w6 at HE6 HM6 HM5d HO6 HB6 hHeld ⊢
        refine pure_ (i := 0) (N := some 36) (v := ?_) (a' := ?_) #[true, false, false, false, false, false, false] rfl rfl (by kernel_rfl) (fun _ _ _ h => h) (Or.inl ⟨by rfl, ?_⟩) ?_ ?_
        rotate_left
        · intro w'
          go_simp
          with_reducible rfl
        rotate_left
        · simp only [Act.put, List.setIfInBounds_toArray, List.set_cons_zero, List.set_cons_succ, i64_w, i32_w]
          rfl
        refine pure_ (i := 2) (N := some 38) (v := ?_) (a' := ?_) #[true, false, true, false, false, false, false] rfl rfl (by kernel_rfl) (fun _ _ _ h => h) (Or.inl ⟨by rfl, ?_⟩) ?_ ?_
        rotate_left
        · intro w'
          go_simp
          with_reducible rfl
        rotate_left
        · simp only [Act.put, List.setIfInBounds_toArray, List.set_cons_zero, List.set_cons_succ, i64_w, i32_w]
          rfl
        refine pure_ (i := 3) (N := some 39) (v := ?_) (a' := ?_) #[true, false, true, true, false, false, false] rfl rfl (by kernel_rfl) (fun _ _ _ h => h) (Or.inl ⟨by rfl, ?_⟩) ?_ ?_
        rotate_left
        · intro w'
          go_simp
          with_reducible rfl
        rotate_left
        · simp only [Act.put, List.setIfInBounds_toArray, List.set_cons_zero, List.set_cons_succ, i64_w, i32_w]
          rfl
        refine take_ (i := 1) (N := some 37) (v := ?_) (a' := ?_) #[true, true, true, true, false, false, false] rfl rfl (by kernel_rfl) (fun _ _ _ h => h) (Or.inl ⟨by rfl, ?_⟩) hHeld ?_ ?_
        rotate_left
        · intro w' s0
          go_simp
          with_reducible rfl
        rotate_left
        · simp only [Act.put, List.setIfInBounds_toArray, List.set_cons_zero, List.set_cons_succ, i64_w, i32_w]
          rfl
        refine one_ (i := 4) (N := some 40) #[true, true, true, true, true, false, false] rfl rfl (by kernel_rfl) (by decide) (fun K hK => ?_)
        refine Kd.R_append_rows_step (Kd.int .i64) (w0 := w) (W := w6) w.heap.size (by rfl) (.tmp 37) (.tmp 39) 22 3 (.int .i64 0) 8 rfl Try.underlying22 info3 rfl (by decide) (by omega) (.slice none 0 0) [] m A3 m.length (c1 - 3) (fun _ => True) (fun _ => False) rfl rfl (Kd.R_nil _ _ _ _ _) (HC3.out w6 (Kd.R_reads' HO6.out).2.2) (fun _ _ h => h) (fun _ h => h.elim) (fun _ _ => trivial) HB6.out HB6.out.size (by have := Hml.out; simp only [List.length_nil]; omega) ?_
        intro v8 w8 ho hb hg _
        rw [List.nil_append] at ho
        obtain ⟨A8, c8, rfl⟩ := Kd.R_slice ho
        have HM8 := Aside0.mk (blk_grown HM6.out hg (by simp [Value.ownBlock]))
        have HE8 := Aside0.mk (blk_grown HE6.out hg (by simp [Value.ownBlock]))
        have HB8 := Aside0.mk hb
        have HO8 := Aside0.mk ho
        clear ho hb hg
        have HM9 := Aside0.mk (blk_set HM8.out 2 (.slice A8 m.length c8))
        have HE9 := Aside0.mk (blk_far HE8.out (p := ⟨w2.heap.size, 2, none⟩) (by show w.heap.size ≠ w2.heap.size; have := HLT.out; omega) (.slice A8 m.length c8))
        have HB9 := Aside0.mk (HB8.out.setCell (p := ⟨w2.heap.size, 2, none⟩) (by show w.heap.size ≤ w2.heap.size; have := HLT.out; omega) (.slice A8 m.length c8))
        have HO9 := Aside0.mk (Kd.R_set HO8.out HM8.out (by intro q hq; simp [Kd.int, Kd.scalar] at hq; subst hq; decide) 2 (.slice A8 m.length c8))
        have e8 := blk_cell HM8.out 2
        have f8 := blk_frozen HM8.out 2
        simp only [blkE, List.getElem?_toArray, List.getElem?_cons_zero, List.getElem?_cons_succ] at e8
        refine hK.out _ _ (((blk_cell HM8.out 2).trans rfl)) (fun hHeld => ?_)
        clear hK K
        refine norm_ (a' := ?_) ?_ ?_
        rotate_left
        · show Act.put _ (some 40) _ = _
          simp only [Act.put, List.setIfInBounds_toArray, List.set_cons_zero, List.set_cons_succ, i64_w, i32_w]
          rfl
        refine pure_ (i := 5) (N := some 41) (v := ?_) (a' := ?_) #[true, true, true, true, true, true, false] rfl rfl (by kernel_rfl) (fun _ _ _ h => h) (Or.inl ⟨by rfl, ?_⟩) ?_ ?_
        rotate_left
        · intro w'
          go_simp
          with_reducible rfl
        rotate_left
        · simp only [Act.put, List.setIfInBounds_toArray, List.set_cons_zero, List.set_cons_succ, i64_w, i32_w]
          rfl
        refine last_ (i := 6) (N := none) #[true, true, true, true, true, true, true] rfl rfl (by kernel_rfl) (by decide) (fun K hK => ?_)
        refine skip_ (w1 := ?_) (by rfl) rfl ?_ ?_
        rotate_left
        · go_simp
          rfl
        refine hK.out _ _ ?_
        clear hK K
        refine done_ (by kernel_rfl) ?_
        obtain ⟨w10, hw10⟩ : ∃ w10, w10 = w8.setCell ⟨w2.heap.size, 2, none⟩ (.slice A8 m.length c8) := ⟨_, rfl⟩
        rw [← hw10]
        have HM10 := Aside0.mk (show w10.heap[w2.heap.size]? = some (.cells (blkE a b (.slice A8 m.length c8)) 24 (0, 0)) by rw [hw10]; exact HM9.out)
        have HE10 := Aside0.mk (show w10.heap[w.heap.size]? = some (.cells (blkE 0 0 (.slice none 0 0)) 24 (0, 0)) by rw [hw10]; exact HE9.out)
        have HB10 := Aside0.mk (show Below w.heap.size w w10 by rw [hw10]; exact HB9.out)
        have HO10 := Aside0.mk (show Kd.R (Kd.int .i64) 3 w10 w.heap.size (fun _ => True) (.slice A8 m.length c8) m by rw [hw10]; exact HO9.out)
        clear hw10 HM9 HE9 HB9 HO9 HM8 HE8 HB8 HO8 e8 f8 HM6 HE6 HB6 HO6 HM5d HM5 HE5 HB5 HO5 hcut HC3
        have p0 := blk_cell HM10.out 0
        have p1 := blk_cell HM10.out 1
        have p2 := blk_cell HM10.out 2
        simp only [blkE, List.getElem?_toArray, List.getElem?_cons_zero, List.getElem?_cons_succ] at p0 p1 p2
        go_wp2_with (first | (go_at_call 24; (with_reducible refine (HIs.out w10 _ _ (Kd.R_reads' HO10.out).2.2 (Kd.R_reads' HO10.out).2.1).mono ?_); rintro e w11 ⟨rfl, hb⟩; have HO11 := Aside0.mk (Kd.R_below HO10.out hb); have HM11 := Aside0.mk (blk_below HM10.out hb); have HE11 := Aside0.mk (blk_below HE10.out hb); have HB11 := Aside0.mk (HB10.out.trans (hb.mono HB10.out.size)); clear hb; have n0 := blk_cell HM11.out 0; have n1 := blk_cell HM11.out 1; have n2 := blk_cell HM11.out 2; simp only [blkE, List.getElem?_toArray, List.getElem?_cons_zero, List.getElem?_cons_succ] at n0 n1 n2) | ((with_reducible refine gate_store (t := 24) (p := 2) rfl ?_); refine store_event (t := 24) (p := 2) (w1 := (w11).setCells (w.heap.size) 0 (blkE 0 0 (.slice none 0 0)).toList) rfl rfl rfl ?hr ?_; (case hr => (unfold execOp; simp only [Act.eval, Sem.run_bind, Sem.run_pure, Result.andThen_ok]; show ((Sem.run Try.prog (Instr.storeAt 24 (.pointer (some ⟨w.heap.size, 0, none⟩)) (.agg (blkE 0 0 (.slice none 0 0)))) (w11)).andThen _) = _; rw [(store_meta HE11.out rfl 0 0 (.slice none 0 0) rfl).1]; try rfl)); intro w12 hw_; have HE12 := Aside0.mk (hw_ ▸ (store_meta HE11.out rfl 0 0 (.slice none 0 0) rfl).2 : w12.heap[w.heap.size]? = some (.cells (blkE 0 0 (.slice none 0 0)) 24 (0, 0))); have HB12 := Aside0.mk (show Below w.heap.size w w12 by rw [hw_]; exact belowE_cells HB11.out (Nat.le_refl _) _); clear hw_))
        have d0 := blk_cell HE12.out 0
        have d1 := blk_cell HE12.out 1
        have d2 := blk_cell HE12.out 2
        simp only [blkE, List.getElem?_toArray, List.getElem?_cons_zero, List.getElem?_cons_succ] at d0 d1 d2
        refine bodyPost_ret (v := .tuple #[.agg (blkE 0 0 (.slice none 0 0)), .int .i64 30]) ?_ rfl ⟨0, 0, [], 30, hst.out, _, rfl, Kd.R_nil _ _ _ _ _, HB12.out⟩
        simp [results, Try.results17, go_sem, blkE, d0, d1, d2]
      · have hcb : (c != (l.length : Int) - 3) = false := by rw [bne_eq_false_iff_eq]; exact hc
        have hst : Aside0 (refMetaG (l, true) = (a, b, m, 0)) := ⟨by rw [Hl.out]; unfold refMetaG; simp only; rw [if_pos ⟨by omega, hmb⟩]⟩
        have HIs := Aside0.mk (fun (W : World) (Aq : Option Addr) (cq : Nat) (q : Kd.C (Kd.int .i64) W Aq m.length m) (q2 : m.length ≤ cq) => sextonref12_Is.calls K2 a b Aq cq m true W q q2 (by rw [e2 K2 (Nat.le_refl _), hmb]))
        clear e2 hmb
        have Hc := Aside0.mk hc
        have hb0 : 0 < l.length := by omega
        have hb1 : 1 < l.length := by omega
        have hb1i : (1 : Int) < (l.length : Int) := by omega
        clear hc hml
        go_enter Try.func17, Try.ntmps17
        go_wp2_with (first | (go_at_call 49; (with_reducible refine (HNs.out _).mono ?_); rintro e w1 ⟨v1, rfl, hR, hb⟩; have HO1 := Aside0.mk (Kd.R_lower hR HB0.out.size); obtain ⟨A1, c1, rfl⟩ := Kd.R_slice hR; have HB1 := Aside0.mk (HB0.out.trans (hb.mono HB0.out.size)); have HE1 := Aside0.mk (blk_below HE0.out hb); clear hR hb; obtain ⟨g1, rfl, x0, x1, x2⟩ := row3 HO1.out hl3; rw [Hd0.out] at x0; rw [Hd1.out] at x1; rw [Hd2.out] at x2))
        have HO2 := Aside0.mk (Kd.R_drew HO1.out)
        have HE2 := Aside0.mk (blk_drew HE1.out)
        have HB2 := Aside0.mk (below_drew1 HB1.out)
        refine start_ (n := 9) (S := fun w' => w'.cell? ⟨g1, 0, none⟩ = some (.int .i64 a) ∧ w'.cell? ⟨g1, 1, none⟩ = some (.int .i64 b)) (ds := [8]) #[false, false, false, false, false, false, false, false, false] (by kernel_rfl) rfl rfl ⟨(row3_0 (Kd.R_drew HO1.out) hl3 Hd0.out), (row3_1 (Kd.R_drew HO1.out) hl3 Hd1.out)⟩ (fun hHeld => ?_)
        generalize w1.drew = w2 at HO2 HE2 HB2 hHeld ⊢
        refine pure_ (i := 0) (N := some 29) (v := ?_) (a' := ?_) #[true, false, false, false, false, false, false, false, false] rfl rfl (by kernel_rfl) (fun _ _ _ h => h) (Or.inl ⟨by rfl, ?_⟩) ?_ ?_
        rotate_left
        · intro w'
          go_simp
          with_reducible rfl
        rotate_left
        · simp only [Act.put, List.setIfInBounds_toArray, List.set_cons_zero, List.set_cons_succ, i64_w, i32_w]
          rfl
        refine pure_ (i := 1) (N := some 30) (v := ?_) (a' := ?_) #[true, true, false, false, false, false, false, false, false] rfl rfl (by kernel_rfl) (fun _ _ _ h => h) (Or.inl ⟨by rfl, ?_⟩) ?_ ?_
        rotate_left
        · intro w'
          go_simp
          with_reducible rfl
        rotate_left
        · simp only [Act.put, List.setIfInBounds_toArray, List.set_cons_zero, List.set_cons_succ, i64_w, i32_w]
          rfl
        refine pure_ (i := 3) (N := some 32) (v := ?_) (a' := ?_) #[true, true, false, true, false, false, false, false, false] rfl rfl (by kernel_rfl) (fun _ _ _ h => h) (Or.inl ⟨by rfl, ?_⟩) ?_ ?_
        rotate_left
        · intro w'
          go_simp
          with_reducible rfl
        rotate_left
        · simp only [Act.put, List.setIfInBounds_toArray, List.set_cons_zero, List.set_cons_succ, i64_w, i32_w]
          rfl
        refine pure_ (i := 4) (N := some 33) (v := ?_) (a' := ?_) #[true, true, false, true, true, false, false, false, false] rfl rfl (by kernel_rfl) (fun _ _ _ h => h) (Or.inl ⟨by rfl, ?_⟩) ?_ ?_
        rotate_left
        · intro w'
          go_simp
          with_reducible rfl
        rotate_left
        · simp only [Act.put, List.setIfInBounds_toArray, List.set_cons_zero, List.set_cons_succ, i64_w, i32_w]
          rfl
        refine take_ (i := 2) (N := some 31) (v := ?_) (a' := ?_) #[true, true, true, true, true, false, false, false, false] rfl rfl (by kernel_rfl) (fun _ _ _ h => h) (Or.inl ⟨by rfl, ?_⟩) hHeld ?_ ?_
        rotate_left
        · rintro w' ⟨s0, s1⟩
          go_simp
          with_reducible rfl
        rotate_left
        · simp only [Act.put, List.setIfInBounds_toArray, List.set_cons_zero, List.set_cons_succ, i64_w, i32_w]
          rfl
        refine take_ (i := 5) (N := some 34) (v := ?_) (a' := ?_) #[true, true, true, true, true, true, false, false, false] rfl rfl (by kernel_rfl) (fun _ _ _ h => h) (Or.inl ⟨by rfl, ?_⟩) hHeld ?_ ?_
        rotate_left
        · rintro w' ⟨s0, s1⟩
          go_simp
          with_reducible rfl
        rotate_left
        · simp only [Act.put, List.setIfInBounds_toArray, List.set_cons_zero, List.set_cons_succ, i64_w, i32_w]
          rfl
        refine pure_ (i := 6) (N := some 35) (v := ?_) (a' := ?_) #[true, true, true, true, true, true, true, false, false] rfl rfl (by kernel_rfl) (fun _ _ _ h => h) (Or.inl ⟨by rfl, ?_⟩) ?_ ?_
        rotate_left
        · intro w'
          go_simp
          with_reducible rfl
        rotate_left
        · simp only [Act.put, List.setIfInBounds_toArray, List.set_cons_zero, List.set_cons_succ, i64_w, i32_w]
          rfl
        refine one_ (i := 7) (N := some 6) #[true, true, true, true, true, true, true, true, false] rfl rfl (by kernel_rfl) (by decide) (fun K hK => ?_)
        refine value_ (w1 := ?_) (v := ?_) (by rfl) rfl ?_ ?_
        rotate_left 2
        · go_simp
          constructor
          · rfl
          · rfl
        have HO3 := Aside0.mk (Kd.R_alloc HO2.out (.cells #[.int .i64 0, .int .i64 0, .slice none 0 0] 24))
        refine hK.out _ _ ⟨(row3_0 HO3.out hl3 Hd0.out), (row3_1 HO3.out hl3 Hd1.out)⟩ (fun hHeld => ?_)
        clear hK K
        refine norm_ (a' := ?_) ?_ ?_
        rotate_left
        · show Act.put _ (some 6) _ = _
          simp only [Act.put, List.setIfInBounds_toArray, List.set_cons_zero, List.set_cons_succ, i64_w, i32_w]
          rfl
        refine last_ (i := 8) (N := none) #[true, true, true, true, true, true, true, true, true] rfl rfl (by kernel_rfl) (by decide) (fun K hK => ?_)
        refine skip_ (w1 := (w2.alloc (.cells #[.int .i64 0, .int .i64 0, .slice none 0 0] 24)).setCells (w2.heap.size) 0 (blkE a b (.slice none 0 0)).toList) (by rfl) rfl (Go.Proofs.Ytfdpebipnapelaa.CallV.storeRun_ (pv := .pointer (some ⟨w2.heap.size, 0, none⟩)) (xv := .agg (blkE a b (.slice none 0 0))) rfl rfl rfl (store_meta (blk_new w2 (.cells #[.int .i64 0, .int .i64 0, .slice none 0 0] 24)) rfl a b (.slice none 0 0) rfl).1) ?_
        refine hK.out _ _ ?_
        clear hK K
        refine done_ (by kernel_rfl) ?_
        obtain ⟨w5, hw5⟩ : ∃ w5, w5 = (w2.alloc (.cells #[.int .i64 0, .int .i64 0, .slice none 0 0] 24)).setCells w2.heap.size 0 (blkE a b (.slice none 0 0)).toList := ⟨_, rfl⟩
        rw [← hw5]
        have hst5 := store_meta (blk_new w2 (.cells #[.int .i64 0, .int .i64 0, .slice none 0 0] 24)) rfl a b (.slice none 0 0) rfl
        have HM5 := Aside0.mk (show w5.heap[w2.heap.size]? = some (.cells (blkE a b (.slice none 0 0)) 24 (0, 0)) by rw [hw5]; exact hst5.2)
        have HLT := Aside0.mk (blk_lt HE2.out)
        have HB5 := Aside0.mk (show Below w.heap.size w w5 by rw [hw5]; exact belowE_cells (HB2.out.alloc HB2.out.size _) HB2.out.size _)
        have hs25 : Below w2.heap.size w2 w5 := by rw [hw5]; exact belowE_cells ((Below.refl _ _).alloc (Nat.le_refl _) _) (Nat.le_refl _) _
        have HE5 := Aside0.mk (blk_below HE2.out hs25)
        have HO5 := Aside0.mk (Kd.R_below HO2.out hs25)
        clear hw5 hst5 hs25 hHeld HE2 HO2 HB2 HE1 HO1 HB1 x0 x1 x2
        obtain ⟨A3, hcut, hc3⟩ := cut3 g1 c1 l m Hm.out Hml.out (Kd.R_reads' HO5.out).2.1
        have HC3 := Aside0.mk hc3
        clear hc3
        go_wp2
        have HM5d := Aside0.mk (blk_drew HM5.out)
        have HE6 := Aside0.mk (blk_drew HE5.out)
        have HO6 := Aside0.mk (Kd.R_drew HO5.out)
        have HB6 := Aside0.mk (below_drew1 HB5.out)
        refine start_ (n := 7) (S := fun w' => w'.cell? ⟨w2.heap.size, 2, none⟩ = some (.slice none 0 0)) (ds := [6]) #[false, false, false, false, false, false, false] (by kernel_rfl) rfl rfl (((blk_cell HM5d.out 2).trans rfl)) (fun hHeld => ?_)
        have HM6 := HM5d
        generalize w5.drew = w6 at HE6 HM6 HM5d HO6 HB6 hHeld ⊢
        refine pure_ (i := 0) (N := some 36) (v := ?_) (a' := ?_) #[true, false, false, false, false, false, false] rfl rfl (by kernel_rfl) (fun _ _ _ h => h) (Or.inl ⟨by rfl, ?_⟩) ?_ ?_
        rotate_left
        · intro w'
          go_simp
          with_reducible rfl
        rotate_left
        · simp only [Act.put, List.setIfInBounds_toArray, List.set_cons_zero, List.set_cons_succ, i64_w, i32_w]
          rfl
        refine pure_ (i := 2) (N := some 38) (v := ?_) (a' := ?_) #[true, false, true, false, false, false, false] rfl rfl (by kernel_rfl) (fun _ _ _ h => h) (Or.inl ⟨by rfl, ?_⟩) ?_ ?_
        rotate_left
        · intro w'
          go_simp
          with_reducible rfl
        rotate_left
        · simp only [Act.put, List.setIfInBounds_toArray, List.set_cons_zero, List.set_cons_succ, i64_w, i32_w]
          rfl
        refine pure_ (i := 3) (N := some 39) (v := ?_) (a' := ?_) #[true, false, true, true, false, false, false] rfl rfl (by kernel_rfl) (fun _ _ _ h => h) (Or.inl ⟨by rfl, ?_⟩) ?_ ?_
        rotate_left
        · intro w'
          go_simp
          with_reducible rfl
        rotate_left
        · simp only [Act.put, List.setIfInBounds_toArray, List.set_cons_zero, List.set_cons_succ, i64_w, i32_w]
          rfl
        refine take_ (i := 1) (N := some 37) (v := ?_) (a' := ?_) #[true, true, true, true, false, false, false] rfl rfl (by kernel_rfl) (fun _ _ _ h => h) (Or.inl ⟨by rfl, ?_⟩) hHeld ?_ ?_
        rotate_left
        · intro w' s0
          go_simp
          with_reducible rfl
        rotate_left
        · simp only [Act.put, List.setIfInBounds_toArray, List.set_cons_zero, List.set_cons_succ, i64_w, i32_w]
          rfl
        refine one_ (i := 4) (N := some 40) #[true, true, true, true, true, false, false] rfl rfl (by kernel_rfl) (by decide) (fun K hK => ?_)
        refine Kd.R_append_rows_step (Kd.int .i64) (w0 := w) (W := w6) w.heap.size (by rfl) (.tmp 37) (.tmp 39) 22 3 (.int .i64 0) 8 rfl Try.underlying22 info3 rfl (by decide) (by omega) (.slice none 0 0) [] m A3 m.length (c1 - 3) (fun _ => True) (fun _ => False) rfl rfl (Kd.R_nil _ _ _ _ _) (HC3.out w6 (Kd.R_reads' HO6.out).2.2) (fun _ _ h => h) (fun _ h => h.elim) (fun _ _ => trivial) HB6.out HB6.out.size (by have := Hml.out; simp only [List.length_nil]; omega) ?_
        intro v8 w8 ho hb hg _
        rw [List.nil_append] at ho
        obtain ⟨A8, c8, rfl⟩ := Kd.R_slice ho
        have HM8 := Aside0.mk (blk_grown HM6.out hg (by simp [Value.ownBlock]))
        have HE8 := Aside0.mk (blk_grown HE6.out hg (by simp [Value.ownBlock]))
        have HB8 := Aside0.mk hb
        have HO8 := Aside0.mk ho
        clear ho hb hg
        have HM9 := Aside0.mk (blk_set HM8.out 2 (.slice A8 m.length c8))
        have HE9 := Aside0.mk (blk_far HE8.out (p := ⟨w2.heap.size, 2, none⟩) (by show w.heap.size ≠ w2.heap.size; have := HLT.out; omega) (.slice A8 m.length c8))
        have HB9 := Aside0.mk (HB8.out.setCell (p := ⟨w2.heap.size, 2, none⟩) (by show w.heap.size ≤ w2.heap.size; have := HLT.out; omega) (.slice A8 m.length c8))
        have HO9 := Aside0.mk (Kd.R_set HO8.out HM8.out (by intro q hq; simp [Kd.int, Kd.scalar] at hq; subst hq; decide) 2 (.slice A8 m.length c8))
        have e8 := blk_cell HM8.out 2
        have f8 := blk_frozen HM8.out 2
        simp only [blkE, List.getElem?_toArray, List.getElem?_cons_zero, List.getElem?_cons_succ] at e8
        refine hK.out _ _ (((blk_cell HM8.out 2).trans rfl)) (fun hHeld => ?_)
        clear hK K
        refine norm_ (a' := ?_) ?_ ?_
        rotate_left
        · show Act.put _ (some 40) _ = _
          simp only [Act.put, List.setIfInBounds_toArray, List.set_cons_zero, List.set_cons_succ, i64_w, i32_w]
          rfl
        refine pure_ (i := 5) (N := some 41) (v := ?_) (a' := ?_) #[true, true, true, true, true, true, false] rfl rfl (by kernel_rfl) (fun _ _ _ h => h) (Or.inl ⟨by rfl, ?_⟩) ?_ ?_
        rotate_left
        · intro w'
          go_simp
          with_reducible rfl
        rotate_left
        · simp only [Act.put, List.setIfInBounds_toArray, List.set_cons_zero, List.set_cons_succ, i64_w, i32_w]
          rfl
        refine last_ (i := 6) (N := none) #[true, true, true, true, true, true, true] rfl rfl (by kernel_rfl) (by decide) (fun K hK => ?_)
        refine skip_ (w1 := ?_) (by rfl) rfl ?_ ?_
        rotate_left
        · go_simp
          rfl
        refine hK.out _ _ ?_
        clear hK K
        refine done_ (by kernel_rfl) ?_
        obtain ⟨w10, hw10⟩ : ∃ w10, w10 = w8.setCell ⟨w2.heap.size, 2, none⟩ (.slice A8 m.length c8) := ⟨_, rfl⟩
        rw [← hw10]
        have HM10 := Aside0.mk (show w10.heap[w2.heap.size]? = some (.cells (blkE a b (.slice A8 m.length c8)) 24 (0, 0)) by rw [hw10]; exact HM9.out)
        have HE10 := Aside0.mk (show w10.heap[w.heap.size]? = some (.cells (blkE 0 0 (.slice none 0 0)) 24 (0, 0)) by rw [hw10]; exact HE9.out)
        have HB10 := Aside0.mk (show Below w.heap.size w w10 by rw [hw10]; exact HB9.out)
        have HO10 := Aside0.mk (show Kd.R (Kd.int .i64) 3 w10 w.heap.size (fun _ => True) (.slice A8 m.length c8) m by rw [hw10]; exact HO9.out)
        clear hw10 HM9 HE9 HB9 HO9 HM8 HE8 HB8 HO8 e8 f8 HM6 HE6 HB6 HO6 HM5d HM5 HE5 HB5 HO5 hcut HC3
        have p0 := blk_cell HM10.out 0
        have p1 := blk_cell HM10.out 1
        have p2 := blk_cell HM10.out 2
        simp only [blkE, List.getElem?_toArray, List.getElem?_cons_zero, List.getElem?_cons_succ] at p0 p1 p2
        go_wp2_with (first | (go_at_call 24; (with_reducible refine (HIs.out w10 _ _ (Kd.R_reads' HO10.out).2.2 (Kd.R_reads' HO10.out).2.1).mono ?_); rintro e w11 ⟨rfl, hb⟩; have HO11 := Aside0.mk (Kd.R_below HO10.out hb); have HM11 := Aside0.mk (blk_below HM10.out hb); have HE11 := Aside0.mk (blk_below HE10.out hb); have HB11 := Aside0.mk (HB10.out.trans (hb.mono HB10.out.size)); clear hb; have n0 := blk_cell HM11.out 0; have n1 := blk_cell HM11.out 1; have n2 := blk_cell HM11.out 2; simp only [blkE, List.getElem?_toArray, List.getElem?_cons_zero, List.getElem?_cons_succ] at n0 n1 n2) | ((with_reducible refine gate_store (t := 24) (p := 2) rfl ?_); refine store_event (t := 24) (p := 2) (w1 := (w11).setCells (w.heap.size) 0 (blkE a b (.slice A8 m.length c8)).toList) rfl rfl rfl ?hr ?_; (case hr => (unfold execOp; simp only [Act.eval, Sem.run_bind, Sem.run_pure, Result.andThen_ok]; show ((Sem.run Try.prog (Instr.storeAt 24 (.pointer (some ⟨w.heap.size, 0, none⟩)) (.agg (blkE a b (.slice A8 m.length c8)))) (w11)).andThen _) = _; rw [(store_meta HE11.out rfl a b (.slice A8 m.length c8) rfl).1]; try rfl)); intro w12 hw_; have HE12 := Aside0.mk (hw_ ▸ (store_meta HE11.out rfl a b (.slice A8 m.length c8) rfl).2 : w12.heap[w.heap.size]? = some (.cells (blkE a b (.slice A8 m.length c8)) 24 (0, 0))); have HB12 := Aside0.mk (show Below w.heap.size w w12 by rw [hw_]; exact belowE_cells HB11.out (Nat.le_refl _) _); have HO12 := Aside0.mk (show Kd.R (Kd.int .i64) 3 w12 w.heap.size (fun _ => True) (.slice A8 m.length c8) (m) by rw [hw_]; exact Kd.R_mono (Kd.R_step (Kd.R_types HO11.out HE11.out (by intro q hq; simp [Kd.int, Kd.scalar] at hq; subst hq; decide)) (fun k hk _ => setCells_far _ _ k hk.2)) (fun _ _ => trivial)); clear hw_))
        have d0 := blk_cell HE12.out 0
        have d1 := blk_cell HE12.out 1
        have d2 := blk_cell HE12.out 2
        simp only [blkE, List.getElem?_toArray, List.getElem?_cons_zero, List.getElem?_cons_succ] at d0 d1 d2
        refine bodyPost_ret (v := .tuple #[.agg (blkE a b (.slice A8 m.length c8)), .int .i64 0]) ?_ rfl ⟨a, b, m, 0, hst.out, _, rfl, HO12.out, HB12.out⟩
        simp [results, Try.results17, go_sem, blkE, d0, d1, d2]
theorem sextonref12_Get.calls (a0 : ByteArray) (r1 : Int) (r2 : Int) (r3 : List Int) (r4 : Int) (w : World) (h : sextonref12_Get.f a0 = some (r1, r2, r3, r4)) :
    Calls Try.prog 17 #[.string a0] w fun e w' => ∃ v2_ : Value, e = .returned (.tuple #[.agg #[.int .i64 r1, .int .i64 r2, v2_], .int .i64 r4]) ∧ Kd.R (Kd.int .i64) 3 w' w.heap.size (fun _ => True) v2_ r3 ∧ Below w.heap.size w w' := by
  unfold sextonref12_Get.f at h
  by_cases hs : a0.size ≤ 17592186044415
  · rw [if_pos hs] at h
    have hg := Option.some.inj h
    refine (refMeta_any a0 w hs).mono ?_
    rintro e w' ⟨s1, s2, s3, s4, hs, v, rfl, hR, hB⟩
    have := hs.symm.trans hg
    simp only [Prod.mk.injEq] at this
    obtain ⟨rfl, rfl, rfl, rfl⟩ := this
    exact ⟨v, rfl, hR, hB⟩
  · rw [if_neg hs] at h
    cases h
end Go.Proofs.Ytfdpebipnapelaa.P
-- Written by a program of this session (xprint.py) over the kit's print.py.
namespace Go.Proofs.Ytfdpebipnapelaa.P
open Go.RowKit Go.Proofs.YtfdpebipnapelaaW.PrintWords Go.Proofs.YtfdpebipnapelaaW.PrintLast Go.Proofs.YtfdpebipnapelaaW.PrintMore
attribute [local go_sem] max2_int min2_int max_two min_two max_three min_three max_four min_four   -- for this text's walks alone
set_option linter.unusedVariables false
set_option linter.unusedSimpArgs false

/-! ### sextonref01_Short: function 12 -/
def sextonref01_Short.l0 : Nat → List ByteArray → Int → Option (Bool)
  | 0, _, _ => none
  | k + 1, x0, x3 => if x3 < (x0.length : Int) then (if 0 ≤ x3 then (if ((rdOf ByteArray.empty x0 x3).size : Int) > 300 then (some false) else (sextonref01_Short.l0 k x0 (wrap64 (x3 + 1)))) else (none)) else (some true)
def sextonref01_Short.f (k : Nat) (l0 : List ByteArray) : Option (Bool) := sextonref01_Short.l0 k l0 0
theorem sextonref01_Short.mono_l : ∀ k, (∀ y0 y1, LeO (sextonref01_Short.l0 k y0 y1) (sextonref01_Short.l0 (k + 1) y0 y1))
  | 0 => fun _ _ r h => by simp [sextonref01_Short.l0] at h
  | k + 1 => by
    have ih0 := sextonref01_Short.mono_l k
    · intro y0 y1
      unfold sextonref01_Short.l0
      repeat' first
      | (with_reducible exact ih0 _ _)
      | (with_reducible exact LeO.refl _)
      | (with_reducible exact LeO.none _)
      | (with_reducible refine LeO.ite ?_ ?_)
      | (with_reducible refine LeO.bind ?_ (fun _ => ?_))
      | exact ih0 _ _
      | exact LeO.none _
      | refine LeO.ite ?_ ?_
      | refine LeO.bind ?_ (fun _ => ?_)
theorem sextonref01_Short.mono : ∀ a0 k, LeO (sextonref01_Short.f k a0) (sextonref01_Short.f (k + 1) a0) := by
  intro a0 k
  have ih0 := sextonref01_Short.mono_l k
  unfold sextonref01_Short.f
  repeat' first
      | (with_reducible exact ih0 _ _)
      | (with_reducible exact LeO.refl _)
      | (with_reducible exact LeO.none _)
      | (with_reducible refine LeO.ite ?_ ?_)
      | (with_reducible refine LeO.bind ?_ (fun _ => ?_))
      | exact ih0 _ _
      | exact LeO.none _
      | refine LeO.ite ?_ ?_
      | refine LeO.bind ?_ (fun _ => ?_)
set_option maxHeartbeats 8000000 in
set_option maxRecDepth 100000 in
theorem sextonref01_Short.calls (k : Nat) (A0 : Option Addr) (c0 : Nat) (l0 : List ByteArray) (r : Bool) (w : World) (hr0 : Kd.C Kd.string w A0 l0.length l0) (hc0 : l0.length ≤ c0) (h : sextonref01_Short.f k l0 = some r) :
    Calls Try.prog 12 #[.slice A0 l0.length c0] w fun e w' => e = .returned (.bool r) ∧ Drawn0 w w' := by
  have HR0 := Aside0.mk hr0
  have HC0 := Aside0.mk hc0
  clear hr0 hc0
  have H : (sextonref01_Short.l0 k l0 0) = some r := h
  clear h
  have H' := Aside0.mk H
  clear H
  go_enter Try.func12, Try.ntmps12
  go_wp2
  go_loopg [3] k (fun kq v3 w' => ∃ (x3_1 : Int), v3 = .int .i64 x3_1 ∧ Aside0 (sextonref01_Short.l0 kq l0 x3_1 = some r) ∧ Aside0 (kq ≤ k) ∧ Drawn0 w w')
  case atStart => exact ⟨(0), (by first | rfl | (simp; done) | (simp [*]; done)), H', ⟨Nat.le_refl _⟩, by repeat (first | exact Drawn0.refl _ | apply Drawn0.step)⟩
  case round =>
    clear H'
    try clear c1
    obtain ⟨x3_1, rfl, HA, HK1, ⟨m1, rfl⟩⟩ := hrel
    cases gk with
    | zero => exact absurd HA.out (by simp [sextonref01_Short.l0])
    | succ k1 =>
      have H := HA.out
      clear HA
      simp only [sextonref01_Short.l0] at H
      by_cases c2 : x3_1 < (l0.length : Int)
      · rw [if_pos c2] at H
        have c2b0 : decide (x3_1 < (l0.length : Int)) = true := decide_eq_true c2
        clear c2
        by_cases c3 : 0 ≤ x3_1
        · rw [if_pos c3] at H
          have c3b0 : decide (0 ≤ x3_1) = true := decide_eq_true c3
          clear c3
          by_cases c4 : ((rdOf ByteArray.empty l0 x3_1).size : Int) > 300
          · rw [if_pos c4] at H
            have c4b0 : decide (300 < ((rdOf ByteArray.empty l0 x3_1).size : Int)) = true := decide_eq_true c4
            have c4b1 : decide (300 < (rdOf ByteArray.empty l0 x3_1).size) = true := decide_eq_true (by omega)
            clear c4
            obtain rfl := Option.some.inj H
            have p101 : 0 ≤ (x3_1 : Int) := of_decide_eq_true (by first | (with_reducible assumption) | assumption)
            have q101 : x3_1 < (l0.length : Int) := of_decide_eq_true (by first | (with_reducible assumption) | assumption)
            obtain ⟨ad101, e101, hx101_0⟩ := Kd.at_string HR0.out x3_1 p101 q101
            cases e101
            replace p101 := eq_true p101
            replace q101 := eq_true q101
            go_wp2
            go_ret
            exact ⟨by first | rfl | (simp; done) | (simp [*]; done), by repeat (first | exact Drawn0.refl _ | apply Drawn0.step)⟩
          · rw [if_neg c4] at H
            have c4b0 : decide (300 < ((rdOf ByteArray.empty l0 x3_1).size : Int)) = false := decide_eq_false c4
            have c4b1 : decide (300 < (rdOf ByteArray.empty l0 x3_1).size) = false := decide_eq_false (by omega)
            clear c4
            have H' := Aside0.mk H
            clear H
            have p101 : 0 ≤ (x3_1 : Int) := of_decide_eq_true (by first | (with_reducible assumption) | assumption)
            have q101 : x3_1 < (l0.length : Int) := of_decide_eq_true (by first | (with_reducible assumption) | assumption)
            obtain ⟨ad101, e101, hx101_0⟩ := Kd.at_string HR0.out x3_1 p101 q101
            cases e101
            replace p101 := eq_true p101
            replace q101 := eq_true q101
            go_wp2
            go_roundg k1
            case measure => have := HK1.out; omega
            case rel => exact ⟨(wrap64 (x3_1 + 1)), (by first | rfl | (simp; done) | (simp [*]; done)), H', ⟨by have := HK1.out; omega⟩, by repeat (first | exact Drawn0.refl _ | apply Drawn0.step)⟩
        · rw [if_neg c3] at H
          exact absurd H (by simp)
      · rw [if_neg c2] at H
        have c2b0 : decide (x3_1 < (l0.length : Int)) = false := decide_eq_false c2
        clear c2
        obtain rfl := Option.some.inj H
        go_wp2
        go_ret
        exact ⟨by first | rfl | (simp; done) | (simp [*]; done), by repeat (first | exact Drawn0.refl _ | apply Drawn0.step)⟩

end Go.Proofs.Ytfdpebipnapelaa.P
/-
  What chapter 12's functions answer, told plainly.
-/
namespace Go.Proofs.Ytfdpebipnapelaa.P
open Go.RowKit Go.Proofs Go.Proofs.CodecPlain Go.Proofs.YtfdpebipnapelaaW.PrintWords Go.Proofs.YtfdpebipnapelaaW.PrintLast

theorem short1 (s : ByteArray) : Ev (fun k => sextonref01_Short.f k [s]) (decide (s.size ≤ 300)) := by
  unfold sextonref01_Short.f
  by_cases h : s.size ≤ 300
  · rw [decide_eq_true h]
    refine Ev.step (f := fun k => sextonref01_Short.l0 k [s] 1) (fun k => ?_) (Ev.step (f := fun _ => some true) (fun k => ?_) (Ev.now _))
    · simp only [sextonref01_Short.l0]
      rw [if_pos (by simp), if_pos (by decide), show rdOf ByteArray.empty [s] 0 = s from rfl, if_neg (by omega), show wrap64 (0 + 1) = 1 by unfold wrap64; omega]
    · simp only [sextonref01_Short.l0]
      rw [if_neg (by simp)]
  · rw [decide_eq_false h]
    refine Ev.step (f := fun _ => some false) (fun k => ?_) (Ev.now _)
    simp only [sextonref01_Short.l0]
    rw [if_pos (by simp), if_pos (by decide), show rdOf ByteArray.empty [s] 0 = s from rfl, if_pos (by omega)]
theorem ints_l0 (a b : List Int) (hl : a.length = b.length) (hm : a.length ≤ 9223372036854775806) (d : Nat) : ∀ k : Nat, k + d = a.length → Ev (fun r => sextonref01_Ints.l0 r a b (k : Int)) (decide (a.drop k = b.drop k)) := by
  induction d with
  | zero =>
    intro k hk
    rw [List.drop_of_length_le (by omega), List.drop_of_length_le (by omega), decide_eq_true rfl]
    exact Ev.step (f := fun _ => some true) (fun r => by simp only [sextonref01_Ints.l0]; rw [if_neg (by omega)]) (Ev.now _)
  | succ d ih =>
    intro k hk
    have ha : k < a.length := by omega
    have hb : k < b.length := by omega
    have ra : rd a (k : Int) = a[k] := by simp [rd, List.getD_eq_getElem?_getD, ha]
    have rb : rd b (k : Int) = b[k] := by simp [rd, List.getD_eq_getElem?_getD, hb]
    rw [List.drop_eq_getElem_cons ha, List.drop_eq_getElem_cons hb]
    by_cases he : a[k] = b[k]
    · refine Ev.step (f := fun r => sextonref01_Ints.l0 r a b ((k + 1 : Nat) : Int)) (fun r => ?_) ?_
      · simp only [sextonref01_Ints.l0]
        rw [if_pos (by omega), if_pos (by omega), if_pos (by omega), ra, rb, if_pos he, wrap_id (by omega) (by omega)]
        rfl
      · have := ih (k + 1) (by omega)
        rw [show (decide (a[k] :: a.drop (k + 1) = b[k] :: b.drop (k + 1))) = decide (a.drop (k + 1) = b.drop (k + 1)) from decide_eq_decide.2 (by rw [List.cons.injEq]; exact ⟨fun h => h.2, fun h => ⟨he, h⟩⟩)]
        exact this
    · refine Ev.step (f := fun _ => some false) (fun r => ?_) ?_
      · simp only [sextonref01_Ints.l0]
        rw [if_pos (by omega), if_pos (by omega), if_pos (by omega), ra, rb, if_neg he]
      · rw [decide_eq_false (by intro h; injection h with h _; exact he h)]
        exact Ev.now _
theorem ints_ev (a b : List Int) (hm : a.length ≤ 9223372036854775806) : Ev (fun r => sextonref01_Ints.f r a b) (decide (a = b)) := by
  by_cases hl : a.length = b.length
  · refine Ev.congr (f := fun r => sextonref01_Ints.l0 r a b 0) (fun r => by unfold sextonref01_Ints.f; rw [if_pos (by omega)]) ?_
    have := ints_l0 a b hl hm a.length 0 (by omega)
    simpa using this
  · rw [decide_eq_false (by intro h; exact hl (by rw [h]))]
    exact Ev.congr (f := fun _ => some false) (fun r => by unfold sextonref01_Ints.f; rw [if_neg (by omega)]) (Ev.now _)
theorem same12 (a b : Int) (l : List Int) (a' b' : Int) (l' : List Int) (hm : l.length ≤ 9223372036854775806) : Ev (fun k => sextonref12_Same.f k a b l a' b' l') (decide (a = a' ∧ b = b' ∧ l = l')) := by
  by_cases h1 : a = a'
  · by_cases h2 : b = b'
    · have := ints_ev l l' hm
      rw [show decide (a = a' ∧ b = b' ∧ l = l') = decide (l = l') by simp [h1, h2]]
      exact Ev.congr (f := fun k => (sextonref01_Ints.f k l l').bind fun t => some t) (fun k => by unfold sextonref12_Same.f; rw [if_pos h1, if_pos h2]) (Ev.bind this (Ev.now _))
    · rw [decide_eq_false (fun h => h2 h.2.1)]
      exact Ev.congr (f := fun _ => some false) (fun k => by unfold sextonref12_Same.f; rw [if_pos h1, if_neg h2]) (Ev.now _)
  · rw [decide_eq_false (fun h => h1 h.1)]
    exact Ev.congr (f := fun _ => some false) (fun k => by unfold sextonref12_Same.f; rw [if_neg h1]) (Ev.now _)
/-- A value's bytes. -/
def valV (a b : Int) (l : List Int) (gone : Bool) : ByteArray × Int := if gone = true then (⟨#[0]⟩, 0) else if metaB a b l = true then ((⟨#[1]⟩ : ByteArray) ++ metaStr a b l, 0) else (⟨#[]⟩, 1)
theorem metaStr_size {a b : Int} {l : List Int} (h : metaB a b l = true) : (metaStr a b l).size ≤ 95 := by
  have h1 := (metaB_bd h).1
  have h2 := cat_size_num ([a, b, (l.length : Int)] ++ l)
  unfold metaStr
  simp only [List.length_append, List.length_cons, List.length_nil] at h2
  omega
theorem value_f (a b : Int) (l : List Int) (gone : Bool) : meta_Value.f a b l gone = some (valV a b l gone) := by
  unfold meta_Value.f valV meta_Put.f
  cases gone
  · rw [if_neg (show ¬ (false = true) by decide), if_neg (show ¬ (false = true) by decide)]
    by_cases h : metaB a b l = true
    · have := metaStr_size h
      rw [if_pos h, if_pos h, Option.bind_some, if_pos rfl, if_pos (show 1 + (metaStr a b l).size ≤ 9223372036854775807 by omega)]
    · rw [if_neg h, if_neg h, Option.bind_some, if_neg (show ¬ ((1 : Int) = 0) by decide)]
  · rw [if_pos rfl, if_pos rfl]
theorem meta_put {a b : Int} {l : List Int} (h : metaB a b l = true) : metaG (readNs 3 (metaStr a b l)) = (a, b, l, 0) := by
  obtain ⟨h1, h2⟩ := metaB_bd h
  have e : metaStr a b l = catStr (([a, b, (l.length : Int)] : List Int).map numStr) ++ catStr (l.map numStr) := by
    unfold metaStr
    rw [List.map_append, catStr_append]
  rw [e, show (3 : Nat) = ([a, b, (l.length : Int)] : List Int).length from rfl, readNs_put _ (fun n hn => h2 n (List.mem_append_left _ hn))]
  unfold metaG
  simp only
  rw [if_pos (by omega)]
  have hr := readNs_put l (fun n hn => h2 n (List.mem_append_right _ hn)) ⟨#[]⟩
  rw [show catStr (l.map numStr) ++ (⟨#[]⟩ : ByteArray) = catStr (l.map numStr) from ByteArray.append_empty] at hr
  rw [show ((l.length : Int)).toNat = l.length from by omega, hr]
  unfold metaG2
  rw [if_pos ⟨rfl, rfl, h⟩]
theorem meta_got (s : ByteArray) : metaG (readNs 3 s) = (0, 0, [], 30) ∨ ∃ a b l, metaG (readNs 3 s) = (a, b, l, 0) ∧ metaB a b l = true ∧ s = metaStr a b l := by
  obtain ⟨r, rest, ok, hr⟩ : ∃ r rest ok, readNs 3 s = (r, rest, ok) := ⟨_, _, _, rfl⟩
  rw [hr]
  cases ok
  · exact Or.inl (metaG_no rfl)
  · obtain ⟨h1, h2, h3⟩ := readNs_got 3 s r rest hr
    match r, h1 with
    | [a, b, c], _ =>
      unfold metaG
      simp only
      by_cases hc : c ≤ 16
      · rw [if_pos hc]
        unfold metaG2
        by_cases hq : (readNs c.toNat rest).2.2 = true ∧ (readNs c.toNat rest).2.1 = ⟨#[]⟩ ∧ metaB a b (readNs c.toNat rest).1 = true
        · rw [if_pos hq]
          obtain ⟨q1, q2, q3⟩ := hq
          right
          refine ⟨a, b, (readNs c.toNat rest).1, rfl, q3, ?_⟩
          obtain ⟨g1, g2, g3⟩ := readNs_got c.toNat rest (readNs c.toNat rest).1 (readNs c.toNat rest).2.1 (by rw [← q1])
          have hc0 := (h2 c (by simp)).1
          unfold metaStr
          rw [List.map_append, catStr_append, g1, show ((c.toNat : Nat) : Int) = c by omega]
          rw [q2, show catStr ((readNs c.toNat rest).1.map numStr) ++ (⟨#[]⟩ : ByteArray) = catStr ((readNs c.toNat rest).1.map numStr) from ByteArray.append_empty] at g3
          rw [← g3]
          exact h3
        · rw [if_neg hq]; exact Or.inl rfl
      · rw [if_neg hc]; exact Or.inl rfl
theorem nums_put : ∀ (l : List Int) (n : Nat) (_ : ∀ m ∈ l, okN m), (catStr (l.map numStr)).size ≤ n → numsOf n (catStr (l.map numStr)) = (l, true) := by
  intro l
  induction l with
  | nil =>
    intro n _ _
    cases n with
    | zero => rfl
    | succ n => unfold numsOf; rw [if_pos (show (catStr (List.map numStr [])).size = 0 from rfl)]
  | cons x l ih =>
    intro n h hs
    have hx := numStr_size x
    have hs' : (numStr x).size + (catStr (l.map numStr)).size ≤ n := by
      rw [← CodecPlain.size_append]; exact hs
    obtain ⟨n, rfl⟩ : ∃ m, n = m + 1 := ⟨n - 1, by omega⟩
    have hn := h x List.mem_cons_self
    have hg : getNum (catStr ((x :: l).map numStr)) = (x, catStr (l.map numStr), true) := getNum_put x hn.1 hn.2 (catStr (l.map numStr))
    have h0 : ¬ (catStr ((x :: l).map numStr)).size = 0 := by
      show ¬ (numStr x ++ catStr (l.map numStr)).size = 0
      rw [CodecPlain.size_append]; omega
    unfold numsOf
    rw [if_neg h0, hg]
    simp only [if_true]
    rw [ih n (fun m hm => h m (List.mem_cons_of_mem _ hm)) (by omega)]
    simp
theorem nums_got : ∀ (n : Nat) (s : ByteArray) (l : List Int), s.size ≤ n → numsOf n s = (l, true) → (∀ m ∈ l, okN m) ∧ s = catStr (l.map numStr) := by
  intro n
  induction n with
  | zero =>
    intro s l hs h
    simp only [numsOf, Prod.mk.injEq] at h
    obtain ⟨rfl, _⟩ := h
    refine ⟨by simp, ba_ext ?_⟩
    have : s.data.toList.length = 0 := by rw [len_list]; omega
    rw [List.eq_nil_of_length_eq_zero this]
    rfl
  | succ n ih =>
    intro s l hs h
    unfold numsOf at h
    by_cases h0 : s.size = 0
    · rw [if_pos h0] at h
      simp only [Prod.mk.injEq] at h
      obtain ⟨rfl, _⟩ := h
      refine ⟨by simp, ba_ext ?_⟩
      have : s.data.toList.length = 0 := by rw [len_list]; omega
      rw [List.eq_nil_of_length_eq_zero this]
      rfl
    · rw [if_neg h0] at h
      obtain ⟨x, s1, ok, hg⟩ : ∃ x s1 ok, getNum s = (x, s1, ok) := ⟨_, _, _, rfl⟩
      have hlt : ok = true → s1.size < s.size := fun e => by
        have := getNum_rest (s := s) (by rw [hg]; exact e)
        rw [hg] at this
        exact this
      rw [hg] at h
      cases ok
      · simp at h
      · simp only [if_true] at h
        by_cases hq : (numsOf n s1).2 = true
        · rw [if_pos hq] at h
          simp only [Prod.mk.injEq] at h
          obtain ⟨rfl, _⟩ := h
          obtain ⟨h1, h2⟩ := ih s1 (numsOf n s1).1 (by have := hlt rfl; omega) (by rw [← hq])
          obtain ⟨hx0, hx1, hs'⟩ := getNum_got hg
          refine ⟨fun m hm => ?_, ?_⟩
          · rcases List.mem_cons.1 hm with rfl | hm
            · exact ⟨hx0, hx1⟩
            · exact h1 m hm
          · show s = numStr x ++ catStr ((numsOf n s1).1.map numStr)
            rw [← h2]
            exact hs'
        · rw [if_neg hq] at h
          simp at h
theorem refMeta_got (s : ByteArray) : refMetaG (numsOf s.size s) = (0, 0, [], 30) ∨ ∃ a b l, refMetaG (numsOf s.size s) = (a, b, l, 0) ∧ metaB a b l = true ∧ s = metaStr a b l := by
  obtain ⟨r, ok, hr⟩ : ∃ r ok, numsOf s.size s = (r, ok) := ⟨_, _, rfl⟩
  rw [hr]
  cases ok
  · exact Or.inl (refMetaG_no r)
  · obtain ⟨h1, h2⟩ := nums_got s.size s r (Nat.le_refl _) hr
    by_cases h3 : r.length < 3
    · exact Or.inl (refMetaG_short h3)
    · obtain ⟨a, b, c, m, rfl, _⟩ := heads3 r (by omega)
      unfold refMetaG
      simp only
      by_cases hc : c = (m.length : Int) ∧ metaB a b m = true
      · rw [if_pos hc]
        right
        refine ⟨a, b, m, rfl, hc.2, ?_⟩
        rw [h2, hc.1]
        rfl
      · rw [if_neg hc]; exact Or.inl rfl
theorem refMeta_put {a b : Int} {l : List Int} (h : metaB a b l = true) : refMetaG (numsOf (metaStr a b l).size (metaStr a b l)) = (a, b, l, 0) := by
  have h2 := (metaB_bd h).2
  have := nums_put ([a, b, (l.length : Int)] ++ l) (metaStr a b l).size h2 (Nat.le_refl _)
  rw [show catStr (([a, b, (l.length : Int)] ++ l).map numStr) = metaStr a b l from rfl] at this
  rw [this]
  show refMetaG (a :: b :: (l.length : Int) :: l, true) = _
  unfold refMetaG
  simp only
  rw [if_pos ⟨trivial, h⟩]
/-- Both read the same. -/
theorem refMeta_same (s : ByteArray) : refMetaG (numsOf s.size s) = metaG (readNs 3 s) := by
  rcases meta_got s with h | ⟨a, b, l, h, hm, rfl⟩
  · rcases refMeta_got s with h' | ⟨a', b', l', h', hm', rfl⟩
    · rw [h, h']
    · rw [meta_put hm'] at h
      injection h with _ h; injection h with _ h; injection h with _ h; cases h
  · rw [h, refMeta_put hm]
/-- What a value's bytes tell. -/
def readE (s : ByteArray) : Int × Int × List Int × Bool × Int :=
  match s.data.toList with
  | [0] => (0, 0, [], true, 0)
  | 1 :: r => ((metaG (readNs 3 ⟨r.toArray⟩)).1, (metaG (readNs 3 ⟨r.toArray⟩)).2.1, (metaG (readNs 3 ⟨r.toArray⟩)).2.2.1, false, (metaG (readNs 3 ⟨r.toArray⟩)).2.2.2)
  | _ => (0, 0, [], false, 30)
theorem read_f (s : ByteArray) : meta_Read.f s = some (readE s) := by
  unfold meta_Read.f strings_CutPrefix.f meta_Get.f readE
  rw [ByteArray.toList_eq]
  match s.data.toList with
  | [] => rfl
  | [b] =>
    by_cases h0 : b = 0
    · subst h0; rfl
    · by_cases h1 : b = 1
      · subst h1; rfl
      · rw [if_neg (by simpa using h0)]
        have hp : Lib.hasPrefix [b] (⟨#[1]⟩ : ByteArray).data.toList = false := by
          show ([1] : List UInt8).isPrefixOf [b] = false
          simp [List.isPrefixOf, Ne.symm h1]
        simp only [Option.bind_some, hp]
        rw [if_neg (show ¬ (false = true) by decide)]
        split
        · rename_i e; simp only [List.cons.injEq, and_true] at e; exact absurd e h0
        · rename_i e; simp only [List.cons.injEq] at e; exact absurd e.1 h1
        · rfl
  | b :: c :: l =>
    rw [if_neg (by simp)]
    by_cases h1 : b = 1
    · subst h1
      rfl
    · have hp : Lib.hasPrefix (b :: c :: l) (⟨#[1]⟩ : ByteArray).data.toList = false := by
        show ([1] : List UInt8).isPrefixOf (b :: c :: l) = false
        simp [List.isPrefixOf, Ne.symm h1]
      simp only [Option.bind_some, hp]
      rw [if_neg (show ¬ (false = true) by decide)]
      split
      · rename_i e; simp at e
      · rename_i e; simp only [List.cons.injEq] at e; exact absurd e.1 h1
      · rfl
end Go.Proofs.Ytfdpebipnapelaa.P
/-
  Metas' bytes: none is the beginning of another one's; what a value tells.
-/
namespace Go.Proofs.Ytfdpebipnapelaa.P
open Go.RowKit Go.Proofs Go.Proofs.CodecPlain Go.Proofs.YtfdpebipnapelaaW.PrintWords Go.Proofs.YtfdpebipnapelaaW.PrintLast

theorem front_inj {a b : Int} {l : List Int} {a' b' : Int} {l' : List Int} (h : metaB a b l = true) (h' : metaB a' b' l' = true) {t : ByteArray} (he : metaStr a' b' l' = metaStr a b l ++ t) : a = a' ∧ b = b' ∧ l = l' := by
  obtain ⟨h1, h2⟩ := metaB_bd h
  obtain ⟨g1, g2⟩ := metaB_bd h'
  have e : ∀ (x y : Int) (m : List Int), metaStr x y m = catStr (([x, y, (m.length : Int)] : List Int).map numStr) ++ catStr (m.map numStr) := by
    intro x y m
    unfold metaStr
    rw [List.map_append, catStr_append]
  have r1 := readNs_put [a, b, (l.length : Int)] (fun n hn => h2 n (List.mem_append_left _ hn)) (catStr (l.map numStr) ++ t)
  have r2 := readNs_put [a', b', (l'.length : Int)] (fun n hn => g2 n (List.mem_append_left _ hn)) (catStr (l'.map numStr))
  rw [e a' b' l', e a b l, ByteArray.append_assoc] at he
  rw [he] at r2
  have r3 := r1.symm.trans r2
  injection r3 with q1 q2
  injection q2 with q2 _
  injection q1 with q3 q4
  injection q4 with q4 q5
  injection q5 with q5 _
  have hl : l.length = l'.length := by omega
  have s1 := readNs_put l (fun n hn => h2 n (List.mem_append_right _ hn)) t
  have s2 := readNs_put l' (fun n hn => g2 n (List.mem_append_right _ hn)) ⟨#[]⟩
  rw [show catStr (l'.map numStr) ++ (⟨#[]⟩ : ByteArray) = catStr (l'.map numStr) from ByteArray.append_empty, ← q2, ← hl] at s2
  have s3 := s1.symm.trans s2
  injection s3 with q6 _
  exact ⟨q3, q4, q6⟩
theorem str_inj {a b : Int} {l : List Int} {a' b' : Int} {l' : List Int} (h : metaB a b l = true) (h' : metaB a' b' l' = true) (he : metaStr a b l = metaStr a' b' l') : a = a' ∧ b = b' ∧ l = l' :=
  front_inj h h' (t := ⟨#[]⟩) (by rw [he]; exact ByteArray.append_empty.symm)
theorem one_list (s : ByteArray) : ((⟨#[1]⟩ : ByteArray) ++ s).toList = 1 :: s.data.toList := by
  rw [ByteArray.toList_eq, app_list]
  rfl
theorem zero_list : (⟨#[0]⟩ : ByteArray).toList = [0] := by rw [ByteArray.toList_eq]
theorem list_str {s t : ByteArray} (h : s.data.toList = t.data.toList) : s = t := ba_ext h
theorem readE_put {a b : Int} {l : List Int} (h : metaB a b l = true) : readE ((⟨#[1]⟩ : ByteArray) ++ metaStr a b l) = (a, b, l, false, 0) := by
  unfold readE
  rw [app_list]
  show ((metaG (readNs 3 ⟨(metaStr a b l).data.toList.toArray⟩)).1, (metaG (readNs 3 ⟨(metaStr a b l).data.toList.toArray⟩)).2.1, (metaG (readNs 3 ⟨(metaStr a b l).data.toList.toArray⟩)).2.2.1, false, (metaG (readNs 3 ⟨(metaStr a b l).data.toList.toArray⟩)).2.2.2) = _
  rw [show (⟨(metaStr a b l).data.toList.toArray⟩ : ByteArray) = metaStr a b l from rfl, meta_put h]
theorem readE_zero : readE ⟨#[0]⟩ = (0, 0, [], true, 0) := rfl
theorem readE_got (s : ByteArray) : (readE s).2.2.2.2 = 30 ∨ (readE s = (0, 0, [], true, 0) ∧ s = ⟨#[0]⟩) ∨ ∃ a b l, readE s = (a, b, l, false, 0) ∧ metaB a b l = true ∧ s = (⟨#[1]⟩ : ByteArray) ++ metaStr a b l := by
  unfold readE
  split
  · rename_i e
    right; left
    exact ⟨rfl, list_str e⟩
  · rename_i r e
    rcases meta_got ⟨r.toArray⟩ with h | ⟨a, b, l, h, hm, hs⟩
    · left; rw [h]
    · right; right
      refine ⟨a, b, l, by rw [h], hm, ?_⟩
      rw [← hs]
      apply list_str
      rw [e, app_list]
      rfl
  · exact Or.inl rfl
end Go.Proofs.Ytfdpebipnapelaa.P
/-
  What can be read as data reads as a value of its kind: kind by kind, for the rows of the statements.
-/
namespace Go.Proofs.Ytfdpebipnapelaa.Opens
open Go.ChangeShapes Go.WideShapes Go.ChangeAt Go.RowKit Go.Proofs.YtfdpebipnapelaaW.PrintWords

def Opens (P : Program) {α : Type} (kd : Kd α) (ok : α → Prop) (t : TypeId) : Prop :=
  ∀ {H : Type} (enc : TypeId × Value → H) (W : World) (base : Nat) (spare : Nat → Bool) (held : Bool) (fuel : Nat) (cs : List Value) (x : DataW H × List MemPlace),
    DataW.trod enc P W base spare held fuel t cs = some x → ∃ a, kd.K W a cs ∧ ok a
def OkInt (k : IntKind) (n : Int) : Prop := (Lit.int k n).wf = true
def OkStr (s : ByteArray) : Prop := s.size ≤ maxLen
def OkList {α : Type} (ok : α → Prop) (l : List α) : Prop := l.length ≤ maxLen ∧ ∀ a ∈ l, ok a
def OkTrue {α : Type} (_ : α) : Prop := True
def OkPair {α β : Type} (p : α → Prop) (q : β → Prop) (x : α × β) : Prop := p x.1 ∧ q x.2

section
variable {P : Program} {t e : TypeId}
theorem opens_int {k : IntKind} (ht : P.underlying t = some (.int k)) : Opens P (Kd.int k) (OkInt k) t := by
  intro H enc W base spare held fuel cs x h
  obtain ⟨n, rfl, _, hw⟩ := DataW.trod_int ht h
  exact ⟨n, rfl, hw⟩
theorem opens_bool (ht : P.underlying t = some .bool) : Opens P Kd.bool OkTrue t := by
  intro H enc W base spare held fuel cs x h
  obtain ⟨b, rfl, _⟩ := DataW.trod_bool ht h
  exact ⟨b, rfl, trivial⟩
theorem opens_string (ht : P.underlying t = some .string) : Opens P Kd.string OkStr t := by
  intro H enc W base spare held fuel cs x h
  obtain ⟨s, rfl, _, hs⟩ := DataW.trod_string ht h
  exact ⟨s, rfl, hs⟩
theorem addr_add (a : Addr) (x i : Nat) : a.add (x + i) = (a.add x).add i := by
  unfold Addr.add
  by_cases h1 : x = 0 <;> by_cases h2 : i = 0 <;> simp [h1, h2, Nat.add_assoc]
theorem opens_slice {α : Type} {kd : Kd α} {ok : α → Prop} (ht : P.underlying t = some (.slice e)) (hc : P.cellsOf e = kd.sz) (he : Opens P kd ok e) : Opens P (Kd.slice e kd) (OkList ok) t := by
  intro H enc W base spare held fuel cs x h
  rcases DataW.trod_slice ht h with ⟨rfl, _⟩ | ⟨a, len, cap, elems, rest, n, _, rfl, _, hb, hl, hm, hlen, hel, _, _⟩
  · exact ⟨[], ⟨none, 0, rfl, Nat.le_refl _, rfl, by simp, fun h0 => absurd h0 (Nat.lt_irrefl 0)⟩, by simp [maxLen], by simp⟩
  · have each : ∀ i, i < len → ∃ (y : α) (c : List Value), c.length = kd.sz ∧ kd.K W y c ∧ ok y ∧ ∀ j u, c[j]? = some u → W.cell? ((a.add (i * kd.sz)).add j) = some u := by
      intro i hi
      have h1 := hel i hi
      rw [hc, List.getElem?_eq_getElem (by omega), Option.bind_eq_some_iff] at h1
      obtain ⟨c, hcs, hy⟩ := h1
      obtain ⟨y, hK, hok⟩ := he enc W base spare held n c _ hy
      obtain ⟨_, hcl, hcell⟩ := World.cells?_some hcs
      refine ⟨y, c, kd.K_len hK, hK, hok, fun j u hj => ?_⟩
      have hjl : j < kd.sz := by have := (List.getElem?_eq_some_iff.1 hj).1; rw [kd.K_len hK] at this; exact this
      rw [hcell j hjl, hj]
    have pick : ∃ l : List α, l.length = len ∧ ∀ i y, l[i]? = some y → ∃ c : List Value, c.length = kd.sz ∧ kd.K W y c ∧ ok y ∧ ∀ j u, c[j]? = some u → W.cell? ((a.add (i * kd.sz)).add j) = some u := by
      have key : ∀ m, m ≤ len → ∃ l : List α, l.length = m ∧ ∀ i y, l[i]? = some y → ∃ c : List Value, c.length = kd.sz ∧ kd.K W y c ∧ ok y ∧ ∀ j u, c[j]? = some u → W.cell? ((a.add (i * kd.sz)).add j) = some u := by
        intro m
        induction m with
        | zero => intro _; exact ⟨[], rfl, fun i y h => by simp at h⟩
        | succ m ih =>
          intro hm
          obtain ⟨l, hl1, hl2⟩ := ih (by omega)
          obtain ⟨y, c, h1, h2, h3, h4⟩ := each m (by omega)
          refine ⟨l ++ [y], by simp [hl1], fun i z hz => ?_⟩
          rcases Nat.lt_or_ge i l.length with hi | hi
          · rw [List.getElem?_append_left hi] at hz
            exact hl2 i z hz
          · have : i = l.length := by
              have := (List.getElem?_eq_some_iff.1 hz).1
              rw [List.length_append, List.length_singleton] at this
              omega
            subst this
            have hz' : y = z := by simpa using hz
            subst hz'
            exact ⟨c, h1, h2, h3, by rw [hl1]; exact h4⟩
      exact key len (Nat.le_refl _)
    obtain ⟨l, hl1, hl2⟩ := pick
    subst hl1
    refine ⟨l, ⟨some a, cap, rfl, hl, rfl, by unfold maxLen at hm; omega, fun _ => ⟨a, rfl, fun j p hj => ?_⟩⟩, by omega, fun y hy => ?_⟩
    · obtain ⟨c, h1, h2, _, h4⟩ := hl2 j p hj
      refine ⟨c, h1, h2, fun i u hu => ?_⟩
      rw [← h4 i u hu, addr_add]
    · obtain ⟨i, hi⟩ := List.getElem?_of_mem hy
      obtain ⟨_, _, _, h3, _⟩ := hl2 i y hi
      exact h3

/-- The same of fields in line, from one place of the cells on. -/
def OpensF (P : Program) {α : Type} (kd : Kd α) (ok : α → Prop) (fs : List Field) (off len : Nat) : Prop :=
  ∀ {H : Type} (enc : TypeId × Value → H) (W : World) (base : Nat) (spare : Nat → Bool) (held : Bool) (n : Nat) (cs : List Value),
    (∀ f ∈ fs, ∃ y, DataW.trod enc P W base spare held n f.type ((cs.drop f.offset).take (P.cellsOf f.type)) = some y) → off + len ≤ cs.length → ∃ a, kd.K W a ((cs.drop off).take len) ∧ ok a
theorem opensF_one {α : Type} {kd : Kd α} {ok : α → Prop} {f : Field} {t off len : Nat} (h : Opens P kd ok t) (ht : f.type = t) (ho : f.offset = off) (hl : P.cellsOf t = len) : OpensF P kd ok [f] off len := by
  intro H enc W base spare held n cs hf _
  obtain ⟨y, hy⟩ := hf f List.mem_cons_self
  subst ht ho hl
  exact h enc W base spare held n _ y hy
theorem opensF_pair {α β : Type} {kd : Kd α} {kd' : Kd β} {ok : α → Prop} {ok' : β → Prop} {f : Field} {fs : List Field} {t off len len' : Nat} (h : Opens P kd ok t) (ht : f.type = t) (ho : f.offset = off) (hl : P.cellsOf t = len)
    (h' : OpensF P kd' ok' fs (off + len) len') : OpensF P (Kd.pair kd kd') (OkPair ok ok') (f :: fs) off (len + len') := by
  intro H enc W base spare held n cs hf hle
  obtain ⟨y, hy⟩ := hf f List.mem_cons_self
  subst ht ho hl
  obtain ⟨a, ha, hoka⟩ := h enc W base spare held n _ y hy
  obtain ⟨b, hb, hokb⟩ := h' enc W base spare held n cs (fun g hg => hf g (List.mem_cons_of_mem _ hg)) (by omega)
  refine ⟨(a, b), ⟨_, _, ?_, ha, hb⟩, hoka, hokb⟩
  rw [List.take_add, List.drop_drop]
theorem opens_struct {α β : Type} {kd : Kd α} {ok : α → Prop} {fs : Array Field} {len : Nat} (ht : P.underlying t = some (.struct fs)) (hc : P.cellsOf t = len) (h : OpensF P kd ok fs.toList 0 len) (f : β → α) (g : α → β) (hg : ∀ a, f (g a) = a) :
    Opens P (Kd.iso kd f) (fun b => ok (f b)) t := by
  intro H enc W base spare held fuel cs x hx
  obtain ⟨xs, n, _, _, hl, hlen, hf⟩ := DataW.trod_struct ht hx
  obtain ⟨a, ha, hok⟩ := h enc W base spare held n cs (fun fd hfd => by
    obtain ⟨i, hi⟩ := List.getElem?_of_mem hfd
    have h1 := hf i fd (by simpa using hi)
    have hi2 : i < xs.length := by
      have := (List.getElem?_eq_some_iff.1 hi).1
      rw [hlen]; simpa using this
    rw [List.getElem?_eq_getElem hi2] at h1
    exact ⟨_, h1⟩) (by omega)
  refine ⟨g a, ?_, by show ok (f (g a)); rw [hg]; exact hok⟩
  show kd.K W (f (g a)) cs
  rw [hg]
  have : (cs.drop 0).take len = cs := by rw [List.drop_zero]; exact List.take_of_length_le (by omega)
  rw [this] at ha
  exact ha
theorem opens_struct_id {α : Type} {kd : Kd α} {ok : α → Prop} {fs : Array Field} {len : Nat} (ht : P.underlying t = some (.struct fs)) (hc : P.cellsOf t = len) (h : OpensF P kd ok fs.toList 0 len) : Opens P kd ok t :=
  opens_struct ht hc h id id (fun _ => rfl)

/-! ### a parameter, opened -/
variable {H : Type} {enc : TypeId × Value → H} {W : World} {base : Nat} {spare : Nat → Bool} {held : Bool} {r : Reach} {b0 : Nat} {v : Value} {d : DataW H} {ps : List MemPlace}
theorem param_slice {α : Type} {kd : Kd α} {ok : List α → Prop} (ht : P.underlying t = some (.slice e)) (h : Opens P (Kd.slice e kd) ok t) (hval : Value.okWide P W r b0 t v) (hd : DataW.Trod enc P W base spare held t v d ps) :
    ∃ A c l, v = .slice A l.length c ∧ l.length ≤ c ∧ Kd.C kd W A l.length l ∧ ok l := by
  obtain ⟨a, len, cap, rfl⟩ := okWide_slice ht hval
  obtain ⟨fuel, hf⟩ := hd
  obtain ⟨l, ⟨A, c, hcs, hl, hC⟩, hok⟩ := h enc W base spare held fuel _ _ hf
  have : Value.slice a len cap = Value.slice A l.length c := by simpa [Value.cells] using hcs
  exact ⟨A, c, l, this, hl, hC, hok⟩
theorem param_struct {α : Type} {kd : Kd α} {ok : α → Prop} {fs : Array Field} (ht : P.underlying t = some (.struct fs)) (h : Opens P kd ok t) (hval : Value.okWide P W r b0 t v) (hd : DataW.Trod enc P W base spare held t v d ps) :
    ∃ cs a, v = .agg cs ∧ kd.K W a cs.toList ∧ ok a := by
  obtain ⟨cs, rfl, hsz⟩ := okWide_struct ht hval
  obtain ⟨fuel, hf⟩ := hd
  obtain ⟨a, hK, hok⟩ := h enc W base spare held fuel _ _ hf
  exact ⟨cs, a, rfl, hK, hok⟩
theorem agg_eq {cs : Array Value} {l : List Value} (h : cs.toList = l) : cs = l.toArray := by rw [← h]
end
end Go.Proofs.Ytfdpebipnapelaa.Opens
-- Written by a program of this session (xprint.py) over the kit's print.py.
namespace Go.Proofs.Ytfdpebipnapelaa.P
open Go.RowKit Go.Proofs.YtfdpebipnapelaaW.PrintWords Go.Proofs.YtfdpebipnapelaaW.PrintLast Go.Proofs.YtfdpebipnapelaaW.PrintMore
attribute [local go_sem] max2_int min2_int max_two min_two max_three min_three max_four min_four   -- for this text's walks alone
set_option linter.unusedVariables false
set_option linter.unusedSimpArgs false

/-! ### sextonref12_Own: function 13 -/
def sextonref12_Own.f (a0_0 : Int) (a0_1 : Int) (l0_2 : List Int) : Option (Int × Int × List Int) := if ([] : List Int).length + l0_2.length < 17592186044416 then (some (a0_0, a0_1, (([] : List Int) ++ l0_2))) else (none)
set_option maxHeartbeats 8000000 in
set_option maxRecDepth 100000 in
theorem sextonref12_Own.calls (a0_0 : Int) (a0_1 : Int) (A0_2 : Option Addr) (c0_2 : Nat) (l0_2 : List Int) (r1 : Int) (r2 : Int) (r3 : List Int) (w : World) (hr0_2 : Kd.C (Kd.int .i64) w A0_2 l0_2.length l0_2) (hc0_2 : l0_2.length ≤ c0_2) (h : sextonref12_Own.f a0_0 a0_1 l0_2 = some (r1, r2, r3)) :
    Calls Try.prog 13 #[.agg #[.int .i64 a0_0, .int .i64 a0_1, .slice A0_2 l0_2.length c0_2]] w fun e w' => ∃ v2_ : Value, e = .returned (.agg #[.int .i64 r1, .int .i64 r2, v2_]) ∧ Kd.R (Kd.int .i64) 3 w' w.heap.size (fun _ => True) v2_ r3 ∧ Below w.heap.size w w' := by
  have hu24 := Try.underlying24
  have HR0_2 := Aside0.mk hr0_2
  have HC0_2 := Aside0.mk hc0_2
  clear hr0_2 hc0_2
  have HB := Aside0.mk (Below.refl w.heap.size w)
  have H : (if ([] : List Int).length + l0_2.length < 17592186044416 then (some (a0_0, a0_1, (([] : List Int) ++ l0_2))) else (none)) = some (r1, r2, r3) := h
  clear h
  by_cases c2 : ([] : List Int).length + l0_2.length < 17592186044416
  · rw [if_pos c2] at H
    have LMc2 := Aside0.mk c2
    clear c2
    obtain ⟨y105, hy105⟩ : ∃ y_ : List Int, y_ = (([] : List Int) ++ l0_2) := ⟨_, rfl⟩
    replace H : (some (a0_0, a0_1, y105)) = some (r1, r2, r3) := by first | (rw [hy105]; with_reducible exact H) | (have H2_ := (Option.bind_some _ _).symm.trans H; rw [hy105]; with_reducible exact H2_) | (have H2_ := (Option.bind_some _ _).symm.trans H; with_reducible exact H2_) | with_reducible exact H | (rw [hy105]; exact H) | exact H
    have Ny105 := Aside0.mk hy105
    clear hy105
    simp only [Option.some.injEq, Prod.mk.injEq] at H
    obtain ⟨rfl, rfl, rfl⟩ := H
    go_enter Try.func13, Try.ntmps13
    go_wp2_with (first | ((with_reducible refine gate_dst (N := 1) rfl ?_); refine box_event ?hg (N := 1) ?hd (cs := #[.int .i64 a0_0, .int .i64 a0_1, .slice A0_2 l0_2.length c0_2]) (t := 24) ?hr ?_; (case hd => rfl); (case hg => rfl); (case hr => first | (go_simp; done) | (go_simp; rfl)); intro gb102 hg w3 hbox hb; have n0_ := Aside0.mk (below_step (by repeat (first | (with_reducible first | exact HB.out | apply below_alloc | apply pw_below_drewN | apply below_drew1) | exact HB.out)) hb); have n1_ := Aside0.mk (hbox); have n2_ := Aside0.mk ((by rw [hg]; exact (below_size (by repeat (first | (with_reducible first | exact HB.out | apply below_alloc | apply pw_below_drewN | apply below_drew1) | exact HB.out))) : w.heap.size ≤ gb102)); have n3_ := Aside0.mk ((by rw [hg]; exact (below_size (by repeat (first | (with_reducible first | exact HB.out | apply below_alloc | apply pw_below_drewN | apply below_drew1) | exact HB.out))) : w.heap.size ≤ gb102)); clear HB; have HB := n0_; have BK102 := n1_; have GW102 := n2_; have GE102 := n3_; clear n0_ n1_ n2_ n3_; clear hb hbox hg) | ((with_reducible refine gate_dst (N := 2) rfl ?_); refine box_event ?hg (N := 2) ?hd (cs := #[.int .i64 0, .int .i64 0, .slice none 0 0]) (t := 24) ?hr ?_; (case hd => rfl); (case hg => rfl); (case hr => first | (go_simp; done) | (go_simp; rfl)); intro gb103 hg w4 hbox hb; have n0_ := Aside0.mk (blk_below (g := gb102) (o := .cells #[.int .i64 a0_0, .int .i64 a0_1, .slice A0_2 l0_2.length c0_2] 24 (0, 0)) (by (with_reducible repeat (first | refine blk_drewN ?_ _ | refine blk_drew ?_ | refine blk_alloc ?_ _)); exact BK102.out) hb); have n1_ := Aside0.mk (below_step (by repeat (first | (with_reducible first | exact HB.out | apply below_alloc | apply pw_below_drewN | apply below_drew1 | refine below_set ?_ GE102.out) | exact HB.out)) hb); have n2_ := Aside0.mk (hbox); have n3_ := Aside0.mk ((by rw [hg]; exact (below_size (by repeat (first | (with_reducible first | exact HB.out | apply below_alloc | apply pw_below_drewN | apply below_drew1 | refine below_set ?_ GE102.out) | exact HB.out))) : w.heap.size ≤ gb103)); have n4_ := Aside0.mk ((by rw [hg]; exact (below_size (by repeat (first | (with_reducible first | exact HB.out | apply below_alloc | apply pw_below_drewN | apply below_drew1 | refine below_set ?_ GE102.out) | exact HB.out))) : w.heap.size ≤ gb103)); have n5_ := Aside0.mk ((by rw [hg]; exact Nat.ne_of_lt (blk_lt (g := gb102) (o := .cells #[.int .i64 a0_0, .int .i64 a0_1, .slice A0_2 l0_2.length c0_2] 24 (0, 0)) (by (with_reducible repeat (first | refine blk_drewN ?_ _ | refine blk_drew ?_ | refine blk_alloc ?_ _)); exact BK102.out)) : gb102 ≠ gb103)); have n6_ := Aside0.mk ((by rw [hg]; exact Nat.ne_of_gt (blk_lt (g := gb102) (o := .cells #[.int .i64 a0_0, .int .i64 a0_1, .slice A0_2 l0_2.length c0_2] 24 (0, 0)) (by (with_reducible repeat (first | refine blk_drewN ?_ _ | refine blk_drew ?_ | refine blk_alloc ?_ _)); exact BK102.out)) : gb103 ≠ gb102)); clear BK102; clear HB; have BK102 := n0_; have HB := n1_; have BK103 := n2_; have GW103 := n3_; have GE103 := n4_; have NB102_103 := n5_; have NB103_102 := n6_; clear n0_ n1_ n2_ n3_ n4_ n5_ n6_; clear hb hbox hg; have hnb5 := NB102_103.out; have hnc5 := NB103_102.out; have hcz6_0 : w4.cell? ⟨gb102, 0, none⟩ = some (.int .i64 a0_0) := (blk_cell BK102.out 0).trans rfl; have hcz6_1 : w4.cell? ⟨gb102, 1, none⟩ = some (.int .i64 a0_1) := (blk_cell BK102.out 1).trans rfl; have hcz6_2 : w4.cell? ⟨gb102, 2, none⟩ = some (.slice A0_2 l0_2.length c0_2) := (blk_cell BK102.out 2).trans rfl; have hfz6_0 := blk_frozen BK102.out 0; have hfz6_1 := blk_frozen BK102.out 1; have hfz6_2 := blk_frozen BK102.out 2) | ((with_reducible refine gate_dst (N := 3) rfl ?_); refine box_event ?hg (N := 3) ?hd (cs := #[.int .i64 0, .int .i64 0, .slice none 0 0]) (t := 24) ?hr ?_; (case hd => rfl); (case hg => rfl); (case hr => first | (go_simp; done) | (go_simp; rfl)); intro gb104 hg w7 hbox hb; have n0_ := Aside0.mk (blk_below (g := gb102) (o := .cells #[.int .i64 a0_0, .int .i64 a0_1, .slice A0_2 l0_2.length c0_2] 24 (0, 0)) (by (with_reducible repeat (first | refine blk_drewN ?_ _ | refine blk_drew ?_ | refine blk_alloc ?_ _)); exact BK102.out) hb); have n1_ := Aside0.mk (blk_below (g := gb103) (o := .cells #[.int .i64 0, .int .i64 0, .slice none 0 0] 24 (0, 0)) (by (with_reducible repeat (first | refine blk_drewN ?_ _ | refine blk_drew ?_ | refine blk_alloc ?_ _)); exact BK103.out) hb); have n2_ := Aside0.mk (below_step (by repeat (first | (with_reducible first | exact HB.out | apply below_alloc | apply pw_below_drewN | apply below_drew1 | refine below_set ?_ GE102.out | refine below_set ?_ GE103.out) | exact HB.out)) hb); have n3_ := Aside0.mk (hbox); have n4_ := Aside0.mk ((by rw [hg]; exact (below_size (by repeat (first | (with_reducible first | exact HB.out | apply below_alloc | apply pw_below_drewN | apply below_drew1 | refine below_set ?_ GE102.out | refine below_set ?_ GE103.out) | exact HB.out))) : w.heap.size ≤ gb104)); have n5_ := Aside0.mk ((by rw [hg]; exact (below_size (by repeat (first | (with_reducible first | exact HB.out | apply below_alloc | apply pw_below_drewN | apply below_drew1 | refine below_set ?_ GE102.out | refine below_set ?_ GE103.out) | exact HB.out))) : w.heap.size ≤ gb104)); have n6_ := Aside0.mk ((by rw [hg]; exact Nat.ne_of_lt (blk_lt (g := gb102) (o := .cells #[.int .i64 a0_0, .int .i64 a0_1, .slice A0_2 l0_2.length c0_2] 24 (0, 0)) (by (with_reducible repeat (first | refine blk_drewN ?_ _ | refine blk_drew ?_ | refine blk_alloc ?_ _)); exact BK102.out)) : gb102 ≠ gb104)); have n7_ := Aside0.mk ((by rw [hg]; exact Nat.ne_of_gt (blk_lt (g := gb102) (o := .cells #[.int .i64 a0_0, .int .i64 a0_1, .slice A0_2 l0_2.length c0_2] 24 (0, 0)) (by (with_reducible repeat (first | refine blk_drewN ?_ _ | refine blk_drew ?_ | refine blk_alloc ?_ _)); exact BK102.out)) : gb104 ≠ gb102)); have n8_ := Aside0.mk ((by rw [hg]; exact Nat.ne_of_lt (blk_lt (g := gb103) (o := .cells #[.int .i64 0, .int .i64 0, .slice none 0 0] 24 (0, 0)) (by (with_reducible repeat (first | refine blk_drewN ?_ _ | refine blk_drew ?_ | refine blk_alloc ?_ _)); exact BK103.out)) : gb103 ≠ gb104)); have n9_ := Aside0.mk ((by rw [hg]; exact Nat.ne_of_gt (blk_lt (g := gb103) (o := .cells #[.int .i64 0, .int .i64 0, .slice none 0 0] 24 (0, 0)) (by (with_reducible repeat (first | refine blk_drewN ?_ _ | refine blk_drew ?_ | refine blk_alloc ?_ _)); exact BK103.out)) : gb104 ≠ gb103)); clear BK102; clear BK103; clear HB; have BK102 := n0_; have BK103 := n1_; have HB := n2_; have BK104 := n3_; have GW104 := n4_; have GE104 := n5_; have NB102_104 := n6_; have NB104_102 := n7_; have NB103_104 := n8_; have NB104_103 := n9_; clear n0_ n1_ n2_ n3_ n4_ n5_ n6_ n7_ n8_ n9_; clear hb hbox hg; have hnb8 := NB104_102.out; have hnc8 := NB102_104.out; have hnb9 := NB104_103.out; have hnc9 := NB103_104.out; have hcz10_0 : w7.cell? ⟨gb104, 0, none⟩ = some (.int .i64 0) := (blk_cell BK104.out 0).trans rfl; have hcz10_1 : w7.cell? ⟨gb104, 1, none⟩ = some (.int .i64 0) := (blk_cell BK104.out 1).trans rfl; have hcz10_2 : w7.cell? ⟨gb104, 2, none⟩ = some (.slice none 0 0) := (blk_cell BK104.out 2).trans rfl; have hfz10_0 := blk_frozen BK104.out 0; have hfz10_1 := blk_frozen BK104.out 1; have hfz10_2 := blk_frozen BK104.out 2; have hcz11_0 : w7.cell? ⟨gb102, 0, none⟩ = some (.int .i64 a0_0) := (blk_cell BK102.out 0).trans rfl; have hcz11_1 : w7.cell? ⟨gb102, 1, none⟩ = some (.int .i64 a0_1) := (blk_cell BK102.out 1).trans rfl; have hcz11_2 : w7.cell? ⟨gb102, 2, none⟩ = some (.slice A0_2 l0_2.length c0_2) := (blk_cell BK102.out 2).trans rfl; have hfz11_0 := blk_frozen BK102.out 0; have hfz11_1 := blk_frozen BK102.out 1; have hfz11_2 := blk_frozen BK102.out 2) | ((with_reducible refine gate_builtin (b := .append) (xs := #[.tmp 10, .tmp 12]) rfl ?_); at_builtin; refine Kd.R_append_rows (Kd.int .i64) (w0 := w) w.heap.size rfl (.tmp 10) (.tmp 12) 22 3 (.int .i64 0) 8 rfl Try.underlying22 info3 rfl (by decide) (by omega) (.slice none 0 0) ([] : List Int) l0_2 _ _ _ (fun _ => True) (fun _ => False) rfl rfl ?aO ?aR (fun _ _ h => h) (fun _ h => h.elim) ?aF ?aB ?aS ?aL ?_; (case aR => exact Kd.C_below HR0_2.out (by repeat (first | (with_reducible first | exact HB.out | apply below_alloc | apply pw_below_drewN | apply below_drew1 | refine below_set ?_ GE102.out | refine below_set ?_ GE103.out | refine below_set ?_ GE104.out) | exact HB.out))); (case aB => exact (by repeat (first | (with_reducible first | exact HB.out | apply below_alloc | apply pw_below_drewN | apply below_drew1 | refine below_set ?_ GE102.out | refine below_set ?_ GE103.out | refine below_set ?_ GE104.out) | exact HB.out))); (case aF => exact (fun _ _ => trivial)); (case aO => exact ((Kd.R_nil _ _ _ _ (fun _ => True)))); (case aS => exact (below_size (by repeat (first | (with_reducible first | exact HB.out | apply below_alloc | apply pw_below_drewN | apply below_drew1 | refine below_set ?_ GE102.out | refine below_set ?_ GE103.out | refine below_set ?_ GE104.out) | exact HB.out)))); (case aL => have := LMc2.out; omega); intro v106 w12 ho hb hg hat; rw [← Ny105.out] at ho; have n0_ := Aside0.mk (blk_grown (g := gb102) (o := .cells #[.int .i64 a0_0, .int .i64 a0_1, .slice A0_2 l0_2.length c0_2] 24 (0, 0)) (by (with_reducible repeat (first | refine blk_drewN ?_ _ | refine blk_drew ?_ | refine blk_alloc ?_ _)); refine blk_far ?_ NB102_104.out _; (with_reducible repeat (first | refine blk_drewN ?_ _ | refine blk_drew ?_ | refine blk_alloc ?_ _)); refine blk_far ?_ NB102_104.out _; (with_reducible repeat (first | refine blk_drewN ?_ _ | refine blk_drew ?_ | refine blk_alloc ?_ _)); refine blk_far ?_ NB102_104.out _; (with_reducible repeat (first | refine blk_drewN ?_ _ | refine blk_drew ?_ | refine blk_alloc ?_ _)); exact BK102.out) hg (by simp [Value.ownBlock])); have n1_ := Aside0.mk (blk_grown (g := gb103) (o := .cells #[.int .i64 0, .int .i64 0, .slice none 0 0] 24 (0, 0)) (by (with_reducible repeat (first | refine blk_drewN ?_ _ | refine blk_drew ?_ | refine blk_alloc ?_ _)); refine blk_far ?_ NB103_104.out _; (with_reducible repeat (first | refine blk_drewN ?_ _ | refine blk_drew ?_ | refine blk_alloc ?_ _)); refine blk_far ?_ NB103_104.out _; (with_reducible repeat (first | refine blk_drewN ?_ _ | refine blk_drew ?_ | refine blk_alloc ?_ _)); refine blk_far ?_ NB103_104.out _; (with_reducible repeat (first | refine blk_drewN ?_ _ | refine blk_drew ?_ | refine blk_alloc ?_ _)); exact BK103.out) hg (by simp [Value.ownBlock])); have n2_ := Aside0.mk (blk_grown (g := gb104) (o := .cells #[.int .i64 a0_0, .int .i64 a0_1, .slice none 0 0] 24 (0, 0)) (by (with_reducible repeat (first | refine blk_drewN ?_ _ | refine blk_drew ?_ | refine blk_alloc ?_ _)); refine blk_put (cs := #[.int .i64 a0_0, .int .i64 a0_1, .slice none 0 0]) ?_ 2 _ rfl; (with_reducible repeat (first | refine blk_drewN ?_ _ | refine blk_drew ?_ | refine blk_alloc ?_ _)); refine blk_put (cs := #[.int .i64 a0_0, .int .i64 0, .slice none 0 0]) ?_ 1 _ rfl; (with_reducible repeat (first | refine blk_drewN ?_ _ | refine blk_drew ?_ | refine blk_alloc ?_ _)); refine blk_put (cs := #[.int .i64 0, .int .i64 0, .slice none 0 0]) ?_ 0 _ rfl; (with_reducible repeat (first | refine blk_drewN ?_ _ | refine blk_drew ?_ | refine blk_alloc ?_ _)); exact BK104.out) hg (by simp [Value.ownBlock])); have n3_ := Aside0.mk (hb); have n4_ := Aside0.mk (ho); clear BK102; clear BK103; clear BK104; clear HB; have BK102 := n0_; have BK103 := n1_; have BK104 := n2_; have HB := n3_; have HO107 := n4_; clear n0_ n1_ n2_ n3_ n4_; clear ho hb hg hat; obtain ⟨Ao13, co13, eo13⟩ := Kd.R_slice HO107.out; subst eo13; have hcz14_0 : w12.cell? ⟨gb104, 0, none⟩ = some (.int .i64 a0_0) := (blk_cell BK104.out 0).trans rfl; have hcz14_1 : w12.cell? ⟨gb104, 1, none⟩ = some (.int .i64 a0_1) := (blk_cell BK104.out 1).trans rfl; have hcz14_2 : w12.cell? ⟨gb104, 2, none⟩ = some (.slice none 0 0) := (blk_cell BK104.out 2).trans rfl; have hfz14_0 := blk_frozen BK104.out 0; have hfz14_1 := blk_frozen BK104.out 1; have hfz14_2 := blk_frozen BK104.out 2; have hcz15_0 : w12.cell? ⟨gb103, 0, none⟩ = some (.int .i64 0) := (blk_cell BK103.out 0).trans rfl; have hcz15_1 : w12.cell? ⟨gb103, 1, none⟩ = some (.int .i64 0) := (blk_cell BK103.out 1).trans rfl; have hcz15_2 : w12.cell? ⟨gb103, 2, none⟩ = some (.slice none 0 0) := (blk_cell BK103.out 2).trans rfl; have hfz15_0 := blk_frozen BK103.out 0; have hfz15_1 := blk_frozen BK103.out 1; have hfz15_2 := blk_frozen BK103.out 2))
    refine bodyPost_ret (results_cell_row rfl _ _ gb103 24 #[.int .i64 a0_0, .int .i64 a0_1, .slice Ao13 y105.length co13] (0, 0) _ rfl (by (with_reducible repeat (first | refine blk_drewN ?_ _ | refine blk_drew ?_ | refine blk_alloc ?_ _)); refine blk_put (cs := #[.int .i64 a0_0, .int .i64 a0_1, .slice none 0 0]) ?_ 2 _ rfl; (with_reducible repeat (first | refine blk_drewN ?_ _ | refine blk_drew ?_ | refine blk_alloc ?_ _)); refine blk_put (cs := #[.int .i64 a0_0, .int .i64 0, .slice none 0 0]) ?_ 1 _ rfl; (with_reducible repeat (first | refine blk_drewN ?_ _ | refine blk_drew ?_ | refine blk_alloc ?_ _)); refine blk_put (cs := #[.int .i64 0, .int .i64 0, .slice none 0 0]) ?_ 0 _ rfl; (with_reducible repeat (first | refine blk_drewN ?_ _ | refine blk_drew ?_ | refine blk_alloc ?_ _)); refine blk_far ?_ NB103_104.out _; (with_reducible repeat (first | refine blk_drewN ?_ _ | refine blk_drew ?_ | refine blk_alloc ?_ _)); exact BK103.out) Try.underlying24 rfl (by kernel_rfl)) rfl ?_
    exact ⟨_, by first | rfl | (simp [errW_none, errW_some] <;> rfl) | (simp [*, errW_none, errW_some] <;> rfl), by (with_reducible repeat (first | apply Kd.R_alloc | apply Kd.R_drewN | apply Kd.R_drew)); exact Kd.R_mono (Kd.R_far (p := ⟨gb103, 2, none⟩) (Kd.R_far (p := ⟨gb103, 1, none⟩) (Kd.R_far (p := ⟨gb103, 0, none⟩) (Kd.R_far (p := ⟨gb104, 2, none⟩) (Kd.R_types (Kd.R_types HO107.out BK104.out (by decide)) BK103.out (by decide)) (fun _ hk => hk.1.2) (.slice Ao13 y105.length co13)) (fun _ hk => hk.2) (.int .i64 a0_0)) (fun _ hk => hk.2) (.int .i64 a0_1)) (fun _ hk => hk.2) (.slice Ao13 y105.length co13)) (fun _ hk => trivial), by repeat (first | (with_reducible first | exact HB.out | apply below_alloc | apply pw_below_drewN | apply below_drew1 | refine below_set ?_ GE102.out | refine below_set ?_ GE103.out | refine below_set ?_ GE104.out) | exact HB.out)⟩
  · rw [if_neg c2] at H
    exact absurd H (by simp)

end Go.Proofs.Ytfdpebipnapelaa.P
-- Written by a program of this session (xprint.py) over the kit's print.py.
namespace Go.Proofs.Ytfdpebipnapelaa.P
open Go.RowKit Go.Proofs.YtfdpebipnapelaaW.PrintWords Go.Proofs.YtfdpebipnapelaaW.PrintLast Go.Proofs.YtfdpebipnapelaaW.PrintMore
attribute [local go_sem] max2_int min2_int max_two min_two max_three min_three max_four min_four   -- for this text's walks alone
set_option linter.unusedVariables false
set_option linter.unusedSimpArgs false

/-! ### sextonref12_Put: function 15 -/
def sextonref12_Put.l0 : Nat → List Int → ByteArray → Int → Option (ByteArray × Int)
  | 0, _, _, _ => none
  | k + 1, x4, x5, x6 => if x6 < (x4.length : Int) then (if 0 ≤ x6 then ((sextonref01_Number.f k (rd x4 x6)).bind fun bt131 => (if x5.size + bt131.1.size ≤ 9223372036854775807 then (sextonref12_Put.l0 k x4 (x5 ++ bt131.1) (wrap64 (x6 + 1))) else (none))) else (none)) else (some (x5, 0))
def sextonref12_Put.f (k : Nat) (a0_0 : Int) (a0_1 : Int) (l0_2 : List Int) : Option (ByteArray × Int) := (sextonref12_Is.f k a0_0 a0_1 l0_2).bind fun t123 => (if t123 = true then ((some (([a0_0, a0_1, (l0_2.length : Int)] : List Int) : List Int)).bind fun y124 => (if y124.length + l0_2.length < 17592186044416 then (sextonref12_Put.l0 k (y124 ++ l0_2) (⟨#[]⟩ : ByteArray) 0) else (none))) else (some ((⟨#[]⟩ : ByteArray), 1)))
theorem sextonref12_Put.mono_l : ∀ k, (∀ y0 y1 y2, LeO (sextonref12_Put.l0 k y0 y1 y2) (sextonref12_Put.l0 (k + 1) y0 y1 y2))
  | 0 => fun _ _ _ r h => by simp [sextonref12_Put.l0] at h
  | k + 1 => by
    have ih0 := sextonref12_Put.mono_l k
    · intro y0 y1 y2
      unfold sextonref12_Put.l0
      repeat' first
      | (with_reducible exact ih0 _ _ _)
      | (with_reducible exact sextonref01_Number.mono _ _)
      | (with_reducible exact sextonref12_Is.mono _ _ _ _)
      | (with_reducible exact LeO.refl _)
      | (with_reducible exact LeO.none _)
      | (with_reducible refine LeO.ite ?_ ?_)
      | (with_reducible refine LeO.bind ?_ (fun _ => ?_))
      | exact ih0 _ _ _
      | exact sextonref01_Number.mono _ _
      | exact sextonref12_Is.mono _ _ _ _
      | exact LeO.none _
      | refine LeO.ite ?_ ?_
      | refine LeO.bind ?_ (fun _ => ?_)
theorem sextonref12_Put.mono : ∀ a0 a1 a2 k, LeO (sextonref12_Put.f k a0 a1 a2) (sextonref12_Put.f (k + 1) a0 a1 a2) := by
  intro a0 a1 a2 k
  have ih0 := sextonref12_Put.mono_l k
  unfold sextonref12_Put.f
  repeat' first
      | (with_reducible exact ih0 _ _ _)
      | (with_reducible exact sextonref01_Number.mono _ _)
      | (with_reducible exact sextonref12_Is.mono _ _ _ _)
      | (with_reducible exact LeO.refl _)
      | (with_reducible exact LeO.none _)
      | (with_reducible refine LeO.ite ?_ ?_)
      | (with_reducible refine LeO.bind ?_ (fun _ => ?_))
      | exact ih0 _ _ _
      | exact sextonref01_Number.mono _ _
      | exact sextonref12_Is.mono _ _ _ _
      | exact LeO.none _
      | refine LeO.ite ?_ ?_
      | refine LeO.bind ?_ (fun _ => ?_)
set_option maxHeartbeats 8000000 in
set_option maxRecDepth 100000 in
theorem sextonref12_Put.calls (k : Nat) (a0_0 : Int) (a0_1 : Int) (A0_2 : Option Addr) (c0_2 : Nat) (l0_2 : List Int) (r1 : ByteArray) (r2 : Int) (w : World) (hr0_2 : Kd.C (Kd.int .i64) w A0_2 l0_2.length l0_2) (hc0_2 : l0_2.length ≤ c0_2) (h : sextonref12_Put.f k a0_0 a0_1 l0_2 = some (r1, r2)) :
    Calls Try.prog 15 #[.agg #[.int .i64 a0_0, .int .i64 a0_1, .slice A0_2 l0_2.length c0_2]] w fun e w' => e = .returned (.tuple #[.string r1, .int .i64 r2]) ∧ Below w.heap.size w w' := by
  have hu24 := Try.underlying24
  have HR0_2 := Aside0.mk hr0_2
  have HC0_2 := Aside0.mk hc0_2
  clear hr0_2 hc0_2
  have HB := Aside0.mk (Below.refl w.heap.size w)
  have H : ((sextonref12_Is.f k a0_0 a0_1 l0_2).bind fun t123 => (if t123 = true then ((some (([a0_0, a0_1, (l0_2.length : Int)] : List Int) : List Int)).bind fun y124 => (if y124.length + l0_2.length < 17592186044416 then (sextonref12_Put.l0 k (y124 ++ l0_2) (⟨#[]⟩ : ByteArray) 0) else (none))) else (some ((⟨#[]⟩ : ByteArray), 1)))) = some (r1, r2) := h
  clear h
  replace H := Option.bind_eq_some_iff.mp H
  obtain ⟨t123, A20, H⟩ := H
  replace H : (if t123 = true then ((some (([a0_0, a0_1, (l0_2.length : Int)] : List Int) : List Int)).bind fun y124 => (if y124.length + l0_2.length < 17592186044416 then (sextonref12_Put.l0 k (y124 ++ l0_2) (⟨#[]⟩ : ByteArray) 0) else (none))) else (some ((⟨#[]⟩ : ByteArray), 1))) = some (r1, r2) := H
  have A2 := Aside0.mk A20
  clear A20
  by_cases c3 : t123 = true
  · subst c3
    have H1 : ((some (([a0_0, a0_1, (l0_2.length : Int)] : List Int) : List Int)).bind fun y124 => (if y124.length + l0_2.length < 17592186044416 then (sextonref12_Put.l0 k (y124 ++ l0_2) (⟨#[]⟩ : ByteArray) 0) else (none))) = some (r1, r2) := by rw [if_pos rfl] at H; exact H
    clear H
    have H := H1
    clear H1
    obtain ⟨y124, hy124⟩ : ∃ y_ : List Int, y_ = (([a0_0, a0_1, (l0_2.length : Int)] : List Int)) := ⟨_, rfl⟩
    replace H : (if y124.length + l0_2.length < 17592186044416 then (sextonref12_Put.l0 k (y124 ++ l0_2) (⟨#[]⟩ : ByteArray) 0) else (none)) = some (r1, r2) := by first | (rw [hy124]; with_reducible exact H) | (have H2_ := (Option.bind_some _ _).symm.trans H; rw [hy124]; with_reducible exact H2_) | (have H2_ := (Option.bind_some _ _).symm.trans H; with_reducible exact H2_) | with_reducible exact H | (rw [hy124]; exact H) | exact H
    have Ny124 := Aside0.mk hy124
    clear hy124
    by_cases c4 : y124.length + l0_2.length < 17592186044416
    · rw [if_pos c4] at H
      have LMc4 := Aside0.mk c4
      clear c4
      obtain ⟨y127, hy127⟩ : ∃ y_ : List Int, y_ = (y124 ++ l0_2) := ⟨_, rfl⟩
      replace H : (sextonref12_Put.l0 k y127 (⟨#[]⟩ : ByteArray) 0) = some (r1, r2) := by first | (rw [hy127]; with_reducible exact H) | (have H2_ := (Option.bind_some _ _).symm.trans H; rw [hy127]; with_reducible exact H2_) | (have H2_ := (Option.bind_some _ _).symm.trans H; with_reducible exact H2_) | with_reducible exact H | (rw [hy127]; exact H) | exact H
      have Ny127 := Aside0.mk hy127
      clear hy127
      have H' := Aside0.mk H
      clear H
      go_enter Try.func15, Try.ntmps15
      go_wp2_with (first | ((with_reducible refine gate_dst (N := 1) rfl ?_); refine box_event ?hg (N := 1) ?hd (cs := #[.int .i64 a0_0, .int .i64 a0_1, .slice A0_2 l0_2.length c0_2]) (t := 24) ?hr ?_; (case hd => rfl); (case hg => rfl); (case hr => first | (go_simp; done) | (go_simp; rfl)); intro gb122 hg w5 hbox hb; have n0_ := Aside0.mk (below_step (by repeat (first | (with_reducible first | exact HB.out | apply below_alloc | apply pw_below_drewN | apply below_drew1) | exact HB.out)) hb); have n1_ := Aside0.mk (hbox); have n2_ := Aside0.mk ((by rw [hg]; exact (below_size (by repeat (first | (with_reducible first | exact HB.out | apply below_alloc | apply pw_below_drewN | apply below_drew1) | exact HB.out))) : w.heap.size ≤ gb122)); have n3_ := Aside0.mk ((by rw [hg]; exact (below_size (by repeat (first | (with_reducible first | exact HB.out | apply below_alloc | apply pw_below_drewN | apply below_drew1) | exact HB.out))) : w.heap.size ≤ gb122)); clear HB; have HB := n0_; have BK122 := n1_; have GW122 := n2_; have GE122 := n3_; clear n0_ n1_ n2_ n3_; clear hb hbox hg; have hcz6_0 : w5.cell? ⟨gb122, 0, none⟩ = some (.int .i64 a0_0) := (blk_cell BK122.out 0).trans rfl; have hcz6_1 : w5.cell? ⟨gb122, 1, none⟩ = some (.int .i64 a0_1) := (blk_cell BK122.out 1).trans rfl; have hcz6_2 : w5.cell? ⟨gb122, 2, none⟩ = some (.slice A0_2 l0_2.length c0_2) := (blk_cell BK122.out 2).trans rfl; have hfz6_0 := blk_frozen BK122.out 0; have hfz6_1 := blk_frozen BK122.out 1; have hfz6_2 := blk_frozen BK122.out 2) | ((with_reducible refine gate_callee (f := 24) rfl ?_); refine goesL_ (some 10) rfl rfl Try.func24 (by kernel_rfl) rfl #[.agg #[.int .i64 a0_0, .int .i64 a0_1, .slice A0_2 l0_2.length c0_2]] rfl (by (try simp only [List.map_toArray, List.map_cons, List.map_nil]); first | done | rfl | (simp only [List.length_drop, List.length_take]; rfl)) ?_; (with_reducible refine (sextonref12_Is.calls k a0_0 a0_1 _ _ l0_2 true _ ?side1 ?side2 A2.out).mono ?_); (case side1 => repeat (first | exact (Kd.C_below HR0_2.out HB.out) | (with_reducible refine Kd.C_alloc ?_ _) | (with_reducible refine Kd.C_drewN ?_ _) | (with_reducible refine Kd.C_drew ?_))); (case side2 => exact HC0_2.out); rintro e w7 ⟨rfl, hb⟩; refine ⟨_, rfl, ?_⟩; have n0_ := Aside0.mk (blk_below (g := gb122) (o := .cells #[.int .i64 a0_0, .int .i64 a0_1, .slice A0_2 l0_2.length c0_2] 24 (0, 0)) (by (with_reducible repeat (first | refine blk_drewN ?_ _ | refine blk_drew ?_ | refine blk_alloc ?_ _)); exact BK122.out) hb); have n1_ := Aside0.mk (below_step (by repeat (first | (with_reducible first | exact HB.out | apply below_alloc | apply pw_below_drewN | apply below_drew1 | refine below_set ?_ GE122.out) | exact HB.out)) hb); clear BK122; clear HB; have BK122 := n0_; have HB := n1_; clear n0_ n1_; (try clear hb); (try clear hb2); (try clear hk); (try clear hi); have hcz8_0 : w7.cell? ⟨gb122, 0, none⟩ = some (.int .i64 a0_0) := (blk_cell BK122.out 0).trans rfl; have hcz8_1 : w7.cell? ⟨gb122, 1, none⟩ = some (.int .i64 a0_1) := (blk_cell BK122.out 1).trans rfl; have hcz8_2 : w7.cell? ⟨gb122, 2, none⟩ = some (.slice A0_2 l0_2.length c0_2) := (blk_cell BK122.out 2).trans rfl; have hfz8_0 := blk_frozen BK122.out 0; have hfz8_1 := blk_frozen BK122.out 1; have hfz8_2 := blk_frozen BK122.out 2) | ((with_reducible refine gate_dst (N := 19) rfl ?_); refine Kd.R_lit (Kd.int .i64) _ 3 ?hg (N := 19) ?hd (xs := ([a0_0, a0_1, (l0_2.length : Int)] : List Int)) (inner := [.int .i64 a0_0, .int .i64 a0_1, .int .i64 (l0_2.length : Int)]) (ok := fun _ => True) (okp := fun _ => True) ?hr ?hp (fun _ hk => hk) trivial (Below.refl _ _) (Nat.le_refl _) (by simp) ?_; (case hd => rfl); (case hg => rfl); (case hr => first | (go_simp; done) | (go_simp; rfl)); (case hp => exact (Reps.one (show Kd.M (Kd.int .i64) _ _ _ a0_0 [.int .i64 a0_0] from rfl) (Reps.one (show Kd.M (Kd.int .i64) _ _ _ a0_1 [.int .i64 a0_1] from rfl) (Reps.one (show Kd.M (Kd.int .i64) _ _ _ (l0_2.length : Int) [.int .i64 (l0_2.length : Int)] from rfl) (Reps.none _ _))))); intro v125 w9 ho10 hb hg_ hnew_; clear hg_ hnew_; (first | rw [← Ny124.out] at ho10 | (simp only [Int.reduceToNat] at ho10; rw [← Ny124.out] at ho10)); have n0_ := Aside0.mk (Kd.R_lower ho10 (below_size (by repeat (first | (with_reducible first | exact HB.out | apply below_alloc | apply pw_below_drewN | apply below_drew1 | refine below_set ?_ GE122.out) | exact HB.out)))); have n1_ := Aside0.mk (blk_below (g := gb122) (o := .cells #[.int .i64 a0_0, .int .i64 a0_1, .slice A0_2 l0_2.length c0_2] 24 (0, 0)) (by (with_reducible repeat (first | refine blk_drewN ?_ _ | refine blk_drew ?_ | refine blk_alloc ?_ _)); exact BK122.out) hb); have n2_ := Aside0.mk (below_step (by repeat (first | (with_reducible first | exact HB.out | apply below_alloc | apply pw_below_drewN | apply below_drew1 | refine below_set ?_ GE122.out) | exact HB.out)) hb); clear BK122; clear HB; have HO126 := n0_; have BK122 := n1_; have HB := n2_; clear n0_ n1_ n2_; clear hb ho10; have hcz11_0 : w9.cell? ⟨gb122, 0, none⟩ = some (.int .i64 a0_0) := (blk_cell BK122.out 0).trans rfl; have hcz11_1 : w9.cell? ⟨gb122, 1, none⟩ = some (.int .i64 a0_1) := (blk_cell BK122.out 1).trans rfl; have hcz11_2 : w9.cell? ⟨gb122, 2, none⟩ = some (.slice A0_2 l0_2.length c0_2) := (blk_cell BK122.out 2).trans rfl; have hfz11_0 := blk_frozen BK122.out 0; have hfz11_1 := blk_frozen BK122.out 1; have hfz11_2 := blk_frozen BK122.out 2) | ((with_reducible refine gate_builtin (b := .append) (xs := #[.tmp 20, .tmp 22]) rfl ?_); at_builtin; refine Kd.R_append_rows (Kd.int .i64) (w0 := w) w.heap.size rfl (.tmp 20) (.tmp 22) 22 3 (.int .i64 0) 8 rfl Try.underlying22 info3 rfl (by decide) (by omega) v125 y124 l0_2 _ _ _ (fun _ => True) (fun _ => False) rfl rfl ?aO ?aR (fun _ _ h => h) (fun _ h => h.elim) ?aF ?aB ?aS ?aL ?_; (case aR => repeat (first | exact (Kd.C_below HR0_2.out HB.out) | (with_reducible refine Kd.C_alloc ?_ _) | (with_reducible refine Kd.C_drewN ?_ _) | (with_reducible refine Kd.C_drew ?_))); (case aB => exact (by repeat (first | (with_reducible first | exact HB.out | apply below_alloc | apply pw_below_drewN | apply below_drew1 | refine below_set ?_ GE122.out) | exact HB.out))); (case aF => exact (fun _ _ => trivial)); (case aO => exact (by (with_reducible repeat (first | apply Kd.R_alloc | apply Kd.R_drewN | apply Kd.R_drew)); exact HO126.out)); (case aS => exact (below_size (by repeat (first | (with_reducible first | exact HB.out | apply below_alloc | apply pw_below_drewN | apply below_drew1 | refine below_set ?_ GE122.out) | exact HB.out)))); (case aL => have := LMc4.out; omega); intro v128 w12 ho hb hg hat; rw [← Ny127.out] at ho; have n0_ := Aside0.mk (blk_grown (g := gb122) (o := .cells #[.int .i64 a0_0, .int .i64 a0_1, .slice A0_2 l0_2.length c0_2] 24 (0, 0)) (by (with_reducible repeat (first | refine blk_drewN ?_ _ | refine blk_drew ?_ | refine blk_alloc ?_ _)); exact BK122.out) hg (Kd.R_ne HO126.out BK122.out (by decide))); have n1_ := Aside0.mk (hb); have n2_ := Aside0.mk (ho); clear BK122; clear HB; clear HO126; have BK122 := n0_; have HB := n1_; have HO129 := n2_; clear n0_ n1_ n2_; clear ho hb hg hat))
      go_loopg [5, 6] k (fun kq v5 v6 w' => ∃ (x5_1 : ByteArray) (x6_1 : Int), v5 = .string x5_1 ∧ v6 = .int .i64 x6_1 ∧ Aside0 (sextonref12_Put.l0 kq y127 x5_1 x6_1 = some (r1, r2)) ∧ Aside0 (kq ≤ k) ∧ Aside0 (Kd.R (Kd.int .i64) 3 w' w.heap.size (fun _ => True) v128 y127) ∧ Aside0 (w'.heap[gb122]? = some (.cells #[.int .i64 a0_0, .int .i64 a0_1, (.slice A0_2 l0_2.length c0_2)] 24 (0, 0))) ∧ Aside0 (Below w.heap.size w w'))
      case atStart => exact ⟨((⟨#[]⟩ : ByteArray)), (0), (by first | rfl | (simp; done) | (simp [*]; done)), (by first | rfl | (simp; done) | (simp [*]; done)), H', ⟨Nat.le_refl _⟩, ⟨by (with_reducible repeat (first | apply Kd.R_alloc | apply Kd.R_drewN | apply Kd.R_drew)); exact HO129.out⟩, ⟨by (with_reducible repeat (first | refine blk_drewN ?_ _ | refine blk_drew ?_ | refine blk_alloc ?_ _)); exact BK122.out⟩, ⟨by repeat (first | (with_reducible first | exact HB.out | apply below_alloc | apply pw_below_drewN | apply below_drew1 | refine below_set ?_ GE122.out) | exact HB.out)⟩⟩
      case round =>
        clear H'
        try clear c1
        try clear c2
        try clear p2
        try clear c3
        try clear c4
        try clear hcz11_0
        try clear hcz11_1
        try clear hcz11_2
        try clear hcz6_0
        try clear hcz6_1
        try clear hcz6_2
        try clear hcz8_0
        try clear hcz8_1
        try clear hcz8_2
        try clear hfz11_0
        try clear hfz11_1
        try clear hfz11_2
        try clear hfz6_0
        try clear hfz6_1
        try clear hfz6_2
        try clear hfz8_0
        try clear hfz8_1
        try clear hfz8_2
        obtain ⟨x5_1, x6_1, rfl, rfl, HA, HK1, HO_4, BK122, HB⟩ := hrel
        cases gk with
        | zero => exact absurd HA.out (by simp [sextonref12_Put.l0])
        | succ k1 =>
          have H := HA.out
          clear HA
          simp only [sextonref12_Put.l0] at H
          by_cases c13 : x6_1 < (y127.length : Int)
          · rw [if_pos c13] at H
            have c13b0 : decide (x6_1 < (y127.length : Int)) = true := decide_eq_true c13
            clear c13
            by_cases c14 : 0 ≤ x6_1
            · rw [if_pos c14] at H
              have c14b0 : decide (0 ≤ x6_1) = true := decide_eq_true c14
              clear c14
              replace H := Option.bind_eq_some_iff.mp H
              obtain ⟨⟨t131, t132⟩, A150, H⟩ := H
              replace H : (if x5_1.size + t131.size ≤ 9223372036854775807 then (sextonref12_Put.l0 k1 y127 (x5_1 ++ t131) (wrap64 (x6_1 + 1))) else (none)) = some (r1, r2) := H
              have A15 := Aside0.mk A150
              clear A150
              by_cases c16 : x5_1.size + t131.size ≤ 9223372036854775807
              · rw [if_pos c16] at H
                have c16b0 := eq_true c16
                have c16b1 : decide (x5_1.size + t131.size ≤ 9223372036854775807) = true := decide_eq_true c16
                try have c16b2 : (9223372036854775807 < x5_1.size + t131.size) = False := eq_false (Nat.not_lt.2 c16)
                have H' := Aside0.mk H
                clear H
                obtain ⟨Ao17, co17, eo17⟩ := Kd.R_slice HO_4.out
                subst eo17
                have p130 : 0 ≤ (x6_1 : Int) := of_decide_eq_true (by first | (with_reducible assumption) | assumption)
                have q130 : x6_1 < (y127.length : Int) := of_decide_eq_true (by first | (with_reducible assumption) | assumption)
                obtain ⟨ad130, e130, hx130_0⟩ := Kd.at_int (Kd.R_reads' HO_4.out).2.2 x6_1 p130 q130
                cases e130
                replace p130 := eq_true p130
                replace q130 := eq_true q130
                go_wp2_with (first | ((with_reducible refine gate_callee (f := 46) rfl ?_); refine goesL_ (some 35) rfl rfl Try.func46 (by kernel_rfl) rfl #[.int .i64 (rd y127 x6_1)] rfl (by (try simp only [List.map_toArray, List.map_cons, List.map_nil]); first | done | rfl | (simp only [List.length_drop, List.length_take]; rfl)) ?_; (with_reducible refine (sextonref01_Number.calls k1 (rd y127 x6_1) t131 t132 _ A15.out).mono ?_); rintro e w18 ⟨rfl, hb⟩; refine ⟨_, rfl, ?_⟩; have n0_ := Aside0.mk (Kd.R_below (by (with_reducible repeat (first | apply Kd.R_alloc | apply Kd.R_drewN | apply Kd.R_drew)); exact HO_4.out) hb); have n1_ := Aside0.mk (blk_below (g := gb122) (o := .cells #[.int .i64 a0_0, .int .i64 a0_1, .slice A0_2 l0_2.length c0_2] 24 (0, 0)) (by (with_reducible repeat (first | refine blk_drewN ?_ _ | refine blk_drew ?_ | refine blk_alloc ?_ _)); exact BK122.out) hb); have n2_ := Aside0.mk (below_step (by repeat (first | (with_reducible first | exact HB.out | apply below_alloc | apply pw_below_drewN | apply below_drew1 | refine below_set ?_ GE122.out) | exact HB.out)) hb); clear HO_4; clear BK122; clear HB; have HO_4 := n0_; have BK122 := n1_; have HB := n2_; clear n0_ n1_ n2_; (try clear hb); (try clear hb2); (try clear hk); (try clear hi)))
                go_roundg k1
                case measure => have := HK1.out; omega
                case rel => exact ⟨(x5_1 ++ t131), (wrap64 (x6_1 + 1)), (by first | rfl | (simp; done) | (simp [*]; done)), (by first | rfl | (simp; done) | (simp [*]; done)), H', ⟨by have := HK1.out; omega⟩, ⟨by (with_reducible repeat (first | apply Kd.R_alloc | apply Kd.R_drewN | apply Kd.R_drew)); exact HO_4.out⟩, ⟨by (with_reducible repeat (first | refine blk_drewN ?_ _ | refine blk_drew ?_ | refine blk_alloc ?_ _)); exact BK122.out⟩, ⟨by repeat (first | (with_reducible first | exact HB.out | apply below_alloc | apply pw_below_drewN | apply below_drew1 | refine below_set ?_ GE122.out) | exact HB.out)⟩⟩
              · rw [if_neg c16] at H
                exact absurd H (by simp)
            · rw [if_neg c14] at H
              exact absurd H (by simp)
          · rw [if_neg c13] at H
            have c13b0 : decide (x6_1 < (y127.length : Int)) = false := decide_eq_false c13
            clear c13
            simp only [Option.some.injEq, Prod.mk.injEq] at H
            obtain ⟨rfl, rfl⟩ := H
            obtain ⟨Ao19, co19, eo19⟩ := Kd.R_slice HO_4.out
            subst eo19
            go_wp2
            go_ret2
            exact ⟨by first | rfl | (simp [errW_none, errW_some] <;> rfl) | (simp [*, errW_none, errW_some] <;> rfl), by repeat (first | (with_reducible first | exact HB.out | apply below_alloc | apply pw_below_drewN | apply below_drew1 | refine below_set ?_ GE122.out) | exact HB.out)⟩
    · rw [if_neg c4] at H
      exact absurd H (by simp)
  · replace c3 := Bool.eq_false_iff.mpr c3
    subst c3
    have H1 : (some ((⟨#[]⟩ : ByteArray), 1)) = some (r1, r2) := by rw [if_neg (show ¬ (false = true) by decide)] at H; exact H
    clear H
    have H := H1
    clear H1
    simp only [Option.some.injEq, Prod.mk.injEq] at H
    obtain ⟨rfl, rfl⟩ := H
    go_enter Try.func15, Try.ntmps15
    go_wp2_with (first | ((with_reducible refine gate_dst (N := 1) rfl ?_); refine box_event ?hg (N := 1) ?hd (cs := #[.int .i64 a0_0, .int .i64 a0_1, .slice A0_2 l0_2.length c0_2]) (t := 24) ?hr ?_; (case hd => rfl); (case hg => rfl); (case hr => first | (go_simp; done) | (go_simp; rfl)); intro gb122 hg w20 hbox hb; have n0_ := Aside0.mk (below_step (by repeat (first | (with_reducible first | exact HB.out | apply below_alloc | apply pw_below_drewN | apply below_drew1) | exact HB.out)) hb); have n1_ := Aside0.mk (hbox); have n2_ := Aside0.mk ((by rw [hg]; exact (below_size (by repeat (first | (with_reducible first | exact HB.out | apply below_alloc | apply pw_below_drewN | apply below_drew1) | exact HB.out))) : w.heap.size ≤ gb122)); have n3_ := Aside0.mk ((by rw [hg]; exact (below_size (by repeat (first | (with_reducible first | exact HB.out | apply below_alloc | apply pw_below_drewN | apply below_drew1) | exact HB.out))) : w.heap.size ≤ gb122)); clear HB; have HB := n0_; have BK122 := n1_; have GW122 := n2_; have GE122 := n3_; clear n0_ n1_ n2_ n3_; clear hb hbox hg; have hcz21_0 : w20.cell? ⟨gb122, 0, none⟩ = some (.int .i64 a0_0) := (blk_cell BK122.out 0).trans rfl; have hcz21_1 : w20.cell? ⟨gb122, 1, none⟩ = some (.int .i64 a0_1) := (blk_cell BK122.out 1).trans rfl; have hcz21_2 : w20.cell? ⟨gb122, 2, none⟩ = some (.slice A0_2 l0_2.length c0_2) := (blk_cell BK122.out 2).trans rfl; have hfz21_0 := blk_frozen BK122.out 0; have hfz21_1 := blk_frozen BK122.out 1; have hfz21_2 := blk_frozen BK122.out 2) | ((with_reducible refine gate_callee (f := 24) rfl ?_); refine goesL_ (some 10) rfl rfl Try.func24 (by kernel_rfl) rfl #[.agg #[.int .i64 a0_0, .int .i64 a0_1, .slice A0_2 l0_2.length c0_2]] rfl (by (try simp only [List.map_toArray, List.map_cons, List.map_nil]); first | done | rfl | (simp only [List.length_drop, List.length_take]; rfl)) ?_; (with_reducible refine (sextonref12_Is.calls k a0_0 a0_1 _ _ l0_2 false _ ?side1 ?side2 A2.out).mono ?_); (case side1 => repeat (first | exact (Kd.C_below HR0_2.out HB.out) | (with_reducible refine Kd.C_alloc ?_ _) | (with_reducible refine Kd.C_drewN ?_ _) | (with_reducible refine Kd.C_drew ?_))); (case side2 => exact HC0_2.out); rintro e w22 ⟨rfl, hb⟩; refine ⟨_, rfl, ?_⟩; have n0_ := Aside0.mk (blk_below (g := gb122) (o := .cells #[.int .i64 a0_0, .int .i64 a0_1, .slice A0_2 l0_2.length c0_2] 24 (0, 0)) (by (with_reducible repeat (first | refine blk_drewN ?_ _ | refine blk_drew ?_ | refine blk_alloc ?_ _)); exact BK122.out) hb); have n1_ := Aside0.mk (below_step (by repeat (first | (with_reducible first | exact HB.out | apply below_alloc | apply pw_below_drewN | apply below_drew1 | refine below_set ?_ GE122.out) | exact HB.out)) hb); clear BK122; clear HB; have BK122 := n0_; have HB := n1_; clear n0_ n1_; (try clear hb); (try clear hb2); (try clear hk); (try clear hi)))
    go_ret2
    exact ⟨by first | rfl | (simp [errW_none, errW_some] <;> rfl) | (simp [*, errW_none, errW_some] <;> rfl), by repeat (first | (with_reducible first | exact HB.out | apply below_alloc | apply pw_below_drewN | apply below_drew1 | refine below_set ?_ GE122.out) | exact HB.out)⟩

end Go.Proofs.Ytfdpebipnapelaa.P
-- Written by a program of this session (xprint.py) over the kit's print.py.
namespace Go.Proofs.Ytfdpebipnapelaa.P
open Go.RowKit Go.Proofs.YtfdpebipnapelaaW.PrintWords Go.Proofs.YtfdpebipnapelaaW.PrintLast Go.Proofs.YtfdpebipnapelaaW.PrintMore
attribute [local go_sem] max2_int min2_int max_two min_two max_three min_three max_four min_four   -- for this text's walks alone
set_option linter.unusedVariables false
set_option linter.unusedSimpArgs false

/-! ### sextonref12_Value: function 19 -/
def sextonref12_Value.f (k : Nat) (a0_0 : Int) (a0_1 : Int) (l0_2 : List Int) (a1 : Bool) : Option (ByteArray × Int) := if a1 = true then (some ((⟨#[0]⟩ : ByteArray), 0)) else ((sextonref12_Put.f k a0_0 a0_1 l0_2).bind fun bt145 => (if bt145.2 = 0 then (if 1 + bt145.1.size ≤ 9223372036854775807 then (some ((⟨#[1]⟩ : ByteArray) ++ bt145.1, 0)) else (none)) else (some ((⟨#[]⟩ : ByteArray), bt145.2))))
theorem sextonref12_Value.mono : ∀ a0 a1 a2 a3 k, LeO (sextonref12_Value.f k a0 a1 a2 a3) (sextonref12_Value.f (k + 1) a0 a1 a2 a3) := by
  intro a0 a1 a2 a3 k
  unfold sextonref12_Value.f
  repeat' first
      | (with_reducible exact sextonref12_Put.mono _ _ _ _)
      | (with_reducible exact LeO.refl _)
      | (with_reducible exact LeO.none _)
      | (with_reducible refine LeO.ite ?_ ?_)
      | (with_reducible refine LeO.bind ?_ (fun _ => ?_))
      | exact sextonref12_Put.mono _ _ _ _
      | exact LeO.none _
      | refine LeO.ite ?_ ?_
      | refine LeO.bind ?_ (fun _ => ?_)
set_option maxHeartbeats 8000000 in
set_option maxRecDepth 100000 in
theorem sextonref12_Value.calls (k : Nat) (a0_0 : Int) (a0_1 : Int) (A0_2 : Option Addr) (c0_2 : Nat) (l0_2 : List Int) (a1 : Bool) (r1 : ByteArray) (r2 : Int) (w : World) (hr0_2 : Kd.C (Kd.int .i64) w A0_2 l0_2.length l0_2) (hc0_2 : l0_2.length ≤ c0_2) (h : sextonref12_Value.f k a0_0 a0_1 l0_2 a1 = some (r1, r2)) :
    Calls Try.prog 19 #[.agg #[.int .i64 a0_0, .int .i64 a0_1, .slice A0_2 l0_2.length c0_2], .bool a1] w fun e w' => e = .returned (.tuple #[.string r1, .int .i64 r2]) ∧ Below w.heap.size w w' := by
  have hu24 := Try.underlying24
  have HR0_2 := Aside0.mk hr0_2
  have HC0_2 := Aside0.mk hc0_2
  clear hr0_2 hc0_2
  have HB := Aside0.mk (Below.refl w.heap.size w)
  have H : (if a1 = true then (some ((⟨#[0]⟩ : ByteArray), 0)) else ((sextonref12_Put.f k a0_0 a0_1 l0_2).bind fun bt145 => (if bt145.2 = 0 then (if 1 + bt145.1.size ≤ 9223372036854775807 then (some ((⟨#[1]⟩ : ByteArray) ++ bt145.1, 0)) else (none)) else (some ((⟨#[]⟩ : ByteArray), bt145.2))))) = some (r1, r2) := h
  clear h
  by_cases c3 : a1 = true
  · subst c3
    have H1 : (some ((⟨#[0]⟩ : ByteArray), 0)) = some (r1, r2) := by rw [if_pos rfl] at H; exact H
    clear H
    have H := H1
    clear H1
    simp only [Option.some.injEq, Prod.mk.injEq] at H
    obtain ⟨rfl, rfl⟩ := H
    go_enter Try.func19, Try.ntmps19
    go_wp2_with (first | ((with_reducible refine gate_dst (N := 2) rfl ?_); refine box_event ?hg (N := 2) ?hd (cs := #[.int .i64 a0_0, .int .i64 a0_1, .slice A0_2 l0_2.length c0_2]) (t := 24) ?hr ?_; (case hd => rfl); (case hg => rfl); (case hr => first | (go_simp; done) | (go_simp; rfl)); intro gb144 hg w4 hbox hb; have n0_ := Aside0.mk (below_step (by repeat (first | (with_reducible first | exact HB.out | apply below_alloc | apply pw_below_drewN | apply below_drew1) | exact HB.out)) hb); have n1_ := Aside0.mk (hbox); have n2_ := Aside0.mk ((by rw [hg]; exact (below_size (by repeat (first | (with_reducible first | exact HB.out | apply below_alloc | apply pw_below_drewN | apply below_drew1) | exact HB.out))) : w.heap.size ≤ gb144)); have n3_ := Aside0.mk ((by rw [hg]; exact (below_size (by repeat (first | (with_reducible first | exact HB.out | apply below_alloc | apply pw_below_drewN | apply below_drew1) | exact HB.out))) : w.heap.size ≤ gb144)); clear HB; have HB := n0_; have BK144 := n1_; have GW144 := n2_; have GE144 := n3_; clear n0_ n1_ n2_ n3_; clear hb hbox hg))
    go_ret2
    exact ⟨by first | rfl | (simp [errW_none, errW_some] <;> rfl) | (simp [*, errW_none, errW_some] <;> rfl), by repeat (first | (with_reducible first | exact HB.out | apply below_alloc | apply pw_below_drewN | apply below_drew1 | refine below_set ?_ GE144.out) | exact HB.out)⟩
  · replace c3 := Bool.eq_false_iff.mpr c3
    subst c3
    have H1 : ((sextonref12_Put.f k a0_0 a0_1 l0_2).bind fun bt145 => (if bt145.2 = 0 then (if 1 + bt145.1.size ≤ 9223372036854775807 then (some ((⟨#[1]⟩ : ByteArray) ++ bt145.1, 0)) else (none)) else (some ((⟨#[]⟩ : ByteArray), bt145.2)))) = some (r1, r2) := by rw [if_neg (show ¬ (false = true) by decide)] at H; exact H
    clear H
    have H := H1
    clear H1
    replace H := Option.bind_eq_some_iff.mp H
    obtain ⟨⟨t145, t146⟩, A50, H⟩ := H
    replace H : (if t146 = 0 then (if 1 + t145.size ≤ 9223372036854775807 then (some ((⟨#[1]⟩ : ByteArray) ++ t145, 0)) else (none)) else (some ((⟨#[]⟩ : ByteArray), t146))) = some (r1, r2) := H
    have A5 := Aside0.mk A50
    clear A50
    by_cases c6 : t146 = 0
    · rw [if_pos c6] at H
      have c6b0 : (t146 == 0) = true := beq_iff_eq.mpr c6
      have c6b1 : (t146 != 0) = false := bne_eq_false_iff_eq.mpr c6
      clear c6
      by_cases c7 : 1 + t145.size ≤ 9223372036854775807
      · rw [if_pos c7] at H
        have c7b0 := eq_true c7
        have c7b1 : decide (1 + t145.size ≤ 9223372036854775807) = true := decide_eq_true c7
        try have c7b2 : (9223372036854775807 < 1 + t145.size) = False := eq_false (Nat.not_lt.2 c7)
        simp only [Option.some.injEq, Prod.mk.injEq] at H
        obtain ⟨rfl, rfl⟩ := H
        go_enter Try.func19, Try.ntmps19
        go_wp2_with (first | ((with_reducible refine gate_dst (N := 2) rfl ?_); refine box_event ?hg (N := 2) ?hd (cs := #[.int .i64 a0_0, .int .i64 a0_1, .slice A0_2 l0_2.length c0_2]) (t := 24) ?hr ?_; (case hd => rfl); (case hg => rfl); (case hr => first | (go_simp; done) | (go_simp; rfl)); intro gb144 hg w8 hbox hb; have n0_ := Aside0.mk (below_step (by repeat (first | (with_reducible first | exact HB.out | apply below_alloc | apply pw_below_drewN | apply below_drew1) | exact HB.out)) hb); have n1_ := Aside0.mk (hbox); have n2_ := Aside0.mk ((by rw [hg]; exact (below_size (by repeat (first | (with_reducible first | exact HB.out | apply below_alloc | apply pw_below_drewN | apply below_drew1) | exact HB.out))) : w.heap.size ≤ gb144)); have n3_ := Aside0.mk ((by rw [hg]; exact (below_size (by repeat (first | (with_reducible first | exact HB.out | apply below_alloc | apply pw_below_drewN | apply below_drew1) | exact HB.out))) : w.heap.size ≤ gb144)); clear HB; have HB := n0_; have BK144 := n1_; have GW144 := n2_; have GE144 := n3_; clear n0_ n1_ n2_ n3_; clear hb hbox hg; have hcz9_0 : w8.cell? ⟨gb144, 0, none⟩ = some (.int .i64 a0_0) := (blk_cell BK144.out 0).trans rfl; have hcz9_1 : w8.cell? ⟨gb144, 1, none⟩ = some (.int .i64 a0_1) := (blk_cell BK144.out 1).trans rfl; have hcz9_2 : w8.cell? ⟨gb144, 2, none⟩ = some (.slice A0_2 l0_2.length c0_2) := (blk_cell BK144.out 2).trans rfl; have hfz9_0 := blk_frozen BK144.out 0; have hfz9_1 := blk_frozen BK144.out 1; have hfz9_2 := blk_frozen BK144.out 2) | ((with_reducible refine gate_callee (f := 15) rfl ?_); refine goesL_ (some 11) rfl rfl Try.func15 (by kernel_rfl) rfl #[.agg #[.int .i64 a0_0, .int .i64 a0_1, .slice A0_2 l0_2.length c0_2]] rfl (by (try simp only [List.map_toArray, List.map_cons, List.map_nil]); first | done | rfl | (simp only [List.length_drop, List.length_take]; rfl)) ?_; (with_reducible refine (sextonref12_Put.calls k a0_0 a0_1 _ _ l0_2 t145 t146 _ ?side1 ?side2 A5.out).mono ?_); (case side1 => repeat (first | exact (Kd.C_below HR0_2.out HB.out) | (with_reducible refine Kd.C_alloc ?_ _) | (with_reducible refine Kd.C_drewN ?_ _) | (with_reducible refine Kd.C_drew ?_))); (case side2 => exact HC0_2.out); rintro e w10 ⟨rfl, hb⟩; refine ⟨_, rfl, ?_⟩; have n0_ := Aside0.mk (blk_below (g := gb144) (o := .cells #[.int .i64 a0_0, .int .i64 a0_1, .slice A0_2 l0_2.length c0_2] 24 (0, 0)) (by (with_reducible repeat (first | refine blk_drewN ?_ _ | refine blk_drew ?_ | refine blk_alloc ?_ _)); exact BK144.out) hb); have n1_ := Aside0.mk (below_step (by repeat (first | (with_reducible first | exact HB.out | apply below_alloc | apply pw_below_drewN | apply below_drew1 | refine below_set ?_ GE144.out) | exact HB.out)) hb); clear BK144; clear HB; have BK144 := n0_; have HB := n1_; clear n0_ n1_; (try clear hb); (try clear hb2); (try clear hk); (try clear hi)))
        go_ret2
        exact ⟨by first | rfl | (simp [errW_none, errW_some] <;> rfl) | (simp [*, errW_none, errW_some] <;> rfl), by repeat (first | (with_reducible first | exact HB.out | apply below_alloc | apply pw_below_drewN | apply below_drew1 | refine below_set ?_ GE144.out) | exact HB.out)⟩
      · rw [if_neg c7] at H
        exact absurd H (by simp)
    · rw [if_neg c6] at H
      have c6b0 : (t146 == 0) = false := beq_eq_false_iff_ne.mpr c6
      have c6b1 : (t146 != 0) = true := bne_iff_ne.mpr c6
      simp only [Option.some.injEq, Prod.mk.injEq] at H
      obtain ⟨rfl, rfl⟩ := H
      go_enter Try.func19, Try.ntmps19
      go_wp2_with (first | ((with_reducible refine gate_dst (N := 2) rfl ?_); refine box_event ?hg (N := 2) ?hd (cs := #[.int .i64 a0_0, .int .i64 a0_1, .slice A0_2 l0_2.length c0_2]) (t := 24) ?hr ?_; (case hd => rfl); (case hg => rfl); (case hr => first | (go_simp; done) | (go_simp; rfl)); intro gb144 hg w11 hbox hb; have n0_ := Aside0.mk (below_step (by repeat (first | (with_reducible first | exact HB.out | apply below_alloc | apply pw_below_drewN | apply below_drew1) | exact HB.out)) hb); have n1_ := Aside0.mk (hbox); have n2_ := Aside0.mk ((by rw [hg]; exact (below_size (by repeat (first | (with_reducible first | exact HB.out | apply below_alloc | apply pw_below_drewN | apply below_drew1) | exact HB.out))) : w.heap.size ≤ gb144)); have n3_ := Aside0.mk ((by rw [hg]; exact (below_size (by repeat (first | (with_reducible first | exact HB.out | apply below_alloc | apply pw_below_drewN | apply below_drew1) | exact HB.out))) : w.heap.size ≤ gb144)); clear HB; have HB := n0_; have BK144 := n1_; have GW144 := n2_; have GE144 := n3_; clear n0_ n1_ n2_ n3_; clear hb hbox hg; have hcz12_0 : w11.cell? ⟨gb144, 0, none⟩ = some (.int .i64 a0_0) := (blk_cell BK144.out 0).trans rfl; have hcz12_1 : w11.cell? ⟨gb144, 1, none⟩ = some (.int .i64 a0_1) := (blk_cell BK144.out 1).trans rfl; have hcz12_2 : w11.cell? ⟨gb144, 2, none⟩ = some (.slice A0_2 l0_2.length c0_2) := (blk_cell BK144.out 2).trans rfl; have hfz12_0 := blk_frozen BK144.out 0; have hfz12_1 := blk_frozen BK144.out 1; have hfz12_2 := blk_frozen BK144.out 2) | ((with_reducible refine gate_callee (f := 15) rfl ?_); refine goesL_ (some 11) rfl rfl Try.func15 (by kernel_rfl) rfl #[.agg #[.int .i64 a0_0, .int .i64 a0_1, .slice A0_2 l0_2.length c0_2]] rfl (by (try simp only [List.map_toArray, List.map_cons, List.map_nil]); first | done | rfl | (simp only [List.length_drop, List.length_take]; rfl)) ?_; (with_reducible refine (sextonref12_Put.calls k a0_0 a0_1 _ _ l0_2 t145 t146 _ ?side1 ?side2 A5.out).mono ?_); (case side1 => repeat (first | exact (Kd.C_below HR0_2.out HB.out) | (with_reducible refine Kd.C_alloc ?_ _) | (with_reducible refine Kd.C_drewN ?_ _) | (with_reducible refine Kd.C_drew ?_))); (case side2 => exact HC0_2.out); rintro e w13 ⟨rfl, hb⟩; refine ⟨_, rfl, ?_⟩; have n0_ := Aside0.mk (blk_below (g := gb144) (o := .cells #[.int .i64 a0_0, .int .i64 a0_1, .slice A0_2 l0_2.length c0_2] 24 (0, 0)) (by (with_reducible repeat (first | refine blk_drewN ?_ _ | refine blk_drew ?_ | refine blk_alloc ?_ _)); exact BK144.out) hb); have n1_ := Aside0.mk (below_step (by repeat (first | (with_reducible first | exact HB.out | apply below_alloc | apply pw_below_drewN | apply below_drew1 | refine below_set ?_ GE144.out) | exact HB.out)) hb); clear BK144; clear HB; have BK144 := n0_; have HB := n1_; clear n0_ n1_; (try clear hb); (try clear hb2); (try clear hk); (try clear hi)))
      go_ret2
      exact ⟨by first | rfl | (simp [errW_none, errW_some] <;> rfl) | (simp [*, errW_none, errW_some] <;> rfl), by repeat (first | (with_reducible first | exact HB.out | apply below_alloc | apply pw_below_drewN | apply below_drew1 | refine below_set ?_ GE144.out) | exact HB.out)⟩

end Go.Proofs.Ytfdpebipnapelaa.P
-- Written by a program of this session (xprint.py) over the kit's print.py.
namespace Go.Proofs.Ytfdpebipnapelaa.P
open Go.RowKit Go.Proofs.YtfdpebipnapelaaW.PrintWords Go.Proofs.YtfdpebipnapelaaW.PrintLast Go.Proofs.YtfdpebipnapelaaW.PrintMore
attribute [local go_sem] max2_int min2_int max_two min_two max_three min_three max_four min_four   -- for this text's walks alone
set_option linter.unusedVariables false
set_option linter.unusedSimpArgs false

/-! ### sextonref12_Read: function 21 -/
def sextonref12_Read.f (a0 : ByteArray) : Option (Int × Int × List Int × Bool × Int) := if a0.toList = ([0] : List UInt8) then (some (0, 0, ([] : List Int), true, 0)) else (if (a0.size : Int) = 0 then (some (0, 0, ([] : List Int), false, 30)) else (if 0 < (a0.size : Int) then (if (bt a0 0) = 1 then (if 1 ≤ (a0.size : Int) then ((sextonref12_Get.f (a0.extract 1 a0.size)).bind fun bt158 => (some (bt158.1, bt158.2.1, bt158.2.2.1, false, bt158.2.2.2))) else (none)) else (some (0, 0, ([] : List Int), false, 30))) else (none)))
set_option maxHeartbeats 8000000 in
set_option maxRecDepth 100000 in
theorem sextonref12_Read.calls (a0 : ByteArray) (r1 : Int) (r2 : Int) (r3 : List Int) (r4 : Bool) (r5 : Int) (w : World) (h : sextonref12_Read.f a0 = some (r1, r2, r3, r4, r5)) :
    Calls Try.prog 21 #[.string a0] w fun e w' => ∃ v2_ : Value, e = .returned (.tuple #[.agg #[.int .i64 r1, .int .i64 r2, v2_], .bool r4, .int .i64 r5]) ∧ Kd.R (Kd.int .i64) 3 w' w.heap.size (fun _ => True) v2_ r3 ∧ Below w.heap.size w w' := by
  have hu24 := Try.underlying24
  have HB := Aside0.mk (Below.refl w.heap.size w)
  have H : (if a0.toList = ([0] : List UInt8) then (some (0, 0, ([] : List Int), true, 0)) else (if (a0.size : Int) = 0 then (some (0, 0, ([] : List Int), false, 30)) else (if 0 < (a0.size : Int) then (if (bt a0 0) = 1 then (if 1 ≤ (a0.size : Int) then ((sextonref12_Get.f (a0.extract 1 a0.size)).bind fun bt158 => (some (bt158.1, bt158.2.1, bt158.2.2.1, false, bt158.2.2.2))) else (none)) else (some (0, 0, ([] : List Int), false, 30))) else (none)))) = some (r1, r2, r3, r4, r5) := h
  clear h
  by_cases c2 : a0.toList = ([0] : List UInt8)
  · rw [if_pos c2] at H
    have c2b0 : (a0.toList == ([0] : List UInt8)) = true := beq_iff_eq.mpr c2
    have c2b1 : (a0.toList != ([0] : List UInt8)) = false := bne_eq_false_iff_eq.mpr c2
    clear c2
    simp only [Option.some.injEq, Prod.mk.injEq] at H
    obtain ⟨rfl, rfl, rfl, rfl, rfl⟩ := H
    go_enter Try.func21, Try.ntmps21
    go_wp2_with (first | ((with_reducible refine gate_dst (N := 2) rfl ?_); refine box_event ?hg (N := 2) ?hd (cs := #[.int .i64 0, .int .i64 0, .slice none 0 0]) (t := 24) ?hr ?_; (case hd => rfl); (case hg => rfl); (case hr => first | (go_simp; done) | (go_simp; rfl)); intro gb157 hg w3 hbox hb; have n0_ := Aside0.mk (below_step (by repeat (first | (with_reducible first | exact HB.out | apply below_alloc | apply pw_below_drewN | apply below_drew1) | exact HB.out)) hb); have n1_ := Aside0.mk (hbox); have n2_ := Aside0.mk ((by rw [hg]; exact (below_size (by repeat (first | (with_reducible first | exact HB.out | apply below_alloc | apply pw_below_drewN | apply below_drew1) | exact HB.out))) : w.heap.size ≤ gb157)); have n3_ := Aside0.mk ((by rw [hg]; exact (below_size (by repeat (first | (with_reducible first | exact HB.out | apply below_alloc | apply pw_below_drewN | apply below_drew1) | exact HB.out))) : w.heap.size ≤ gb157)); clear HB; have HB := n0_; have BK157 := n1_; have GW157 := n2_; have GE157 := n3_; clear n0_ n1_ n2_ n3_; clear hb hbox hg; have hcz4_0 : w3.cell? ⟨gb157, 0, none⟩ = some (.int .i64 0) := (blk_cell BK157.out 0).trans rfl; have hcz4_1 : w3.cell? ⟨gb157, 1, none⟩ = some (.int .i64 0) := (blk_cell BK157.out 1).trans rfl; have hcz4_2 : w3.cell? ⟨gb157, 2, none⟩ = some (.slice none 0 0) := (blk_cell BK157.out 2).trans rfl; have hfz4_0 := blk_frozen BK157.out 0; have hfz4_1 := blk_frozen BK157.out 1; have hfz4_2 := blk_frozen BK157.out 2))
    refine bodyPost_ret (results_ctt rfl _ _ gb157 24 #[.int .i64 0, .int .i64 0, .slice none 0 0] (0, 0) _ rfl (by (with_reducible repeat (first | refine blk_drewN ?_ _ | refine blk_drew ?_ | refine blk_alloc ?_ _)); refine blk_put (cs := #[.int .i64 0, .int .i64 0, .slice none 0 0]) ?_ 2 _ rfl; (with_reducible repeat (first | refine blk_drewN ?_ _ | refine blk_drew ?_ | refine blk_alloc ?_ _)); refine blk_put (cs := #[.int .i64 0, .int .i64 0, .slice none 0 0]) ?_ 1 _ rfl; (with_reducible repeat (first | refine blk_drewN ?_ _ | refine blk_drew ?_ | refine blk_alloc ?_ _)); refine blk_put (cs := #[.int .i64 0, .int .i64 0, .slice none 0 0]) ?_ 0 _ rfl; (with_reducible repeat (first | refine blk_drewN ?_ _ | refine blk_drew ?_ | refine blk_alloc ?_ _)); exact BK157.out) Try.underlying24 rfl (by kernel_rfl)) rfl ?_
    exact ⟨_, by first | rfl | (simp [errW_none, errW_some] <;> rfl) | (simp [*, errW_none, errW_some] <;> rfl), by first | exact Kd.R_nil _ _ _ _ _ | exact Kd.N_nil _ _ _ _ _ | exact Kd.V_nil _ _ _ _ _ | exact Kd.Q_nil _ _ _ _ _ | exact Kd.S_nil _ _ _ _ _, by repeat (first | (with_reducible first | exact HB.out | apply below_alloc | apply pw_below_drewN | apply below_drew1 | refine below_set ?_ GE157.out) | exact HB.out)⟩
  · rw [if_neg c2] at H
    have c2b0 : (a0.toList == ([0] : List UInt8)) = false := beq_eq_false_iff_ne.mpr c2
    have c2b1 : (a0.toList != ([0] : List UInt8)) = true := bne_iff_ne.mpr c2
    by_cases c5 : (a0.size : Int) = 0
    · rw [if_pos c5] at H
      have c5b0 : ((a0.size : Int) == 0) = true := beq_iff_eq.mpr c5
      have c5b1 : ((a0.size : Int) != 0) = false := bne_eq_false_iff_eq.mpr c5
      clear c5
      simp only [Option.some.injEq, Prod.mk.injEq] at H
      obtain ⟨rfl, rfl, rfl, rfl, rfl⟩ := H
      go_enter Try.func21, Try.ntmps21
      go_wp2_with (first | ((with_reducible refine gate_dst (N := 2) rfl ?_); refine box_event ?hg (N := 2) ?hd (cs := #[.int .i64 0, .int .i64 0, .slice none 0 0]) (t := 24) ?hr ?_; (case hd => rfl); (case hg => rfl); (case hr => first | (go_simp; done) | (go_simp; rfl)); intro gb157 hg w6 hbox hb; have n0_ := Aside0.mk (below_step (by repeat (first | (with_reducible first | exact HB.out | apply below_alloc | apply pw_below_drewN | apply below_drew1) | exact HB.out)) hb); have n1_ := Aside0.mk (hbox); have n2_ := Aside0.mk ((by rw [hg]; exact (below_size (by repeat (first | (with_reducible first | exact HB.out | apply below_alloc | apply pw_below_drewN | apply below_drew1) | exact HB.out))) : w.heap.size ≤ gb157)); have n3_ := Aside0.mk ((by rw [hg]; exact (below_size (by repeat (first | (with_reducible first | exact HB.out | apply below_alloc | apply pw_below_drewN | apply below_drew1) | exact HB.out))) : w.heap.size ≤ gb157)); clear HB; have HB := n0_; have BK157 := n1_; have GW157 := n2_; have GE157 := n3_; clear n0_ n1_ n2_ n3_; clear hb hbox hg; have hcz7_0 : w6.cell? ⟨gb157, 0, none⟩ = some (.int .i64 0) := (blk_cell BK157.out 0).trans rfl; have hcz7_1 : w6.cell? ⟨gb157, 1, none⟩ = some (.int .i64 0) := (blk_cell BK157.out 1).trans rfl; have hcz7_2 : w6.cell? ⟨gb157, 2, none⟩ = some (.slice none 0 0) := (blk_cell BK157.out 2).trans rfl; have hfz7_0 := blk_frozen BK157.out 0; have hfz7_1 := blk_frozen BK157.out 1; have hfz7_2 := blk_frozen BK157.out 2))
      refine bodyPost_ret (results_ctt rfl _ _ gb157 24 #[.int .i64 0, .int .i64 0, .slice none 0 0] (0, 0) _ rfl (by (with_reducible repeat (first | refine blk_drewN ?_ _ | refine blk_drew ?_ | refine blk_alloc ?_ _)); refine blk_put (cs := #[.int .i64 0, .int .i64 0, .slice none 0 0]) ?_ 2 _ rfl; (with_reducible repeat (first | refine blk_drewN ?_ _ | refine blk_drew ?_ | refine blk_alloc ?_ _)); refine blk_put (cs := #[.int .i64 0, .int .i64 0, .slice none 0 0]) ?_ 1 _ rfl; (with_reducible repeat (first | refine blk_drewN ?_ _ | refine blk_drew ?_ | refine blk_alloc ?_ _)); refine blk_put (cs := #[.int .i64 0, .int .i64 0, .slice none 0 0]) ?_ 0 _ rfl; (with_reducible repeat (first | refine blk_drewN ?_ _ | refine blk_drew ?_ | refine blk_alloc ?_ _)); exact BK157.out) Try.underlying24 rfl (by kernel_rfl)) rfl ?_
      exact ⟨_, by first | rfl | (simp [errW_none, errW_some] <;> rfl) | (simp [*, errW_none, errW_some] <;> rfl), by first | exact Kd.R_nil _ _ _ _ _ | exact Kd.N_nil _ _ _ _ _ | exact Kd.V_nil _ _ _ _ _ | exact Kd.Q_nil _ _ _ _ _ | exact Kd.S_nil _ _ _ _ _, by repeat (first | (with_reducible first | exact HB.out | apply below_alloc | apply pw_below_drewN | apply below_drew1 | refine below_set ?_ GE157.out) | exact HB.out)⟩
    · rw [if_neg c5] at H
      have c5b0 : ((a0.size : Int) == 0) = false := beq_eq_false_iff_ne.mpr c5
      have c5b1 : ((a0.size : Int) != 0) = true := bne_iff_ne.mpr c5
      by_cases c8 : 0 < (a0.size : Int)
      · rw [if_pos c8] at H
        have c8b0 : decide (0 < (a0.size : Int)) = true := decide_eq_true c8
        have c8b1 : decide (0 < a0.size) = true := decide_eq_true (by omega)
        clear c8
        by_cases c10 : (bt a0 0) = 1
        · rw [if_pos c10] at H
          have c10b0 : ((bt a0 0) == 1) = true := beq_iff_eq.mpr c10
          have c10b1 : ((bt a0 0) != 1) = false := bne_eq_false_iff_eq.mpr c10
          clear c10
          by_cases c11 : 1 ≤ (a0.size : Int)
          · rw [if_pos c11] at H
            have c11b0 := eq_true c11
            have c11b1 : decide (1 ≤ (a0.size : Int)) = true := decide_eq_true c11
            clear c11
            replace H := Option.bind_eq_some_iff.mp H
            obtain ⟨⟨t158, t159, t160, t163⟩, A120, H⟩ := H
            replace H : (some (t158, t159, t160, false, t163)) = some (r1, r2, r3, r4, r5) := H
            have A12 := Aside0.mk A120
            clear A120
            simp only [Option.some.injEq, Prod.mk.injEq] at H
            obtain ⟨rfl, rfl, rfl, rfl, rfl⟩ := H
            go_enter Try.func21, Try.ntmps21
            go_wp2_with (first | ((with_reducible refine gate_dst (N := 2) rfl ?_); refine box_event ?hg (N := 2) ?hd (cs := #[.int .i64 0, .int .i64 0, .slice none 0 0]) (t := 24) ?hr ?_; (case hd => rfl); (case hg => rfl); (case hr => first | (go_simp; done) | (go_simp; rfl)); intro gb157 hg w13 hbox hb; have n0_ := Aside0.mk (below_step (by repeat (first | (with_reducible first | exact HB.out | apply below_alloc | apply pw_below_drewN | apply below_drew1) | exact HB.out)) hb); have n1_ := Aside0.mk (hbox); have n2_ := Aside0.mk ((by rw [hg]; exact (below_size (by repeat (first | (with_reducible first | exact HB.out | apply below_alloc | apply pw_below_drewN | apply below_drew1) | exact HB.out))) : w.heap.size ≤ gb157)); have n3_ := Aside0.mk ((by rw [hg]; exact (below_size (by repeat (first | (with_reducible first | exact HB.out | apply below_alloc | apply pw_below_drewN | apply below_drew1) | exact HB.out))) : w.heap.size ≤ gb157)); clear HB; have HB := n0_; have BK157 := n1_; have GW157 := n2_; have GE157 := n3_; clear n0_ n1_ n2_ n3_; clear hb hbox hg; have p9 : 0 ≤ (0 : Int) := (by omega); have q9 : 0 < a0.size := (by have : (0 : Int) < (a0.size : Int) := of_decide_eq_true (by first | (with_reducible assumption) | assumption); omega); have hx9 : ∀ h : 0 < a0.size, ((a0[0]'h).toNat : Int) = bt a0 0 := bt_at a0 0; clear p9; have qi9 : (0 < (a0.size : Int)) = True := eq_true (of_decide_eq_true (by first | (with_reducible assumption) | assumption)); replace q9 := eq_true q9) | ((with_reducible refine gate_callee (f := 17) rfl ?_); refine goesL_ (some 22) rfl rfl Try.func17 (by kernel_rfl) rfl #[.string (a0.extract 1 a0.size)] rfl (by (try simp only [List.map_toArray, List.map_cons, List.map_nil]); first | done | rfl | (simp only [List.length_drop, List.length_take]; rfl)) ?_; (with_reducible refine (sextonref12_Get.calls (a0.extract 1 a0.size) t158 t159 t160 t163 _ A12.out).mono ?_); rintro e w14 ⟨v161, rfl, ho0, hb⟩; refine ⟨_, rfl, ?_⟩; have n0_ := Aside0.mk (Kd.R_lower ho0 (below_size (by repeat (first | (with_reducible first | exact HB.out | apply below_alloc | apply pw_below_drewN | apply below_drew1 | refine below_set ?_ GE157.out) | exact HB.out)))); have n1_ := Aside0.mk (blk_below (g := gb157) (o := .cells #[.int .i64 0, .int .i64 0, .slice none 0 0] 24 (0, 0)) (by (with_reducible repeat (first | refine blk_drewN ?_ _ | refine blk_drew ?_ | refine blk_alloc ?_ _)); exact BK157.out) hb); have n2_ := Aside0.mk (below_step (by repeat (first | (with_reducible first | exact HB.out | apply below_alloc | apply pw_below_drewN | apply below_drew1 | refine below_set ?_ GE157.out) | exact HB.out)) hb); clear BK157; clear HB; have HO162 := n0_; have BK157 := n1_; have HB := n2_; clear n0_ n1_ n2_; (try clear hb); (try clear hb2); (try clear hk); (try clear hi); (try clear ho0)) | ((with_reducible refine gate_dst (N := 5) rfl ?_); refine box_event ?hg (N := 5) ?hd (cs := #[.int .i64 0, .int .i64 0, .slice none 0 0]) (t := 24) ?hr ?_; (case hd => rfl); (case hg => rfl); (case hr => first | (go_simp; done) | (go_simp; rfl)); intro gb164 hg w15 hbox hb; have n0_ := Aside0.mk (Kd.R_below (by (with_reducible repeat (first | apply Kd.R_alloc | apply Kd.R_drewN | apply Kd.R_drew)); exact HO162.out) hb); have n1_ := Aside0.mk (blk_below (g := gb157) (o := .cells #[.int .i64 0, .int .i64 0, .slice none 0 0] 24 (0, 0)) (by (with_reducible repeat (first | refine blk_drewN ?_ _ | refine blk_drew ?_ | refine blk_alloc ?_ _)); exact BK157.out) hb); have n2_ := Aside0.mk (below_step (by repeat (first | (with_reducible first | exact HB.out | apply below_alloc | apply pw_below_drewN | apply below_drew1 | refine below_set ?_ GE157.out) | exact HB.out)) hb); have n3_ := Aside0.mk (hbox); have n4_ := Aside0.mk ((by rw [hg]; exact (below_size (by repeat (first | (with_reducible first | exact HB.out | apply below_alloc | apply pw_below_drewN | apply below_drew1 | refine below_set ?_ GE157.out) | exact HB.out))) : w.heap.size ≤ gb164)); have n5_ := Aside0.mk ((by rw [hg]; exact (below_size (by repeat (first | (with_reducible first | exact HB.out | apply below_alloc | apply pw_below_drewN | apply below_drew1 | refine below_set ?_ GE157.out) | exact HB.out))) : w.heap.size ≤ gb164)); have n6_ := Aside0.mk ((by rw [hg]; exact Nat.ne_of_lt (blk_lt (g := gb157) (o := .cells #[.int .i64 0, .int .i64 0, .slice none 0 0] 24 (0, 0)) (by (with_reducible repeat (first | refine blk_drewN ?_ _ | refine blk_drew ?_ | refine blk_alloc ?_ _)); exact BK157.out)) : gb157 ≠ gb164)); have n7_ := Aside0.mk ((by rw [hg]; exact Nat.ne_of_gt (blk_lt (g := gb157) (o := .cells #[.int .i64 0, .int .i64 0, .slice none 0 0] 24 (0, 0)) (by (with_reducible repeat (first | refine blk_drewN ?_ _ | refine blk_drew ?_ | refine blk_alloc ?_ _)); exact BK157.out)) : gb164 ≠ gb157)); clear HO162; clear BK157; clear HB; have HO162 := n0_; have BK157 := n1_; have HB := n2_; have BK164 := n3_; have GW164 := n4_; have GE164 := n5_; have NB157_164 := n6_; have NB164_157 := n7_; clear n0_ n1_ n2_ n3_ n4_ n5_ n6_ n7_; clear hb hbox hg; have hnb16 := NB164_157.out; have hnc16 := NB157_164.out; have hcz17_0 : w15.cell? ⟨gb164, 0, none⟩ = some (.int .i64 0) := (blk_cell BK164.out 0).trans rfl; have hcz17_1 : w15.cell? ⟨gb164, 1, none⟩ = some (.int .i64 0) := (blk_cell BK164.out 1).trans rfl; have hcz17_2 : w15.cell? ⟨gb164, 2, none⟩ = some (.slice none 0 0) := (blk_cell BK164.out 2).trans rfl; have hfz17_0 := blk_frozen BK164.out 0; have hfz17_1 := blk_frozen BK164.out 1; have hfz17_2 := blk_frozen BK164.out 2; obtain ⟨Ao18, co18, eo18⟩ := Kd.R_slice HO162.out; subst eo18; have hcz19_0 : w15.cell? ⟨gb157, 0, none⟩ = some (.int .i64 0) := (blk_cell BK157.out 0).trans rfl; have hcz19_1 : w15.cell? ⟨gb157, 1, none⟩ = some (.int .i64 0) := (blk_cell BK157.out 1).trans rfl; have hcz19_2 : w15.cell? ⟨gb157, 2, none⟩ = some (.slice none 0 0) := (blk_cell BK157.out 2).trans rfl; have hfz19_0 := blk_frozen BK157.out 0; have hfz19_1 := blk_frozen BK157.out 1; have hfz19_2 := blk_frozen BK157.out 2))
            refine bodyPost_ret (results_ctt rfl _ _ gb157 24 #[.int .i64 t158, .int .i64 t159, .slice Ao18 t160.length co18] (0, 0) _ rfl (by (with_reducible repeat (first | refine blk_drewN ?_ _ | refine blk_drew ?_ | refine blk_alloc ?_ _)); refine blk_put (cs := #[.int .i64 t158, .int .i64 t159, .slice none 0 0]) ?_ 2 _ rfl; (with_reducible repeat (first | refine blk_drewN ?_ _ | refine blk_drew ?_ | refine blk_alloc ?_ _)); refine blk_put (cs := #[.int .i64 t158, .int .i64 0, .slice none 0 0]) ?_ 1 _ rfl; (with_reducible repeat (first | refine blk_drewN ?_ _ | refine blk_drew ?_ | refine blk_alloc ?_ _)); refine blk_put (cs := #[.int .i64 0, .int .i64 0, .slice none 0 0]) ?_ 0 _ rfl; (with_reducible repeat (first | refine blk_drewN ?_ _ | refine blk_drew ?_ | refine blk_alloc ?_ _)); refine blk_far ?_ NB157_164.out _; (with_reducible repeat (first | refine blk_drewN ?_ _ | refine blk_drew ?_ | refine blk_alloc ?_ _)); refine blk_far ?_ NB157_164.out _; (with_reducible repeat (first | refine blk_drewN ?_ _ | refine blk_drew ?_ | refine blk_alloc ?_ _)); refine blk_far ?_ NB157_164.out _; (with_reducible repeat (first | refine blk_drewN ?_ _ | refine blk_drew ?_ | refine blk_alloc ?_ _)); exact BK157.out) Try.underlying24 rfl (by kernel_rfl)) rfl ?_
            exact ⟨_, by first | rfl | (simp [errW_none, errW_some] <;> rfl) | (simp [*, errW_none, errW_some] <;> rfl), by (with_reducible repeat (first | apply Kd.R_alloc | apply Kd.R_drewN | apply Kd.R_drew)); exact Kd.R_mono (Kd.R_far (p := ⟨gb157, 2, none⟩) (Kd.R_far (p := ⟨gb157, 1, none⟩) (Kd.R_far (p := ⟨gb157, 0, none⟩) (Kd.R_far (p := ⟨gb164, 2, none⟩) (Kd.R_far (p := ⟨gb164, 1, none⟩) (Kd.R_far (p := ⟨gb164, 0, none⟩) (Kd.R_types (Kd.R_types HO162.out BK164.out (by decide)) BK157.out (by decide)) (fun _ hk => hk.1.2) (.int .i64 t158)) (fun _ hk => hk.1.2) (.int .i64 t159)) (fun _ hk => hk.1.2) (.slice Ao18 t160.length co18)) (fun _ hk => hk.2) (.int .i64 t158)) (fun _ hk => hk.2) (.int .i64 t159)) (fun _ hk => hk.2) (.slice Ao18 t160.length co18)) (fun _ hk => trivial), by repeat (first | (with_reducible first | exact HB.out | apply below_alloc | apply pw_below_drewN | apply below_drew1 | refine below_set ?_ GE157.out | refine below_set ?_ GE164.out) | exact HB.out)⟩
          · rw [if_neg c11] at H
            exact absurd H (by simp)
        · rw [if_neg c10] at H
          have c10b0 : ((bt a0 0) == 1) = false := beq_eq_false_iff_ne.mpr c10
          have c10b1 : ((bt a0 0) != 1) = true := bne_iff_ne.mpr c10
          simp only [Option.some.injEq, Prod.mk.injEq] at H
          obtain ⟨rfl, rfl, rfl, rfl, rfl⟩ := H
          go_enter Try.func21, Try.ntmps21
          go_wp2_with (first | ((with_reducible refine gate_dst (N := 2) rfl ?_); refine box_event ?hg (N := 2) ?hd (cs := #[.int .i64 0, .int .i64 0, .slice none 0 0]) (t := 24) ?hr ?_; (case hd => rfl); (case hg => rfl); (case hr => first | (go_simp; done) | (go_simp; rfl)); intro gb157 hg w20 hbox hb; have n0_ := Aside0.mk (below_step (by repeat (first | (with_reducible first | exact HB.out | apply below_alloc | apply pw_below_drewN | apply below_drew1) | exact HB.out)) hb); have n1_ := Aside0.mk (hbox); have n2_ := Aside0.mk ((by rw [hg]; exact (below_size (by repeat (first | (with_reducible first | exact HB.out | apply below_alloc | apply pw_below_drewN | apply below_drew1) | exact HB.out))) : w.heap.size ≤ gb157)); have n3_ := Aside0.mk ((by rw [hg]; exact (below_size (by repeat (first | (with_reducible first | exact HB.out | apply below_alloc | apply pw_below_drewN | apply below_drew1) | exact HB.out))) : w.heap.size ≤ gb157)); clear HB; have HB := n0_; have BK157 := n1_; have GW157 := n2_; have GE157 := n3_; clear n0_ n1_ n2_ n3_; clear hb hbox hg; have p9 : 0 ≤ (0 : Int) := (by omega); have q9 : 0 < a0.size := (by have : (0 : Int) < (a0.size : Int) := of_decide_eq_true (by first | (with_reducible assumption) | assumption); omega); have hx9 : ∀ h : 0 < a0.size, ((a0[0]'h).toNat : Int) = bt a0 0 := bt_at a0 0; clear p9; have qi9 : (0 < (a0.size : Int)) = True := eq_true (of_decide_eq_true (by first | (with_reducible assumption) | assumption)); replace q9 := eq_true q9; have hcz21_0 : w20.cell? ⟨gb157, 0, none⟩ = some (.int .i64 0) := (blk_cell BK157.out 0).trans rfl; have hcz21_1 : w20.cell? ⟨gb157, 1, none⟩ = some (.int .i64 0) := (blk_cell BK157.out 1).trans rfl; have hcz21_2 : w20.cell? ⟨gb157, 2, none⟩ = some (.slice none 0 0) := (blk_cell BK157.out 2).trans rfl; have hfz21_0 := blk_frozen BK157.out 0; have hfz21_1 := blk_frozen BK157.out 1; have hfz21_2 := blk_frozen BK157.out 2))
          refine bodyPost_ret (results_ctt rfl _ _ gb157 24 #[.int .i64 0, .int .i64 0, .slice none 0 0] (0, 0) _ rfl (by (with_reducible repeat (first | refine blk_drewN ?_ _ | refine blk_drew ?_ | refine blk_alloc ?_ _)); refine blk_put (cs := #[.int .i64 0, .int .i64 0, .slice none 0 0]) ?_ 2 _ rfl; (with_reducible repeat (first | refine blk_drewN ?_ _ | refine blk_drew ?_ | refine blk_alloc ?_ _)); refine blk_put (cs := #[.int .i64 0, .int .i64 0, .slice none 0 0]) ?_ 1 _ rfl; (with_reducible repeat (first | refine blk_drewN ?_ _ | refine blk_drew ?_ | refine blk_alloc ?_ _)); refine blk_put (cs := #[.int .i64 0, .int .i64 0, .slice none 0 0]) ?_ 0 _ rfl; (with_reducible repeat (first | refine blk_drewN ?_ _ | refine blk_drew ?_ | refine blk_alloc ?_ _)); exact BK157.out) Try.underlying24 rfl (by kernel_rfl)) rfl ?_
          exact ⟨_, by first | rfl | (simp [errW_none, errW_some] <;> rfl) | (simp [*, errW_none, errW_some] <;> rfl), by first | exact Kd.R_nil _ _ _ _ _ | exact Kd.N_nil _ _ _ _ _ | exact Kd.V_nil _ _ _ _ _ | exact Kd.Q_nil _ _ _ _ _ | exact Kd.S_nil _ _ _ _ _, by repeat (first | (with_reducible first | exact HB.out | apply below_alloc | apply pw_below_drewN | apply below_drew1 | refine below_set ?_ GE157.out) | exact HB.out)⟩
      · rw [if_neg c8] at H
        exact absurd H (by simp)

end Go.Proofs.Ytfdpebipnapelaa.P
