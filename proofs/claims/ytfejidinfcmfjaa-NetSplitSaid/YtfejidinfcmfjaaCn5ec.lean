/-
  Texts that the claims of this chapter share, joined.
-/
import Derived.Test.YtfejidinfcmfjaaCn5ea
import Derived.Test.YtfejidinfcmfjaaCn5eb
set_option linter.unusedVariables false
set_option linter.unusedSimpArgs false
/-
  net.Copy, by hand: the messages, and one of them once more, in memory of the call's own.
-/
namespace Go.Proofs.Ytfejidinfcmfjaa.P
open Go.RowKit Go.Proofs.YtfejidinfcmfjaaW.PrintWords Go.Proofs.YtfejidinfcmfjaaW.PrintLast Go.Proofs.YtfejidinfcmfjaaW.PrintMore Go.Proofs.Plain
/-- What net.Copy answers. -/
def copyM (l : List S29) (at_ : Int) : List S29 × Bool := if at_ < 0 ∨ at_ ≥ (l.length : Int) ∨ 200 ≤ l.length then (l, false) else (l ++ [rd_T29 l at_], true)
def net_Copy.f (l : List S29) (at_ : Int) : Option (List S29 × Bool) :=
  if l.length ≤ 1000000000 ∧ ∀ x ∈ l, x.f7.length ≤ 1000000000 then some (copyM l at_) else none

set_option maxHeartbeats 4000000 in
theorem net_Copy_out (A0 : Option Addr) (c0 : Nat) (l0 : List S29) (a1 : Int) (w : World) (hr0 : Kd.C k29 w A0 l0.length l0) (hc0 : l0.length ≤ c0) (h : a1 < 0 ∨ a1 ≥ (l0.length : Int) ∨ 200 ≤ l0.length) (hf : net_own.f l0 = some l0) :
    Calls Try.prog 19 #[.slice A0 l0.length c0, .int .i64 a1] w fun e w' => ∃ v0_ : Value, e = .returned (.tuple #[v0_, .bool false]) ∧ Kd.R k29 29 w' w.heap.size (fun _ => True) v0_ l0 ∧ Below w.heap.size w w' := by
  have HR0 := Aside0.mk hr0
  have HC0 := Aside0.mk hc0
  have HF := Aside0.mk hf
  clear hr0 hf
  rcases Decidable.em (a1 < 0) with h1 | h1
  · have ht : decide (a1 < 0) = true := decide_eq_true h1
    clear h
    go_enter Try.func19, Try.ntmps19
    go_wp2_with (first | (go_at_call 50; (with_reducible refine (net_own.calls A0 c0 l0 l0 w HR0.out HC0.out HF.out).mono ?_); rintro e w1 ⟨v, rfl, h1, hb⟩; have HO1 := Aside0.mk h1; have HB1 := Aside0.mk hb; clear h1 hb))
    go_ret2
    exact ⟨_, rfl, HO1.out, HB1.out⟩
  · have ht : decide (a1 < 0) = false := decide_eq_false h1
    rcases Decidable.em (a1 ≥ (l0.length : Int)) with h2 | h2
    · have h3 : (l0.length : Int) ≤ a1 := by omega
      have ht2 : decide (a1 ≥ (l0.length : Int)) = true := decide_eq_true h2
      clear h
      go_enter Try.func19, Try.ntmps19
      go_wp2_with (first | (go_at_call 50; (with_reducible refine (net_own.calls A0 c0 l0 l0 w HR0.out HC0.out HF.out).mono ?_); rintro e w1 ⟨v, rfl, h1, hb⟩; have HO1 := Aside0.mk h1; have HB1 := Aside0.mk hb; clear h1 hb))
      go_ret2
      exact ⟨_, rfl, HO1.out, HB1.out⟩
    · have h3 : ¬ (l0.length : Int) ≤ a1 := by omega
      have ht2 : decide (a1 ≥ (l0.length : Int)) = false := decide_eq_false h2
      have h4 : 200 ≤ l0.length := by omega
      have h5 : (200 : Int) ≤ (l0.length : Int) := by omega
      clear h
      go_enter Try.func19, Try.ntmps19
      go_wp2_with (first | (go_at_call 50; (with_reducible refine (net_own.calls A0 c0 l0 l0 w HR0.out HC0.out HF.out).mono ?_); rintro e w1 ⟨v, rfl, h1, hb⟩; have HO1 := Aside0.mk h1; have HB1 := Aside0.mk hb; clear h1 hb))
      go_ret2
      exact ⟨_, rfl, HO1.out, HB1.out⟩

/-- A message's literal. -/
theorem lit_msg (w0 W : World) {x : S29} {A7 : Option Addr} {c7 : Nat} {g : Nat} (hg : g = W.heap.size) (hK : k29.K w0 x [.int .i64 x.f0, .int .i64 x.f1, .int .i64 x.f2, .int .i64 x.f3, .int .i64 x.f4, .int .i64 x.f5, .int .i64 x.f6, .slice A7 x.f7.length c7]) : ReadsRow (k29.K w0) 8 (W.alloc (.cells #[.int .i64 x.f0, .int .i64 x.f1, .int .i64 x.f2, .int .i64 x.f3, .int .i64 x.f4, .int .i64 x.f5, .int .i64 x.f6, .slice A7 x.f7.length c7] 29)) (some ⟨g, 0, none⟩) 1 [x] := by
  subst hg
  refine ⟨rfl, by omega, fun _ => ⟨_, rfl, fun j p hj => ?_⟩⟩
  have hj0 : j = 0 := by have := (List.getElem?_eq_some_iff.1 hj).1; simp at this; exact this
  subst hj0
  cases hj
  refine ⟨_, rfl, hK, fun i u hu => ?_⟩
  rw [add_plain, blk_cell (blk_new W (.cells #[.int .i64 x.f0, .int .i64 x.f1, .int .i64 x.f2, .int .i64 x.f3, .int .i64 x.f4, .int .i64 x.f5, .int .i64 x.f6, .slice A7 x.f7.length c7] 29))]
  rw [show 0 * 8 + i = i by omega, List.getElem?_toArray]
  exact hu
set_option maxHeartbeats 8000000 in
set_option maxRecDepth 100000 in
theorem net_Copy_in (A0 : Option Addr) (c0 : Nat) (l0 : List S29) (k : Nat) (x : S29) (w : World) (hr0 : Kd.C k29 w A0 l0.length l0) (hc0 : l0.length ≤ c0) (hk : k < l0.length) (h200 : l0.length < 200) (hx : rd_T29 l0 (k : Int) = x) (r1 : List S29) (hr1 : r1 = l0 ++ [x]) (hf : net_own.f r1 = some r1) :
    Calls Try.prog 19 #[.slice A0 l0.length c0, .int .i64 k] w fun e w' => ∃ v0_ : Value, e = .returned (.tuple #[v0_, .bool true]) ∧ Kd.R k29 29 w' w.heap.size (fun _ => True) v0_ r1 ∧ Below w.heap.size w w' := by
  obtain ⟨ad, cs, hA, hcl, hK, hcc⟩ := Kd.C_get hr0 z29 (k : Int) (by omega) (by omega)
  rw [show l0.getD (k : Int).toNat z29 = x from hx] at hK
  obtain ⟨A7, c7, hcs, hl7, hC7⟩ := k29_open hK
  subst hcs
  subst hA
  have q0 := hcc 0 _ rfl
  have q1 := hcc 1 _ rfl
  have q2 := hcc 2 _ rfl
  have q3 := hcc 3 _ rfl
  have q4 := hcc 4 _ rfl
  have q5 := hcc 5 _ rfl
  have q6 := hcc 6 _ rfl
  have q7 := hcc 7 _ rfl
  rw [show k29.sz = 8 from rfl, Int.toNat_natCast] at q0 q1 q2 q3 q4 q5 q6 q7
  rw [Nat.add_zero] at q0
  rw [add_field _ _ 1 (by omega)] at q1
  rw [add_field _ _ 2 (by omega)] at q2
  rw [add_field _ _ 3 (by omega)] at q3
  rw [add_field _ _ 4 (by omega)] at q4
  rw [add_field _ _ 5 (by omega)] at q5
  rw [add_field _ _ 6 (by omega)] at q6
  rw [add_field _ _ 7 (by omega)] at q7
  have HR0 := Aside0.mk hr0
  have HC0 := Aside0.mk hc0
  have HF := Aside0.mk hf
  have HKX := Aside0.mk hK
  have HR1 := Aside0.mk hr1
  have HN := Aside0.mk (show l0.length ≤ 1000000000 by omega)
  have HQ := Aside0.mk (show ∀ (W : World), Below w.heap.size w W → W.cell? (ad.add (k * 8)) = some (.int .i64 x.f0) ∧ W.cell? ⟨(ad.add (k * 8)).block, (ad.add (k * 8)).off + 1, none⟩ = some (.int .i64 x.f1) ∧ W.cell? ⟨(ad.add (k * 8)).block, (ad.add (k * 8)).off + 2, none⟩ = some (.int .i64 x.f2) ∧ W.cell? ⟨(ad.add (k * 8)).block, (ad.add (k * 8)).off + 3, none⟩ = some (.int .i64 x.f3) ∧ W.cell? ⟨(ad.add (k * 8)).block, (ad.add (k * 8)).off + 4, none⟩ = some (.int .i64 x.f4) ∧ W.cell? ⟨(ad.add (k * 8)).block, (ad.add (k * 8)).off + 5, none⟩ = some (.int .i64 x.f5) ∧ W.cell? ⟨(ad.add (k * 8)).block, (ad.add (k * 8)).off + 6, none⟩ = some (.int .i64 x.f6) ∧ W.cell? ⟨(ad.add (k * 8)).block, (ad.add (k * 8)).off + 7, none⟩ = some (.slice A7 x.f7.length c7) from fun W hb => ⟨pw_cell_below hb q0, pw_cell_below hb q1, pw_cell_below hb q2, pw_cell_below hb q3, pw_cell_below hb q4, pw_cell_below hb q5, pw_cell_below hb q6, pw_cell_below hb q7⟩)
  have hk0 : decide ((k : Int) < 0) = false := decide_eq_false (by omega)
  have hk1 : decide ((k : Int) ≥ (l0.length : Int)) = false := decide_eq_false (by omega)
  have hk2 : ¬ ((l0.length : Int) ≤ (k : Int)) := by omega
  have hk3 : (k : Int) < (l0.length : Int) := by omega
  have hk4 : (0 : Int) ≤ (k : Int) := by omega
  have hk5 : ¬ (l0.length ≤ k) := by omega
  have hk6 : ¬ (200 ≤ l0.length) := by omega
  have hk7 : ¬ ((200 : Int) ≤ (l0.length : Int)) := by omega
  clear hr0 hf hK hr1 hcc hl7 hC7 hcl hx q0 q1 q2 q3 q4 q5 q6 q7
  go_enter Try.func19, Try.ntmps19
  go_wp2
  have HB3 := Aside0.mk (below_drew (Below.refl w.heap.size w))
  refine start_ (n := 11) (S := fun w' => w'.cell? (ad.add (k * 8)) = some (.int .i64 x.f0) ∧ w'.cell? ⟨(ad.add (k * 8)).block, (ad.add (k * 8)).off + 1, none⟩ = some (.int .i64 x.f1) ∧ w'.cell? ⟨(ad.add (k * 8)).block, (ad.add (k * 8)).off + 2, none⟩ = some (.int .i64 x.f2) ∧ w'.cell? ⟨(ad.add (k * 8)).block, (ad.add (k * 8)).off + 3, none⟩ = some (.int .i64 x.f3) ∧ w'.cell? ⟨(ad.add (k * 8)).block, (ad.add (k * 8)).off + 4, none⟩ = some (.int .i64 x.f4) ∧ w'.cell? ⟨(ad.add (k * 8)).block, (ad.add (k * 8)).off + 5, none⟩ = some (.int .i64 x.f5) ∧ w'.cell? ⟨(ad.add (k * 8)).block, (ad.add (k * 8)).off + 6, none⟩ = some (.int .i64 x.f6) ∧ w'.cell? ⟨(ad.add (k * 8)).block, (ad.add (k * 8)).off + 7, none⟩ = some (.slice A7 x.f7.length c7)) (ds := [7, 8]) #[false, false, false, false, false, false, false, false, false, false, false] (by kernel_rfl) rfl rfl ⟨(HQ.out _ HB3.out).1, (HQ.out _ HB3.out).2.1, (HQ.out _ HB3.out).2.2.1, (HQ.out _ HB3.out).2.2.2.1, (HQ.out _ HB3.out).2.2.2.2.1, (HQ.out _ HB3.out).2.2.2.2.2.1, (HQ.out _ HB3.out).2.2.2.2.2.2.1, (HQ.out _ HB3.out).2.2.2.2.2.2.2⟩ (fun hHeld => ?_)
  generalize World.drew w = w3 at HB3 hHeld ⊢
  refine pure_ (i := 0) (N := some 21) (v := ?_) (a' := ?_) #[true, false, false, false, false, false, false, false, false, false, false] rfl rfl (by kernel_rfl) (fun _ _ _ h => h) (Or.inl ⟨by rfl, ?_⟩) ?_ ?_
  rotate_left
  · intro w'
    go_simp
    with_reducible rfl
  rotate_left
  · simp only [Act.put, List.setIfInBounds_toArray, List.set_cons_zero, List.set_cons_succ, i64_w, i32_w]
    rfl
  refine pure_ (i := 2) (N := some 23) (v := ?_) (a' := ?_) #[true, false, true, false, false, false, false, false, false, false, false] rfl rfl (by kernel_rfl) (fun _ _ _ h => h) (Or.inl ⟨by rfl, ?_⟩) ?_ ?_
  rotate_left
  · intro w'
    go_simp
    with_reducible rfl
  rotate_left
  · simp only [Act.put, List.setIfInBounds_toArray, List.set_cons_zero, List.set_cons_succ, i64_w, i32_w]
    rfl
  refine pure_ (i := 3) (N := some 24) (v := ?_) (a' := ?_) #[true, false, true, true, false, false, false, false, false, false, false] rfl rfl (by kernel_rfl) (fun _ _ _ h => h) (Or.inl ⟨by rfl, ?_⟩) ?_ ?_
  rotate_left
  · intro w'
    go_simp
    with_reducible rfl
  rotate_left
  · simp only [Act.put, List.setIfInBounds_toArray, List.set_cons_zero, List.set_cons_succ, i64_w, i32_w]
    rfl
  refine pure_ (i := 4) (N := some 25) (v := ?_) (a' := ?_) #[true, false, true, true, true, false, false, false, false, false, false] rfl rfl (by kernel_rfl) (fun _ _ _ h => h) (Or.inl ⟨by rfl, ?_⟩) ?_ ?_
  rotate_left
  · intro w'
    go_simp
    with_reducible rfl
  rotate_left
  · simp only [Act.put, List.setIfInBounds_toArray, List.set_cons_zero, List.set_cons_succ, i64_w, i32_w]
    rfl
  refine take_ (i := 5) (N := some 26) (v := ?_) (a' := ?_) #[true, false, true, true, true, true, false, false, false, false, false] rfl rfl (by kernel_rfl) (fun _ _ _ h => h) (Or.inl ⟨by rfl, ?_⟩) hHeld ?_ ?_
  rotate_left
  · rintro w' ⟨s0, s1, s2, s3, s4, s5, s6, s7⟩
    go_simp
    with_reducible rfl
  rotate_left
  · simp only [Act.put, List.setIfInBounds_toArray, List.set_cons_zero, List.set_cons_succ, i64_w, i32_w]
    rfl
  refine join_ (σ := Option Addr × Nat × Nat) 4 #[true, true, true, true, true, true, true, false, false, false, false] (fun s => [(22, .slice s.1 l0.length s.2.1), (27, .slice (some ⟨s.2.2, 0, none⟩) 1 1)]) (fun s w' => Kd.R (kP w) 29 w' w.heap.size (fun _ => True) (.slice s.1 l0.length s.2.1) l0 ∧ ReadsRow (k29.K w) 8 w' (some ⟨s.2.2, 0, none⟩) 1 [x] ∧ Below w.heap.size w w') ?_ ?_
  rotate_left
  · intro hCont
    refine two_ (i := 1) (j := 6) (Ni := some 22) (Nj := some 27) #[true, true, true, true, true, true, false, false, false, false, false] #[true, false, true, true, true, true, true, false, false, false, false] rfl rfl rfl rfl (by kernel_rfl) (by decide) (by decide) (fun K hK => ?_) (fun K hK => ?_)
    · skip
      refine goes_ Try.func53 (by kernel_rfl) rfl #[.slice (some ad) l0.length c0] (by rfl) rfl rfl (by (try simp only [List.map_toArray, List.map_cons, List.map_nil]); first | done | rfl) ?_
      refine (clone_msgs0 w (some ad) c0 l0 (w3) (ReadsRow.imp_ HR0.out HB3.out (fun _ _ h => h)) HC0.out HN.out).mono ?_
      rintro e w4 ⟨v, rfl, h1, hb⟩
      refine ⟨_, rfl, ?_⟩
      obtain ⟨A1, c1, rfl⟩ := Kd.R_slice h1
      have HCL4 := Aside0.mk (Kd.R_lower h1 HB3.out.size)
      have HB4 := Aside0.mk (HB3.out.trans (hb.mono HB3.out.size))
      clear h1 hb
      refine hK.out _ _ ⟨(HQ.out _ HB4.out).1, (HQ.out _ HB4.out).2.1, (HQ.out _ HB4.out).2.2.1, (HQ.out _ HB4.out).2.2.2.1, (HQ.out _ HB4.out).2.2.2.2.1, (HQ.out _ HB4.out).2.2.2.2.2.1, (HQ.out _ HB4.out).2.2.2.2.2.2.1, (HQ.out _ HB4.out).2.2.2.2.2.2.2⟩ (fun hHeld => ?_)
      clear hK K
      refine norm_ (a' := ?_) ?_ ?_
      rotate_left
      · show Act.put _ (some 22) _ = _
        simp only [Act.put, List.setIfInBounds_toArray, List.set_cons_zero, List.set_cons_succ, i64_w, i32_w]
        rfl
      refine one_ (i := 6) (N := some 27) #[true, true, true, true, true, true, true, false, false, false, false] rfl rfl (by kernel_rfl) (by decide) (fun K hK => ?_)
      refine value_ (w1 := ?_) (v := ?_) (by rfl) rfl ?_ ?_
      rotate_left 2
      · go_simp
        constructor
        · rfl
        · rfl
      have HB5 := Aside0.mk (HB4.out.alloc HB4.out.size (.cells #[.int .i64 x.f0, .int .i64 x.f1, .int .i64 x.f2, .int .i64 x.f3, .int .i64 x.f4, .int .i64 x.f5, .int .i64 x.f6, .slice A7 x.f7.length c7] 29))
      have HCL5 := Aside0.mk (Kd.R_alloc HCL4.out (.cells #[.int .i64 x.f0, .int .i64 x.f1, .int .i64 x.f2, .int .i64 x.f3, .int .i64 x.f4, .int .i64 x.f5, .int .i64 x.f6, .slice A7 x.f7.length c7] 29))
      have HL5 := Aside0.mk (lit_msg w w4 rfl HKX.out)
      refine hK.out _ _ ⟨(HQ.out _ HB5.out).1, (HQ.out _ HB5.out).2.1, (HQ.out _ HB5.out).2.2.1, (HQ.out _ HB5.out).2.2.2.1, (HQ.out _ HB5.out).2.2.2.2.1, (HQ.out _ HB5.out).2.2.2.2.2.1, (HQ.out _ HB5.out).2.2.2.2.2.2.1, (HQ.out _ HB5.out).2.2.2.2.2.2.2⟩ (fun hHeld => ?_)
      clear hK K
      refine norm_ (a' := ?_) ?_ ?_
      rotate_left
      · show Act.put _ (some 27) _ = _
        simp only [Act.put, List.setIfInBounds_toArray, List.set_cons_zero, List.set_cons_succ, i64_w, i32_w]
        rfl
      exact norm_ (by simp only [putAll, Act.put, List.setIfInBounds_toArray, List.set_cons_zero, List.set_cons_succ]) (hCont (A1, c1, w4.heap.size) _ ⟨HCL5.out, HL5.out, HB5.out⟩)
    · skip
      refine value_ (w1 := ?_) (v := ?_) (by rfl) rfl ?_ ?_
      rotate_left 2
      · go_simp
        constructor
        · rfl
        · rfl
      have HB4 := Aside0.mk (HB3.out.alloc HB3.out.size (.cells #[.int .i64 x.f0, .int .i64 x.f1, .int .i64 x.f2, .int .i64 x.f3, .int .i64 x.f4, .int .i64 x.f5, .int .i64 x.f6, .slice A7 x.f7.length c7] 29))
      have HL4 := Aside0.mk (lit_msg w w3 rfl HKX.out)
      refine hK.out _ _ ⟨(HQ.out _ HB4.out).1, (HQ.out _ HB4.out).2.1, (HQ.out _ HB4.out).2.2.1, (HQ.out _ HB4.out).2.2.2.1, (HQ.out _ HB4.out).2.2.2.2.1, (HQ.out _ HB4.out).2.2.2.2.2.1, (HQ.out _ HB4.out).2.2.2.2.2.2.1, (HQ.out _ HB4.out).2.2.2.2.2.2.2⟩ (fun hHeld => ?_)
      clear hK K
      refine norm_ (a' := ?_) ?_ ?_
      rotate_left
      · show Act.put _ (some 27) _ = _
        simp only [Act.put, List.setIfInBounds_toArray, List.set_cons_zero, List.set_cons_succ, i64_w, i32_w]
        rfl
      refine one_ (i := 1) (N := some 22) #[true, true, true, true, true, true, true, false, false, false, false] rfl rfl (by kernel_rfl) (by decide) (fun K hK => ?_)
      refine goes_ Try.func53 (by kernel_rfl) rfl #[.slice (some ad) l0.length c0] (by rfl) rfl rfl (by (try simp only [List.map_toArray, List.map_cons, List.map_nil]); first | done | rfl) ?_
      refine (clone_msgs0 w (some ad) c0 l0 (w3.alloc (.cells #[.int .i64 x.f0, .int .i64 x.f1, .int .i64 x.f2, .int .i64 x.f3, .int .i64 x.f4, .int .i64 x.f5, .int .i64 x.f6, .slice A7 x.f7.length c7] 29)) (ReadsRow.imp_ HR0.out HB4.out (fun _ _ h => h)) HC0.out HN.out).mono ?_
      rintro e w5 ⟨v, rfl, h1, hb⟩
      refine ⟨_, rfl, ?_⟩
      obtain ⟨A1, c1, rfl⟩ := Kd.R_slice h1
      have HCL5 := Aside0.mk (Kd.R_lower h1 HB4.out.size)
      have HL5 := Aside0.mk (ReadsRow.imp_ HL4.out hb (fun _ _ h => h))
      have HB5 := Aside0.mk (HB4.out.trans (hb.mono HB4.out.size))
      clear h1 hb
      refine hK.out _ _ ⟨(HQ.out _ HB5.out).1, (HQ.out _ HB5.out).2.1, (HQ.out _ HB5.out).2.2.1, (HQ.out _ HB5.out).2.2.2.1, (HQ.out _ HB5.out).2.2.2.2.1, (HQ.out _ HB5.out).2.2.2.2.2.1, (HQ.out _ HB5.out).2.2.2.2.2.2.1, (HQ.out _ HB5.out).2.2.2.2.2.2.2⟩ (fun hHeld => ?_)
      clear hK K
      refine norm_ (a' := ?_) ?_ ?_
      rotate_left
      · show Act.put _ (some 22) _ = _
        simp only [Act.put, List.setIfInBounds_toArray, List.set_cons_zero, List.set_cons_succ, i64_w, i32_w]
        rfl
      exact norm_ (by simp only [putAll, Act.put, List.setIfInBounds_toArray, List.set_cons_zero, List.set_cons_succ]) (hCont (A1, c1, w3.heap.size) _ ⟨HCL5.out, HL5.out, HB5.out⟩)
  rintro ⟨A1, c1, g⟩ w8 ⟨hC8, hL8, hB8⟩
  have HCL8 := Aside0.mk hC8
  have HL8 := Aside0.mk hL8
  have HB8 := Aside0.mk hB8
  clear hC8 hL8 hB8
  have hHeld : w8.cell? (ad.add (k * 8)) = some (.int .i64 x.f0) ∧ w8.cell? ⟨(ad.add (k * 8)).block, (ad.add (k * 8)).off + 1, none⟩ = some (.int .i64 x.f1) ∧ w8.cell? ⟨(ad.add (k * 8)).block, (ad.add (k * 8)).off + 2, none⟩ = some (.int .i64 x.f2) ∧ w8.cell? ⟨(ad.add (k * 8)).block, (ad.add (k * 8)).off + 3, none⟩ = some (.int .i64 x.f3) ∧ w8.cell? ⟨(ad.add (k * 8)).block, (ad.add (k * 8)).off + 4, none⟩ = some (.int .i64 x.f4) ∧ w8.cell? ⟨(ad.add (k * 8)).block, (ad.add (k * 8)).off + 5, none⟩ = some (.int .i64 x.f5) ∧ w8.cell? ⟨(ad.add (k * 8)).block, (ad.add (k * 8)).off + 6, none⟩ = some (.int .i64 x.f6) ∧ w8.cell? ⟨(ad.add (k * 8)).block, (ad.add (k * 8)).off + 7, none⟩ = some (.slice A7 x.f7.length c7) := ⟨(HQ.out _ HB8.out).1, (HQ.out _ HB8.out).2.1, (HQ.out _ HB8.out).2.2.1, (HQ.out _ HB8.out).2.2.2.1, (HQ.out _ HB8.out).2.2.2.2.1, (HQ.out _ HB8.out).2.2.2.2.2.1, (HQ.out _ HB8.out).2.2.2.2.2.2.1, (HQ.out _ HB8.out).2.2.2.2.2.2.2⟩
  refine norm_ (a' := ?_) ?_ ?_
  rotate_left
  · simp only [putAll, Act.put, List.setIfInBounds_toArray, List.set_cons_zero, List.set_cons_succ]
    rfl
  refine last_ (i := 7) (N := some 28) #[true, true, true, true, true, true, true, true, false, false, false] rfl rfl (by kernel_rfl) (by decide) (fun K hK => ?_)
  refine Kd.R_append_rows_step (kP w) (w0 := w) w.heap.size rfl (.tmp 22) (.tmp 27) 22 29 (.agg #[(.int .i64 0), (.int .i64 0), (.int .i64 0), (.int .i64 0), (.int .i64 0), (.int .i64 0), (.int .i64 0), (.slice none 0 0)]) 80 rfl Try.underlying22 msg_info rfl (show (0 : Nat) < 8 by decide) (by omega) (.slice A1 l0.length c1) l0 [x] (some ⟨g, 0, none⟩) 1 1 (fun _ => True) (fun _ => False) rfl rfl HCL8.out HL8.out (fun _ _ h => h) (fun _ h => h.elim) (fun _ _ => trivial) HB8.out HB8.out.size (by have := HN.out; omega) ?_
  rw [← HR1.out]
  intro v1 w9 ho hb _ _
  obtain ⟨A9, c9, rfl⟩ := Kd.R_slice ho
  have HB9 := Aside0.mk hb
  have HR9 := Aside0.mk (kP_reads ho hb)
  have HC9 := Aside0.mk (Kd.R_reads' ho).2.1
  clear ho hb
  refine hK.out _ _ ?_
  clear hK K
  refine norm_ (a' := ?_) ?_ ?_
  rotate_left
  · show Act.put _ (some 28) _ = _
    simp only [Act.put, List.setIfInBounds_toArray, List.set_cons_zero, List.set_cons_succ, i64_w, i32_w]
    rfl
  refine last_ (i := 8) (N := some 29) #[true, true, true, true, true, true, true, true, true, false, false] rfl rfl (by kernel_rfl) (by decide) (fun K hK => ?_)
  refine goes_ Try.func50 (by kernel_rfl) rfl #[.slice A9 r1.length c9] (by rfl) rfl rfl (by (try simp only [List.map_toArray, List.map_cons, List.map_nil]); first | done | rfl) ?_
  refine (net_own.calls A9 c9 r1 r1 w9 HR9.out HC9.out HF.out).mono ?_
  rintro e wa ⟨v, rfl, h1, hb⟩
  refine ⟨_, rfl, ?_⟩
  have HO1 := Aside0.mk (Kd.R_lower h1 HB9.out.size)
  have HB1 := Aside0.mk (HB9.out.trans (hb.mono HB9.out.size))
  clear h1 hb
  refine hK.out _ _ ?_
  clear hK K
  refine norm_ (a' := ?_) ?_ ?_
  rotate_left
  · show Act.put _ (some 29) _ = _
    simp only [Act.put, List.setIfInBounds_toArray, List.set_cons_zero, List.set_cons_succ, i64_w, i32_w]
    rfl
  refine pure_ (i := 9) (N := some 4) (v := ?_) (a' := ?_) #[true, true, true, true, true, true, true, true, true, true, false] rfl rfl (by kernel_rfl) (fun _ _ _ h => h) (Or.inl ⟨by rfl, ?_⟩) ?_ ?_
  rotate_left
  · intro w'
    go_simp
    with_reducible rfl
  rotate_left
  · simp only [Act.put, List.setIfInBounds_toArray, List.set_cons_zero, List.set_cons_succ, i64_w, i32_w]
    rfl
  refine pure_ (i := 10) (N := some 5) (v := ?_) (a' := ?_) #[true, true, true, true, true, true, true, true, true, true, true] rfl rfl (by kernel_rfl) (fun _ _ _ h => h) (Or.inl ⟨by rfl, ?_⟩) ?_ ?_
  rotate_left
  · intro w'
    go_simp
    with_reducible rfl
  rotate_left
  · simp only [Act.put, List.setIfInBounds_toArray, List.set_cons_zero, List.set_cons_succ, i64_w, i32_w]
    rfl
  refine done_ (by kernel_rfl) ?_
  clear hHeld
  go_wp2
  go_ret2
  exact ⟨_, rfl, HO1.out, HB1.out⟩

theorem net_Copy.calls (A0 : Option Addr) (c0 : Nat) (l0 : List S29) (a1 : Int) (r1 : List S29) (r2 : Bool) (w : World) (hr0 : Kd.C k29 w A0 l0.length l0) (hc0 : l0.length ≤ c0) (h : net_Copy.f l0 a1 = some (r1, r2)) :
    Calls Try.prog 19 #[.slice A0 l0.length c0, .int .i64 a1] w fun e w' => ∃ v0_ : Value, e = .returned (.tuple #[v0_, .bool r2]) ∧ Kd.R k29 29 w' w.heap.size (fun _ => True) v0_ r1 ∧ Below w.heap.size w w' := by
  unfold net_Copy.f at h
  split at h
  rotate_left
  · cases h
  rename_i hl
  have h2 := Option.some.inj h
  unfold copyM at h2
  by_cases ho : a1 < 0 ∨ a1 ≥ (l0.length : Int) ∨ 200 ≤ l0.length
  · rw [if_pos ho] at h2
    cases h2
    exact net_Copy_out A0 c0 l0 a1 w hr0 hc0 ho (by unfold net_own.f; rw [if_pos hl])
  · rw [if_neg ho] at h2
    cases h2
    obtain ⟨k, rfl⟩ : ∃ k : Nat, a1 = (k : Int) := ⟨a1.toNat, by omega⟩
    refine net_Copy_in A0 c0 l0 k _ w hr0 hc0 (by omega) (by omega) rfl _ rfl ?_
    unfold net_own.f
    rw [if_pos]
    refine ⟨by rw [List.length_append, List.length_singleton]; omega, fun y hy => ?_⟩
    rcases List.mem_append.1 hy with hy | hy
    · exact hl.2 y hy
    · rw [List.mem_singleton] at hy
      subst hy
      rw [rd_msg l0 k (by omega)]
      exact hl.2 _ (List.getElem_mem _)
end Go.Proofs.Ytfejidinfcmfjaa.P
