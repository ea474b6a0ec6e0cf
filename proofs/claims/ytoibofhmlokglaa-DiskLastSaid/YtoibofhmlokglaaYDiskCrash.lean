/-
  The plain statement of DiskCrash: behind a crash each block is its own, or one that was written to it.
-/
import Derived.Test.YtoibofhmlokglaaLdiskRead
import Derived.Test.YtoibofhmlokglaaMOpens
import Derived.Test.YtoibofhmlokglaaHspun
import Derived.Test.YtoibofhmlokglaaFsextonlaw04DiskCrash
namespace Go.Proofs.Ytoibofhmlokglaa.Pure
open Go.RowKit Go.Proofs.YtoibofhmlokglaaW.PrintWords Go.Proofs.YtoibofhmlokglaaW.PrintLast Go.Proofs.Ytoibofhmlokglaa.P Go.Proofs.Ytoibofhmlokglaa.Opens Go.Proofs.Plain

theorem rd_w (l : List S40) (k : Nat) (h : k < l.length) : rd_T40 l (k : Int) = l[k] := by
  simp [rd_T40, List.getD_eq_getElem?_getD, h]
theorem apply_from (p : Int → Bool) : ∀ (l : List S40) (i : Nat) (b : List ByteArray) (k : Nat), k < b.length →
    (applyW p i l b)[k]? = b[k]? ∨ ∃ x ∈ l, x.f0.toNat = k ∧ (applyW p i l b)[k]? = some x.f1
  | [], i, b, k, h => .inl rfl
  | y :: l, i, b, k, h => by
    simp only [applyW]
    by_cases hp : p (i : Int) = true
    · rw [if_pos hp]
      rcases apply_from p l (i + 1) (b.set y.f0.toNat y.f1) k (by simpa using h) with h1 | ⟨x, hx, h2, h3⟩
      · by_cases hk : y.f0.toNat = k
        · right
          refine ⟨y, List.mem_cons_self, hk, ?_⟩
          rw [h1, List.getElem?_set, if_pos hk, if_pos (by omega)]
        · left
          rw [h1, List.getElem?_set, if_neg hk]
      · exact .inr ⟨x, List.mem_cons_of_mem _ hx, h2, h3⟩
    · rw [if_neg hp]
      rcases apply_from p l (i + 1) b k h with h1 | ⟨x, hx, h2, h3⟩
      · exact .inl h1
      · exact .inr ⟨x, List.mem_cons_of_mem _ hx, h2, h3⟩

section
variable (l0 : List ByteArray) (l1 : List S40) (c : List ByteArray) (v : List S40) (hc : c.length = l0.length) (hl : l0.length ≤ 200) (hw : l1.length ≤ 100)
include hc hl hw

theorem crash_l1 (k : Nat) (hk : k < c.length) (next : Ev (fun r => sextonlaw04_DiskCrash.l0 r ((k + 1 : Nat) : Int) l0 l1 c v) true) (d : Nat) : ∀ (j : Nat) (b : Bool), j + d = l1.length →
    (b = true ∨ ∃ x ∈ l1.drop j, x.f0 = (k : Int) ∧ x.f1 = c[k]) → Ev (fun r => sextonlaw04_DiskCrash.l1 r (k : Int) b (j : Int) l0 l1 c v) true := by
  induction d with
  | zero =>
    intro j b hj hb
    have hb' : b = true := by
      rcases hb with h | ⟨x, hx, _⟩
      · exact h
      · rw [List.drop_of_length_le (by omega)] at hx; cases hx
    subst hb'
    refine Ev.step (f := fun r => sextonlaw04_DiskCrash.l0 r ((k + 1 : Nat) : Int) l0 l1 c v) (fun r => ?_) next
    simp only [sextonlaw04_DiskCrash.l1]
    rw [if_neg (by omega), if_pos trivial, wrap_at (by omega) (by omega)]
    rfl
  | succ d ih =>
    intro j b hj hb
    have hlt : j < l1.length := by omega
    have hd : l1.drop j = l1[j] :: l1.drop (j + 1) := List.drop_eq_getElem_cons hlt
    cases b with
    | true =>
      refine Ev.step (f := fun r => sextonlaw04_DiskCrash.l1 r (k : Int) true ((j + 1 : Nat) : Int) l0 l1 c v) (fun r => ?_) (ih (j + 1) true (by omega) (.inl rfl))
      simp only [sextonlaw04_DiskCrash.l1]
      rw [if_pos (by omega), if_pos trivial, wrap_at (by omega) (by omega)]
      rfl
    | false =>
      by_cases h1 : l1[j].f0 = (k : Int)
      · refine Ev.step (f := fun r => sextonlaw04_DiskCrash.l1 r (k : Int) (l1[j].f1.toList == c[k].toList) ((j + 1 : Nat) : Int) l0 l1 c v) (fun r => ?_) (ih (j + 1) _ (by omega) ?_)
        · simp only [sextonlaw04_DiskCrash.l1]
          rw [if_pos (by omega), if_neg (by decide), if_pos (by omega), rd_w l1 j hlt, if_pos h1, if_pos (by omega), if_pos (by omega), wrap_at (by omega) (by omega), rdOf_nat c k hk]
          rfl
        · rcases hb with h | ⟨x, hx, h2, h3⟩
          · cases h
          · rw [hd] at hx
            rcases List.mem_cons.1 hx with rfl | hx
            · left; rw [h3]; simp
            · exact .inr ⟨x, hx, h2, h3⟩
      · refine Ev.step (f := fun r => sextonlaw04_DiskCrash.l1 r (k : Int) false ((j + 1 : Nat) : Int) l0 l1 c v) (fun r => ?_) (ih (j + 1) _ (by omega) ?_)
        · simp only [sextonlaw04_DiskCrash.l1]
          rw [if_pos (by omega), if_neg (by decide), if_pos (by omega), rd_w l1 j hlt, if_neg h1, wrap_at (by omega) (by omega)]
          rfl
        · rcases hb with h | ⟨x, hx, h2, h3⟩
          · cases h
          · rw [hd] at hx
            rcases List.mem_cons.1 hx with rfl | hx
            · exact absurd h2 h1
            · exact .inr ⟨x, hx, h2, h3⟩
theorem crash_l0 (hin : ∀ k (h : k < c.length) (h' : k < l0.length), c[k] = l0[k] ∨ ∃ x ∈ l1, x.f0 = (k : Int) ∧ x.f1 = c[k]) (d : Nat) : ∀ k : Nat, k + d = c.length → Ev (fun r => sextonlaw04_DiskCrash.l0 r (k : Int) l0 l1 c v) true := by
  induction d with
  | zero =>
    intro k hk
    refine Ev.step (f := fun _ => some true) (fun r => ?_) (Ev.now _)
    simp only [sextonlaw04_DiskCrash.l0]
    rw [if_neg (by omega), sextonlaw04_spun_true]
    rfl
  | succ d ih =>
    intro k hk
    have h1 : k < c.length := by omega
    have h2 : k < l0.length := by omega
    refine Ev.step (f := fun r => sextonlaw04_DiskCrash.l1 r (k : Int) (c[k].toList == l0[k].toList) ((0 : Nat) : Int) l0 l1 c v) (fun r => ?_) ?_
    · simp only [sextonlaw04_DiskCrash.l0]
      rw [if_pos (by omega), if_pos (by omega), if_pos (by omega), rdOf_nat c k h1, rdOf_nat l0 k h2]
      rfl
    · refine crash_l1 l0 l1 c v hc hl hw k h1 (ih (k + 1) (by omega)) l1.length 0 _ (by omega) ?_
      rcases hin k h1 h2 with h | h
      · left; rw [h]; simp
      · exact .inr (by simpa using h)
end

theorem crash_parts (p : Int → Bool) {l0 : List ByteArray} {l1 : List S40} (h : checkB l0 l1 = true) (k : Nat) (hk : k < (applyW p 0 l1 l0).length) (hk' : k < l0.length) :
    (applyW p 0 l1 l0)[k] = l0[k] ∨ ∃ x ∈ l1, x.f0 = (k : Int) ∧ x.f1 = (applyW p 0 l1 l0)[k] := by
  obtain ⟨_, _, _, _, hx⟩ := check_len h
  rcases apply_from p l1 0 l0 k hk' with h1 | ⟨x, hm, h2, h3⟩
  · left
    rw [List.getElem?_eq_getElem hk, List.getElem?_eq_getElem hk'] at h1
    exact Option.some.inj h1
  · right
    rw [List.getElem?_eq_getElem hk] at h3
    have := hx x hm
    exact ⟨x, hm, by omega, (Option.some.inj h3).symm⟩
theorem crash_right (p : Int → Bool) {l0 : List ByteArray} {l1 : List S40} (h : checkB l0 l1 = true) : checkB (applyW p 0 l1 l0) [] = true := by
  obtain ⟨h1, h2, h3, h4, h5⟩ := check_len h
  unfold checkB
  have hany : (applyW p 0 l1 l0).any longS = false := by
    rw [List.any_eq_false]
    intro s hs
    obtain ⟨k, hk, rfl⟩ := List.getElem_of_mem hs
    have hsz : (applyW p 0 l1 l0)[k].size ≤ 256 := by
      rcases crash_parts p h k hk (by rw [applyW_length] at hk; exact hk) with e | ⟨x, hx, _, e⟩
      · rw [e]; exact h4 _ (List.getElem_mem _)
      · rw [← e]; exact (h5 x hx).2.2
    unfold longS
    simp
    omega
  rw [hany, applyW_length]
  simp
  omega

theorem DiskCrash (l0_0 : (List ByteArray)) (l0_1 : (List S40)) (l1 : (List Bool)) (h0 : (OkPair (OkList OkStr) (OkList (fun b : S40 => (OkPair (OkInt .i64) OkStr) (b.f0, b.f1)))) (l0_0, l0_1)) (h1 : (OkList OkTrue) l1) :
    ∃ k, sextonlaw04_DiskCrash.f k l0_0 l0_1 l1 = some true := by
  clear h0 h1
  obtain ⟨b, K, hb⟩ := far_ends l0_0 l0_1 (⟨#[]⟩ : ByteArray) l1
  simp only at hb
  by_cases hck : checkB l0_0 l0_1 = true
  · obtain ⟨g1, g2, g3, _, _⟩ := check_len hck
    obtain ⟨K2, e2⟩ := crash_l0 l0_0 l0_1 (applyW (keepB l1) 0 l0_1 l0_0) [] (applyW_length _ _ _ _) g2 g3 (fun k h h' => crash_parts (keepB l1) hck k h h') (applyW (keepB l1) 0 l0_1 l0_0).length 0 (by omega)
    simp only at e2
    refine ⟨K + K2 + 2, ?_⟩
    unfold sextonlaw04_DiskCrash.f
    rw [hb _ (by omega)]
    simp only [Option.bind_some]
    cases b with
    | true => simp [sextonlaw04_DiskCrash.j0, sextonlaw04_spun_true]
    | false =>
      rw [if_neg (by decide)]
      unfold disk_Check.f
      simp only [Option.bind_some, hck, Bool.not_true, sextonlaw04_DiskCrash.j0]
      rw [if_neg (by decide)]
      unfold disk_Crash.f doneV
      rw [if_pos hck]
      simp only [Option.bind_some, applyW_length, if_true, List.length_nil]
      rw [if_neg (by decide)]
      unfold disk_Check.f
      simp only [Option.bind_some, crash_right (keepB l1) hck, Bool.not_true, sextonlaw04_DiskCrash.j1]
      rw [if_neg (by decide)]
      exact e2 _ (by omega)
  · refine ⟨K + 2, ?_⟩
    unfold sextonlaw04_DiskCrash.f
    rw [hb _ (by omega)]
    simp only [Option.bind_some]
    unfold disk_Check.f
    have hck' : checkB l0_0 l0_1 = false := by simpa using hck
    cases b with
    | true => simp [sextonlaw04_DiskCrash.j0, sextonlaw04_spun_true]
    | false => simp [hck', sextonlaw04_DiskCrash.j0, sextonlaw04_spun_true]
end Go.Proofs.Ytoibofhmlokglaa.Pure
