/-
  What 'Same' of layer 4 tells, plainly.
-/
import Derived.Test.YtoibofhmlokglaaLdiskRead
import Derived.Test.YtoibofhmlokglaaFsextonref01Texts
import Derived.Test.YtoibofhmlokglaaFsextonref04Same
namespace Go.Proofs.Ytoibofhmlokglaa.P
open Go.RowKit Go.Proofs.YtoibofhmlokglaaW.PrintWords Go.Proofs.YtoibofhmlokglaaW.PrintLast Go.Proofs.Plain

theorem ba_eq {a b : ByteArray} (h : a.toList = b.toList) : a = b := by
  rw [ByteArray.toList_eq, ByteArray.toList_eq] at h
  obtain ⟨⟨x⟩⟩ := a; obtain ⟨⟨y⟩⟩ := b
  simp at h
  rw [h]
theorem rd_W (l : List S40) (k : Nat) (h : k < l.length) : rd_T40 l (k : Int) = l[k] := by
  simp [rd_T40, List.getD_eq_getElem?_getD, h]
theorem texts_l0 (a b : List ByteArray) (hl : a.length = b.length) (hm : a.length ≤ 9223372036854775806) (d : Nat) : ∀ k : Nat, k + d = a.length → Ev (fun r => sextonref01_Texts.l0 r a b (k : Int)) (decide (a.drop k = b.drop k)) := by
  induction d with
  | zero =>
    intro k hk
    have h1 : a.drop k = [] := List.drop_of_length_le (by omega)
    have h2 : b.drop k = [] := List.drop_of_length_le (by omega)
    rw [h1, h2]
    exact Ev.step (f := fun _ => some true) (fun r => by simp only [sextonref01_Texts.l0]; rw [if_neg (by omega)]) (Ev.now _)
  | succ d ih =>
    intro k hk
    have ha : k < a.length := by omega
    have hb : k < b.length := by omega
    have e1 : a.drop k = a[k] :: a.drop (k + 1) := List.drop_eq_getElem_cons ha
    have e2 : b.drop k = b[k] :: b.drop (k + 1) := List.drop_eq_getElem_cons hb
    by_cases he : a[k] = b[k]
    · refine Ev.step (f := fun r => sextonref01_Texts.l0 r a b ((k + 1 : Nat) : Int)) (fun r => ?_) ?_
      · simp only [sextonref01_Texts.l0]
        rw [if_pos (by omega), if_pos (by omega), if_pos (by omega), rdOf_nat a k ha, rdOf_nat b k hb, if_pos (by rw [he]), wrap_at (by omega) (by omega)]
        rfl
      · have := ih (k + 1) (by omega)
        rw [e1, e2, he]
        simp only [List.cons.injEq, true_and]
        exact this
    · refine Ev.step (f := fun _ => some false) (fun r => ?_) ?_
      · simp only [sextonref01_Texts.l0]
        rw [if_pos (by omega), if_pos (by omega), if_pos (by omega), rdOf_nat a k ha, rdOf_nat b k hb, if_neg (fun h => he (ba_eq h))]
      · rw [e1, e2, decide_eq_false (fun h => he (List.cons.inj h).1)]
        exact Ev.now _
theorem texts_ev (a b : List ByteArray) (hm : a.length ≤ 9223372036854775806) : Ev (fun r => sextonref01_Texts.f r a b) (decide (a = b)) := by
  by_cases hl : a.length = b.length
  · refine Ev.congr (f := fun r => sextonref01_Texts.l0 r a b 0) (fun r => by unfold sextonref01_Texts.f; rw [if_pos (by omega)]) ?_
    have := texts_l0 a b hl hm a.length 0 (by omega)
    simpa using this
  · rw [decide_eq_false (fun h => hl (by rw [h]))]
    exact Ev.congr (f := fun _ => some false) (fun r => by unfold sextonref01_Texts.f; rw [if_neg (by omega)]) (Ev.now _)

instance : DecidableEq S40 := fun a b => if h : a.f0 = b.f0 ∧ a.f1 = b.f1 then .isTrue (by cases a; cases b; simp_all) else .isFalse (fun e => h ⟨by rw [e], by rw [e]⟩)
theorem same_l0 (p q : List ByteArray) (a b : List S40) (hl : a.length = b.length) (hm : a.length ≤ 9223372036854775806) (d : Nat) : ∀ k : Nat, k + d = a.length → Ev (fun r => sextonref04_Same.l0 r (k : Int) p a q b) (decide (a.drop k = b.drop k)) := by
  induction d with
  | zero =>
    intro k hk
    have h1 : a.drop k = [] := List.drop_of_length_le (by omega)
    have h2 : b.drop k = [] := List.drop_of_length_le (by omega)
    rw [h1, h2]
    exact Ev.step (f := fun _ => some true) (fun r => by simp only [sextonref04_Same.l0]; rw [if_neg (by omega)]) (Ev.now _)
  | succ d ih =>
    intro k hk
    have ha : k < a.length := by omega
    have hb : k < b.length := by omega
    have e1 : a.drop k = a[k] :: a.drop (k + 1) := List.drop_eq_getElem_cons ha
    have e2 : b.drop k = b[k] :: b.drop (k + 1) := List.drop_eq_getElem_cons hb
    by_cases he : a[k] = b[k]
    · refine Ev.step (f := fun r => sextonref04_Same.l0 r ((k + 1 : Nat) : Int) p a q b) (fun r => ?_) ?_
      · simp only [sextonref04_Same.l0]
        rw [if_pos (by omega), if_pos (by omega), if_pos (by omega), rd_W a k ha, rd_W b k hb, he, if_neg (by simp), wrap_at (by omega) (by omega)]
        rfl
      · have := ih (k + 1) (by omega)
        rw [e1, e2, he]
        simp only [List.cons.injEq, true_and]
        exact this
    · refine Ev.step (f := fun _ => some false) (fun r => ?_) ?_
      · simp only [sextonref04_Same.l0]
        rw [if_pos (by omega), if_pos (by omega), if_pos (by omega), rd_W a k ha, rd_W b k hb, if_pos ?_]
        by_cases h0 : a[k].f0 = b[k].f0
        · have h1 : ¬ a[k].f1.toList = b[k].f1.toList := fun h => he (by
            have := ba_eq h
            revert h0 this
            generalize a[k] = x; generalize b[k] = y
            intro h0 h1; cases x; cases y; simp_all)
          simp [h0, h1]
        · simp [h0]
      · rw [e1, e2, decide_eq_false (fun h => he (List.cons.inj h).1)]
        exact Ev.now _
theorem same_ev (p q : List ByteArray) (a b : List S40) (hp : p.length ≤ 9223372036854775806) (ha : a.length ≤ 9223372036854775806) : Ev (fun r => sextonref04_Same.f r p a q b) (decide (p = q ∧ a = b)) := by
  have ht := texts_ev p q hp
  unfold sextonref04_Same.f
  refine Ev.bind ht ?_
  by_cases h1 : p = q
  · refine Ev.congr (f := fun r => sextonref04_Same.j0 r ((a.length : Int) != (b.length : Int)) p a q b) (fun r => by rw [if_pos (by simp [h1])]) ?_
    by_cases h2 : a.length = b.length
    · refine Ev.step (f := fun r => sextonref04_Same.l0 r ((0 : Nat) : Int) p a q b) (fun r => by simp only [sextonref04_Same.j0]; rw [if_neg (by simp [h2])]; rfl) ?_
      have := same_l0 p q a b h2 ha a.length 0 (by omega)
      simpa [h1] using this
    · rw [decide_eq_false (fun h => h2 (by rw [h.2]))]
      exact Ev.step (f := fun _ => some false) (fun r => by simp only [sextonref04_Same.j0]; rw [if_pos (by simp; omega)]) (Ev.now _)
  · rw [decide_eq_false (fun h : p = q ∧ a = b => h1 h.1)]
    refine Ev.congr (f := fun r => sextonref04_Same.j0 r true p a q b) (fun r => by rw [if_neg (by simp [h1])]) ?_
    exact Ev.step (f := fun _ => some false) (fun r => by simp only [sextonref04_Same.j0]; rw [if_pos trivial]) (Ev.now _)
theorem same_yes (p : List ByteArray) (a : List S40) (hp : p.length ≤ 9223372036854775806) (ha : a.length ≤ 9223372036854775806) : Ev (fun r => sextonref04_Same.f r p a p a) true := by
  have := same_ev p p a a hp ha
  simpa using this

theorem apply_congr {p q : Int → Bool} : ∀ (l : List S40) (i : Nat) (b : List ByteArray), (∀ j : Nat, i ≤ j → j < i + l.length → p (j : Int) = q (j : Int)) → applyW p i l b = applyW q i l b
  | [], i, b, _ => rfl
  | y :: l, i, b, h => by
    simp only [applyW]
    rw [h i (Nat.le_refl _) (by simp)]
    exact apply_congr l (i + 1) _ (fun j h1 h2 => h j (by omega) (by simp; omega))
theorem apply_none {p : Int → Bool} (hp : ∀ j : Nat, p (j : Int) = false) : ∀ (l : List S40) (i : Nat) (b : List ByteArray), applyW p i l b = b
  | [], i, b => rfl
  | y :: l, i, b => by
    simp only [applyW]
    rw [hp i, if_neg (by decide)]
    exact apply_none hp l (i + 1) b
end Go.Proofs.Ytoibofhmlokglaa.P
