/-
  What 'far' and 'Short' of chapter 1's statements tell.
-/
import Derived.Test.YtnkakhcombmdoaaLcodecRef
import Derived.Test.YtnkakhcombmdoaaFsextonlaw01far
import Derived.Test.YtnkakhcombmdoaaFsextonref01Short
namespace Go.Proofs.Ytnkakhcombmdoaa.P
open Go.RowKit Go.Proofs.CodecPlain Go.Proofs.YtnkakhcombmdoaaW.PrintWords Go.Proofs.YtnkakhcombmdoaaW.PrintLast

def farS (s : ByteArray) : Bool := decide (300 < s.size ∧ s.size ≤ 4000 ∨ 4100 < s.size)
def farB (l : List ByteArray) : Bool := if l.length ≤ 60 then l.any farS else decide (l.length ≤ 1000 ∨ 1100 < l.length)

theorem far_l0 (l : List ByteArray) (hl : l.length ≤ 60) (d : Nat) : ∀ k : Nat, k + d = l.length → Ev (fun r => sextonlaw01_far.l0 r l (k : Int)) ((l.drop k).any farS) := by
  induction d with
  | zero =>
    intro k hk
    have hd : l.drop k = [] := List.drop_of_length_le (by omega)
    rw [hd]
    refine Ev.step (f := fun r => sextonlaw01_far.j1 r l (k : Int) false) (fun r => by simp only [sextonlaw01_far.l0]; rw [if_neg (by omega)]) ?_
    refine Ev.step (f := fun _ => some false) (fun r => ?_) (Ev.now _)
    simp only [sextonlaw01_far.j1]
    rw [if_neg (by decide), if_neg (by omega), decide_eq_false (by omega)]
  | succ d ih =>
    intro k hk
    have hlt : k < l.length := by omega
    have hd : l.drop k = l[k] :: l.drop (k + 1) := List.drop_eq_getElem_cons hlt
    have hn := ih (k + 1) (by omega)
    refine Ev.step (f := fun r => sextonlaw01_far.j1 r l (k : Int) true) (fun r => by simp only [sextonlaw01_far.l0]; rw [if_pos (by omega), decide_eq_true (by omega)]) ?_
    by_cases hf : farS l[k] = true
    · refine Ev.step (f := fun _ => some true) (fun r => ?_) ?_
      · have := of_decide_eq_true hf
        simp only [sextonlaw01_far.j1]
        rw [if_pos trivial, if_pos (by omega), if_pos (by omega), rd_string l k hlt]
        by_cases h3 : ((l[k].size : Int) > 300)
        · rw [if_pos h3]
          by_cases h4 : ((l[k].size : Int) ≤ 4000)
          · rw [if_pos h4]
          · rw [if_neg h4, if_pos (by omega)]
        · omega
      · rw [hd, List.any_cons, hf]
        exact Ev.now _
    · have hf' : farS l[k] = false := by simpa using hf
      have := of_decide_eq_false hf'
      refine Ev.step (f := fun r => sextonlaw01_far.l0 r l ((k + 1 : Nat) : Int)) (fun r => ?_) ?_
      · simp only [sextonlaw01_far.j1]
        rw [if_pos trivial, if_pos (by omega), if_pos (by omega), rd_string l k hlt, wrap_id (by omega) (by omega)]
        by_cases h3 : ((l[k].size : Int) > 300)
        · rw [if_pos h3, if_neg (by omega), if_neg (by omega)]; rfl
        · rw [if_neg h3, if_neg (by omega)]; rfl
      · rw [hd, List.any_cons, hf', Bool.false_or]
        exact hn
theorem far_ev (l : List ByteArray) : Ev (fun r => sextonlaw01_far.f r l) (farB l) := by
  unfold farB
  by_cases hl : l.length ≤ 60
  · rw [if_pos hl]
    have := far_l0 l hl l.length 0 (by omega)
    exact this
  · rw [if_neg hl]
    refine Ev.step (f := fun r => sextonlaw01_far.j1 r l 0 false) (fun r => ?_) ?_
    · show sextonlaw01_far.l0 (r + 1) l 0 = _
      simp only [sextonlaw01_far.l0]
      rw [if_pos (by omega), decide_eq_false (by omega)]
    · refine Ev.step (f := fun _ => some (decide (l.length ≤ 1000 ∨ 1100 < l.length))) (fun r => ?_) (Ev.now _)
      simp only [sextonlaw01_far.j1]
      rw [if_neg (by decide), if_pos (by omega)]
      by_cases h : (l.length : Int) ≤ 1000
      · rw [if_pos h, decide_eq_true (by omega)]
      · rw [if_neg h]
        congr 1
        by_cases h2 : l.length ≤ 1100
        · rw [decide_eq_false (by omega), decide_eq_false (by omega)]
        · rw [decide_eq_true (by omega), decide_eq_true (by omega)]
theorem far_len {l : List ByteArray} (h : farB l = false) : l.length ≤ 1100 := by
  unfold farB at h
  split at h
  · omega
  · have := of_decide_eq_false h; omega

theorem short_l0 (l : List ByteArray) (hl : l.length ≤ 9223372036854775806) (d : Nat) : ∀ k : Nat, k + d = l.length → Ev (fun r => sextonref01_Short.l0 r l (k : Int)) ((l.drop k).all fun s => decide (s.size ≤ 300)) := by
  induction d with
  | zero =>
    intro k hk
    have hd : l.drop k = [] := List.drop_of_length_le (by omega)
    rw [hd]
    exact Ev.step (f := fun _ => some true) (fun r => by simp only [sextonref01_Short.l0]; rw [if_neg (by omega)]) (Ev.now _)
  | succ d ih =>
    intro k hk
    have hlt : k < l.length := by omega
    have hd : l.drop k = l[k] :: l.drop (k + 1) := List.drop_eq_getElem_cons hlt
    by_cases hs : l[k].size ≤ 300
    · refine Ev.step (f := fun r => sextonref01_Short.l0 r l ((k + 1 : Nat) : Int)) (fun r => ?_) ?_
      · simp only [sextonref01_Short.l0]
        rw [if_pos (by omega), if_pos (by omega), rd_string l k hlt, if_neg (by omega), wrap_id (by omega) (by omega)]
        rfl
      · rw [hd, List.all_cons, decide_eq_true hs, Bool.true_and]
        exact ih (k + 1) (by omega)
    · refine Ev.step (f := fun _ => some false) (fun r => ?_) ?_
      · simp only [sextonref01_Short.l0]
        rw [if_pos (by omega), if_pos (by omega), rd_string l k hlt, if_pos (by omega)]
      · rw [hd, List.all_cons, decide_eq_false hs, Bool.false_and]
        exact Ev.now _
theorem short_ev (l : List ByteArray) (hl : l.length ≤ 9223372036854775806) : Ev (fun r => sextonref01_Short.f r l) (l.all fun s => decide (s.size ≤ 300)) := by
  have := short_l0 l hl l.length 0 (by omega)
  exact this
end Go.Proofs.Ytnkakhcombmdoaa.P
