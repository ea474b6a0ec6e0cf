/-
  What disk.Read, Sync and Crash tell, plainly; 'far' of layer 4 ends.
-/
import Derived.Test.YtoibofhmlokglaaHdiskWrite
import Derived.Test.YtoibofhmlokglaaHdiskCrash
import Derived.Test.YtoibofhmlokglaaHdiskSync
import Derived.Test.YtoibofhmlokglaaFdiskRead
import Derived.Test.YtoibofhmlokglaaFsextonref04Big
import Derived.Test.YtoibofhmlokglaaFsextonlaw04far
namespace Go.Proofs.Ytoibofhmlokglaa.P
open Go.RowKit Go.Proofs.YtoibofhmlokglaaW.PrintWords Go.Proofs.YtoibofhmlokglaaW.PrintLast Go.Proofs.Plain

theorem wrap_at {x : Int} (h0 : -9223372036854775808 ≤ x) (h1 : x ≤ 9223372036854775807) : wrap64 x = x := by unfold wrap64; omega

/-- What disk.Read answers. -/
def readV (l0 : List ByteArray) (l1 : List S40) (at_ : Int) : ByteArray × Int :=
  if checkB l0 l1 = false then (⟨#[]⟩, 1) else if at_ < 0 ∨ at_ ≥ (l0.length : Int) then (⟨#[]⟩, 40) else (rdOf ByteArray.empty (applyW (fun _ => true) 0 l1 l0) at_, 0)
theorem read_f (l0 : List ByteArray) (l1 : List S40) (at_ : Int) : disk_Read.f l0 l1 at_ = some (readV l0 l1 at_) := by
  unfold disk_Read.f readV
  rw [open_f]
  simp only [Option.bind_some]
  by_cases h1 : checkB l0 l1 = false
  · simp [h1]
  · rw [if_neg h1, if_neg h1]
    by_cases h2 : at_ < 0 ∨ at_ ≥ (l0.length : Int)
    · simp [h2]
    · rw [if_neg h2, if_neg h2, if_pos rfl]
      have h1' : checkB l0 l1 = true := by simpa using h1
      unfold disk_Sync.f doneV
      rw [if_pos h1']
      simp only [Option.bind_some]
      rw [if_pos trivial, if_pos (by omega), if_pos (by rw [applyW_length]; omega)]
theorem check_write {l0 : List ByteArray} {l1 : List S40} {at_ : Int} {s : ByteArray} (h : checkB l0 l1 = true) (ha : ¬ (at_ < 0 ∨ at_ ≥ (l0.length : Int))) (hs : longS s = false) (hl : ¬ l1.length = 100) :
    checkB l0 (l1 ++ [⟨at_, s⟩]) = true := by
  unfold checkB at h ⊢
  simp only [Bool.and_eq_true, decide_eq_true_eq, Bool.not_eq_true'] at h ⊢
  obtain ⟨⟨⟨⟨h1, h2⟩, h3⟩, h4⟩, h5⟩ := h
  refine ⟨⟨⟨⟨h1, h2⟩, by simp; omega⟩, h4⟩, ?_⟩
  rw [List.any_append, h5]
  simp only [List.any_cons, List.any_nil, Bool.or_false, Bool.false_or]
  unfold oddW
  rw [hs]
  simp only [Bool.or_false, Bool.or_eq_false_iff, decide_eq_false_iff_not]
  omega
theorem rdOf_set (l : List ByteArray) (i : Int) (s : ByteArray) (k : Int) (hi : 0 ≤ i) (hil : i < (l.length : Int)) (hk : 0 ≤ k) : rdOf ByteArray.empty (l.set i.toNat s) k = if k = i then s else rdOf ByteArray.empty l k := by
  unfold rdOf
  rw [List.getD_eq_getElem?_getD, List.getD_eq_getElem?_getD, List.getElem?_set]
  by_cases h : k = i
  · subst h
    rw [if_pos rfl, if_pos rfl, if_pos (by omega)]; rfl
  · rw [if_neg h, if_neg (by omega)]

theorem big_l1 (l0 : List ByteArray) (l1 : List S40) (d : Nat) : ∀ (k : Nat) (x : Int), k + d = l1.length → ∃ b, Ev (fun r => sextonref04_Big.l1 r x (k : Int) l0 l1) b := by
  have tail : ∀ x : Int, ∃ b, (if (l0.length : Int) > 250 then (some true) else (if (l1.length : Int) > 150 then (some true) else (some (decide (x > 400))))) = some b := by
    intro x
    split
    · exact ⟨_, rfl⟩
    · split <;> exact ⟨_, rfl⟩
  induction d with
  | zero =>
    intro k x hk
    obtain ⟨b, hb⟩ := tail x
    exact ⟨b, Ev.step (f := fun _ => some b) (fun r => by simp only [sextonref04_Big.l1]; rw [if_neg (by omega)]; exact hb) (Ev.now _)⟩
  | succ d ih =>
    intro k x hk
    by_cases hl : (l1.length : Int) ≤ 150
    · obtain ⟨b, hb⟩ := ih (k + 1) (mx x (((rd_T40 l1 (k : Int)).f1).size : Int)) (by omega)
      refine ⟨b, Ev.step (f := fun r => sextonref04_Big.l1 r (mx x (((rd_T40 l1 (k : Int)).f1).size : Int)) ((k + 1 : Nat) : Int) l0 l1) (fun r => ?_) hb⟩
      simp only [sextonref04_Big.l1]
      rw [if_pos (by omega), if_pos hl, if_pos (by omega), wrap_at (by omega) (by omega)]
      rfl
    · obtain ⟨b, hb⟩ := tail x
      exact ⟨b, Ev.step (f := fun _ => some b) (fun r => by simp only [sextonref04_Big.l1]; rw [if_pos (by omega), if_neg hl]; exact hb) (Ev.now _)⟩
theorem big_l0 (l0 : List ByteArray) (l1 : List S40) (d : Nat) : ∀ (k : Nat) (x : Int), k + d = l0.length → ∃ b, Ev (fun r => sextonref04_Big.l0 r x (k : Int) l0 l1) b := by
  have tail : ∀ x : Int, ∃ b, Ev (fun r => sextonref04_Big.j1 r x l0 l1) b := by
    intro x
    obtain ⟨b, hb⟩ := big_l1 l0 l1 l1.length 0 x (by omega)
    exact ⟨b, Ev.step (f := fun r => sextonref04_Big.l1 r x ((0 : Nat) : Int) l0 l1) (fun r => by simp only [sextonref04_Big.j1]; rfl) hb⟩
  induction d with
  | zero =>
    intro k x hk
    obtain ⟨b, hb⟩ := tail x
    exact ⟨b, Ev.step (f := fun r => sextonref04_Big.j1 r x l0 l1) (fun r => by simp only [sextonref04_Big.l0]; rw [if_neg (by omega)]) hb⟩
  | succ d ih =>
    intro k x hk
    by_cases hl : (l0.length : Int) ≤ 250
    · obtain ⟨b, hb⟩ := ih (k + 1) (mx x ((rdOf ByteArray.empty l0 (k : Int)).size : Int)) (by omega)
      refine ⟨b, Ev.step (f := fun r => sextonref04_Big.l0 r (mx x ((rdOf ByteArray.empty l0 (k : Int)).size : Int)) ((k + 1 : Nat) : Int) l0 l1) (fun r => ?_) hb⟩
      simp only [sextonref04_Big.l0]
      rw [if_pos (by omega), if_pos hl, if_pos (by omega), wrap_at (by omega) (by omega)]
      rfl
    · obtain ⟨b, hb⟩ := tail x
      exact ⟨b, Ev.step (f := fun r => sextonref04_Big.j1 r x l0 l1) (fun r => by simp only [sextonref04_Big.l0]; rw [if_pos (by omega), if_neg hl]) hb⟩
theorem far_ends (l0 : List ByteArray) (l1 : List S40) (s : ByteArray) (l : List Bool) : ∃ b, Ev (fun k => sextonlaw04_far.f k l0 l1 s l) b := by
  obtain ⟨b, hb⟩ := big_l0 l0 l1 l0.length 0 0 (by omega)
  obtain ⟨c, hc⟩ : ∃ c, (if b = true then (some true) else (if (s.size : Int) > 400 then (some true) else (some (decide ((l.length : Int) > 200))))) = some c := by
    split
    · exact ⟨_, rfl⟩
    · split <;> exact ⟨_, rfl⟩
  refine ⟨c, ?_⟩
  unfold sextonlaw04_far.f
  refine Ev.bind hb ?_
  rw [hc]
  exact Ev.now _
end Go.Proofs.Ytoibofhmlokglaa.P
