/-
  The plain statement of CrcBack: what is put is got; frames one behind the other are all told.
-/
import Derived.Test.YtnkakhcombmdoaaLcrcLaw
import Derived.Test.YtnkakhcombmdoaaMOpens
import Derived.Test.YtnkakhcombmdoaaFsextonlaw03CrcBack
namespace Go.Proofs.Ytnkakhcombmdoaa.Pure
open Go.RowKit Go.Proofs.CodecPlain Go.Proofs.YtnkakhcombmdoaaW.PrintWords Go.Proofs.YtnkakhcombmdoaaW.PrintLast Go.Proofs.Ytnkakhcombmdoaa.P Go.Proofs.Ytnkakhcombmdoaa.B Go.Proofs.Ytnkakhcombmdoaa.Opens

theorem catF_size (l : List ByteArray) (h : ∀ s ∈ l, s.size ≤ 300) : (catStr (l.map frameOf)).size ≤ l.length * 309 := by
  induction l with
  | nil => exact Nat.le_refl _
  | cons t l ih =>
    have := ih (fun x hx => h x (List.mem_cons_of_mem _ hx))
    have h1 := h t List.mem_cons_self
    have h2 := frame_size t
    show (frameOf t ++ catStr (l.map frameOf)).size ≤ _
    rw [CodecPlain.size_append, List.length_cons]
    omega
theorem catF_snoc (l : List ByteArray) (k : Nat) (hk : k < l.length) : catStr ((l.take (k + 1)).map frameOf) = catStr ((l.take k).map frameOf) ++ frameOf l[k] := by
  rw [List.take_succ_eq_append_getElem hk, List.map_append, catStr_append]
  congr 1
  exact ba_ext (by show (frameOf l[k] ++ catStr []).data.toList = _; rw [app_list]; simp [catStr])

theorem back_end (l : List ByteArray) (rest : ByteArray) (h12 : l.length ≤ 12) (hr : rest.size ≤ 300) (hl : ∀ s ∈ l, s.size ≤ 300) :
    Ev (fun r => sextonlaw03_CrcBack.l0 r l rest (catStr (l.map frameOf)) (l.length : Int)) true := by
  have hcs := catF_size l hl
  obtain ⟨m1, hm1, a1⟩ := allF_cat l ⟨#[]⟩ (catStr (l.map frameOf)).size (fun t ht => by have := hl t ht; omega) (by rw [CodecPlain.size_append]; show _ + 0 ≤ _; omega)
  obtain ⟨m2, hm2, a2⟩ := allF_cat l rest (catStr (l.map frameOf) ++ rest).size (fun t ht => by have := hl t ht; omega) (Nat.le_refl _)
  have he : catStr (l.map frameOf) ++ (⟨#[]⟩ : ByteArray) = catStr (l.map frameOf) := ba_ext (by rw [app_list]; simp)
  have hno : allF m1 ⟨#[]⟩ = ([], ⟨#[]⟩) := by
    cases m1 with
    | zero => rfl
    | succ n => simp only [allF]; rw [if_neg (by decide)]
  rw [he, hno] at a1
  simp only [List.append_nil] at a1
  obtain ⟨K1, e1⟩ := all_of (catStr (l.map frameOf)) (by omega)
  obtain ⟨K2, e2⟩ := all_of (catStr (l.map frameOf) ++ rest) (by rw [CodecPlain.size_append]; omega)
  rw [a1] at e1
  rw [a2] at e2
  simp only at e1 e2
  have hless := allF_less m2 rest
  generalize (allF m2 rest).1 = X at *
  generalize (allF m2 rest).2 = Y at *
  obtain ⟨K3, e3⟩ := summed_ev
  obtain ⟨K4, e4⟩ := refTexts l l (by omega)
  obtain ⟨K5, e5⟩ := refTexts ((l ++ X).take ((l.length : Int) : Int).toNat) l (by simp; omega)
  simp only at e3 e4 e5
  refine ⟨K1 + K2 + K3 + K4 + K5 + 1, fun k hk => ?_⟩
  obtain ⟨m, rfl⟩ : ∃ m, k = m + 1 := ⟨k - 1, by omega⟩
  simp only [sextonlaw03_CrcBack.l0]
  rw [if_neg (by omega), e1 m (by omega)]
  simp only [Option.bind_some]
  rw [if_pos (by omega), e2 m (by omega)]
  simp only [Option.bind_some]
  rw [e3 m (by omega)]
  simp only [Option.bind_some, if_true]
  rw [e4 m (by omega)]
  simp only [Option.bind_some]
  rw [if_pos (by simp), if_pos (by show ((catStr (l.map frameOf)).size : Int) - (0 : Nat) = _; omega), if_pos (by rw [CodecPlain.size_append]; show _ ≥ ((catStr (l.map frameOf)).size : Int) - (0 : Nat); omega), if_pos (by simp; omega), if_pos (by omega), if_pos (by simp; omega), e5 m (by omega)]
  simp
theorem back_l0 (l : List ByteArray) (rest : ByteArray) (h12 : l.length ≤ 12) (hr : rest.size ≤ 300) (d : Nat) : ∀ k : Nat, k + d = l.length → (∀ i (h : i < l.length), i < k → l[i].size ≤ 300) →
    Ev (fun r => sextonlaw03_CrcBack.l0 r l rest (catStr ((l.take k).map frameOf)) (k : Int)) true := by
  induction d with
  | zero =>
    intro k hk hs
    obtain rfl : k = l.length := by omega
    rw [List.take_length]
    refine back_end l rest h12 hr (fun s hm => ?_)
    obtain ⟨i, hi, rfl⟩ := List.getElem_of_mem hm
    exact hs i hi hi
  | succ d ih =>
    intro k hk hs
    have hlt : k < l.length := by omega
    have hrd := rd_string l k hlt
    by_cases hb : l[k].size ≤ 300
    · have hcs := catF_size (l.take k) (fun s hm => by
        obtain ⟨i, hi, rfl⟩ := List.getElem_of_mem hm
        rw [List.length_take] at hi
        rw [List.getElem_take]
        exact hs i (by omega) (by omega))
      rw [List.length_take] at hcs
      have hf := frame_size l[k]
      obtain ⟨K1, e1⟩ := get_ev (frameOf l[k] ++ rest)
      rw [getFrame_put l[k] (by omega) rest] at e1
      obtain ⟨K2, e2⟩ := ih (k + 1) (by omega) (fun i h hi => by
        by_cases e : i = k
        · subst e; exact hb
        · exact hs i h (by omega))
      rw [catF_snoc l k hlt] at e2
      simp only at e1 e2
      refine ⟨K1 + K2 + 1, fun r hr' => ?_⟩
      obtain ⟨m, rfl⟩ : ∃ m, r = m + 1 := ⟨r - 1, by omega⟩
      simp only [sextonlaw03_CrcBack.l0]
      rw [if_pos (by omega), if_pos (by omega), hrd, if_neg (by omega), put_f, if_pos (by omega)]
      simp only [Option.bind_some]
      rw [if_pos (by omega), e1 m (by omega)]
      simp only [Option.bind_some, if_true]
      rw [if_pos (by omega), wrap_id (by omega) (by omega)]
      exact e2 m (by omega)
    · refine Ev.step (f := fun _ => some true) (fun r => ?_) (Ev.now _)
      simp only [sextonlaw03_CrcBack.l0]
      rw [if_pos (by omega), if_pos (by omega), hrd, if_pos (by omega)]

theorem CrcBack (l0 : (List ByteArray)) (a1 : ByteArray) (h0 : (OkList OkStr) l0) (h1 : OkStr a1) :
    ∃ k, sextonlaw03_CrcBack.f k l0 a1 = some true := by
  clear h0 h1
  by_cases h12 : (l0.length : Int) > 12
  · exact ⟨1, by unfold sextonlaw03_CrcBack.f; rw [if_pos h12]; simp [sextonlaw03_CrcBack.j0]⟩
  · by_cases h3 : (a1.size : Int) > 300
    · exact ⟨1, by unfold sextonlaw03_CrcBack.f; rw [if_neg h12, decide_eq_true h3]; simp [sextonlaw03_CrcBack.j0]⟩
    · obtain ⟨K, e⟩ := back_l0 l0 a1 (by omega) (by omega) l0.length 0 (by omega) (fun i h hi => by omega)
      simp only at e
      refine ⟨K + 1, ?_⟩
      unfold sextonlaw03_CrcBack.f
      rw [if_neg h12, decide_eq_false h3]
      simp only [sextonlaw03_CrcBack.j0]
      rw [if_neg (by decide)]
      exact e K (Nat.le_refl _)
end Go.Proofs.Ytnkakhcombmdoaa.Pure
