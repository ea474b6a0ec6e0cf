/-
  Rows that rise: put, drop and find keep them so; rows that rise and have the same pairs are the same row.
-/
import Derived.Test.YtoiohlmiofplcaaLnodeList
import Derived.Test.YtoiohlmiofplcaaFsextonref09Big
namespace Go.Proofs.Ytoiohlmiofplcaa.ND
open Go.RowKit Go.Proofs.YtoiohlmiofplcaaW.PrintWords Go.Proofs.YtoiohlmiofplcaaW.PrintLast Go.Proofs.Ytoiohlmiofplcaa.P Go.Proofs.Plain

theorem ris_behind {l : List KV} {k : KY} {A M C : List KV} (hr : Ris l) (h : Dec l k A M C) : ∀ c ∈ C, lt k c.f0 = true := by
  unfold Ris at hr
  rw [h.eq] at hr
  have hMC := (List.pairwise_append.1 hr).2.1
  intro c hc
  rcases h.mid with rfl | ⟨m, rfl, hm⟩
  · cases C with
    | nil => cases hc
    | cons b C' =>
      obtain ⟨h1, h2⟩ := h.behind rfl b C' rfl
      have hb := lt_of_not h1 h2
      rcases List.mem_cons.1 hc with rfl | hc
      · exact hb
      · exact lt_trans hb ((List.pairwise_cons.1 hMC).1 c hc)
  · have := (List.pairwise_cons.1 hMC).1 c hc
    rw [hm] at this
    exact this
theorem ris_parts {l : List KV} {k : KY} {A M C : List KV} (hr : Ris l) (h : Dec l k A M C) : Ris A ∧ Ris C ∧ ∀ a ∈ A, ∀ c ∈ C, lt a.f0 c.f0 = true := by
  unfold Ris at *
  rw [h.eq] at hr
  obtain ⟨h1, h2, h3⟩ := List.pairwise_append.1 hr
  exact ⟨h1, (List.pairwise_append.1 h2).2.1, fun a ha c hc => h3 a ha c (List.mem_append_right _ hc)⟩
theorem ris_put {l : List KV} {k : KY} {A M C : List KV} (hr : Ris l) (h : Dec l k A M C) (v : ByteArray) : Ris (A ++ ⟨k, v⟩ :: C) := by
  obtain ⟨h1, h2, h3⟩ := ris_parts hr h
  have hb := ris_behind hr h
  unfold Ris at *
  refine List.pairwise_append.2 ⟨h1, List.pairwise_cons.2 ⟨fun c hc => hb c hc, h2⟩, fun a ha c hc => ?_⟩
  rcases List.mem_cons.1 hc with rfl | hc
  · exact h.ahead a ha
  · exact h3 a ha c hc
theorem ris_drop {l : List KV} {k : KY} {A M C : List KV} (hr : Ris l) (h : Dec l k A M C) : Ris (A ++ C) := by
  obtain ⟨h1, h2, h3⟩ := ris_parts hr h
  unfold Ris at *
  exact List.pairwise_append.2 ⟨h1, h2, h3⟩
theorem dec_put {l : List KV} {k : KY} {A M C : List KV} (h : Dec l k A M C) (v : ByteArray) : Dec (A ++ ⟨k, v⟩ :: C) k A [⟨k, v⟩] C :=
  ⟨rfl, h.ahead, .inr ⟨_, rfl, rfl⟩, fun e => by cases e⟩
theorem dec_drop {l : List KV} {k : KY} {A M C : List KV} (hr : Ris l) (h : Dec l k A M C) : Dec (A ++ C) k A [] C := by
  refine ⟨rfl, h.ahead, .inl rfl, fun _ x C' e => ?_⟩
  have := ris_behind hr h x (by rw [e]; exact List.mem_cons_self)
  exact ⟨lt_asymm this, fun e => by rw [e, lt_irrefl] at this; cases this⟩
theorem dec_mem {l : List KV} {y : KV} (hr : Ris l) (hy : y ∈ l) : ∃ A C, Dec l y.f0 A [y] C := by
  obtain ⟨A, M, C, h⟩ := dec_exists l y.f0
  have hA : y ∉ A := fun hm => by have := h.ahead y hm; rw [lt_irrefl] at this; cases this
  have hC : y ∉ C := fun hm => by have := ris_behind hr h y hm; rw [lt_irrefl] at this; cases this
  rw [h.eq] at hy
  rcases List.mem_append.1 hy with hy | hy
  · exact absurd hy hA
  · rcases List.mem_append.1 hy with hy | hy
    · rcases h.mid with rfl | ⟨m, rfl, hm⟩
      · cases hy
      · obtain rfl : y = m := by simpa using hy
        exact ⟨A, C, h⟩
    · exact absurd hy hC
theorem mem_put {l : List KV} {x : KV} {A M C : List KV} (hr : Ris l) (h : Dec l x.f0 A M C) (y : KV) : y ∈ A ++ x :: C ↔ y = x ∨ (y ∈ l ∧ y.f0 ≠ x.f0) := by
  have hA : ∀ y ∈ A, y.f0 ≠ x.f0 := fun y hy => lt_ne (h.ahead y hy)
  have hC : ∀ y ∈ C, y.f0 ≠ x.f0 := fun y hy e => lt_ne (ris_behind hr h y hy) e.symm
  rw [h.eq]
  simp only [List.mem_append, List.mem_cons]
  constructor
  · rintro (hy | rfl | hy)
    · exact .inr ⟨.inl hy, hA y hy⟩
    · exact .inl rfl
    · exact .inr ⟨.inr (.inr hy), hC y hy⟩
  · rintro (rfl | ⟨hy | hy | hy, hn⟩)
    · exact .inr (.inl rfl)
    · exact .inl hy
    · rcases h.mid with rfl | ⟨m, rfl, hm⟩
      · cases hy
      · obtain rfl : y = m := by simpa using hy
        exact absurd hm hn
    · exact .inr (.inr hy)
/-- Rows that rise and have the same pairs are the same. -/
theorem ris_ext : ∀ {a b : List KV}, Ris a → Ris b → (∀ y, y ∈ a ↔ y ∈ b) → a = b
  | [], [], _, _, _ => rfl
  | [], y :: b, _, _, h => by have := (h y).2 List.mem_cons_self; cases this
  | x :: a, [], _, _, h => by have := (h x).1 List.mem_cons_self; cases this
  | x :: a, y :: b, ha, hb, h => by
    obtain ⟨ha1, ha2⟩ := List.pairwise_cons.1 ha
    obtain ⟨hb1, hb2⟩ := List.pairwise_cons.1 hb
    have hxy : x = y := by
      rcases List.mem_cons.1 ((h x).1 List.mem_cons_self) with e | e
      · exact e
      · rcases List.mem_cons.1 ((h y).2 List.mem_cons_self) with e' | e'
        · exact e'.symm
        · have h1 := hb1 x e
          have h2 := ha1 y e'
          rw [lt_asymm h1] at h2; cases h2
    subst hxy
    have := ris_ext ha2 hb2 (fun z => ?_)
    · rw [this]
    · constructor
      · intro hz
        rcases List.mem_cons.1 ((h z).1 (List.mem_cons_of_mem _ hz)) with e | e
        · subst e; have := ha1 z hz; rw [lt_irrefl] at this; cases this
        · exact e
      · intro hz
        rcases List.mem_cons.1 ((h z).2 (List.mem_cons_of_mem _ hz)) with e | e
        · subst e; have := hb1 z hz; rw [lt_irrefl] at this; cases this
        · exact e

/-- A row with one put. -/
def putL (l : List KV) (x : KV) : List KV := (node_Put.f 4 l x.f0.f0 x.f0.f1 x.f1).getD []
theorem putL_dec {l : List KV} {x : KV} {A M C : List KV} (h : Dec l x.f0 A M C) (hl : l.length ≤ 100000) : putL l x = A ++ x :: C := by
  unfold putL
  rw [put_dec h hl 4 (by omega)]; rfl
theorem putL_f (l : List KV) (x : KV) (hl : l.length ≤ 100000) (n : Nat) (hn : 4 ≤ n) : node_Put.f n l x.f0.f0 x.f0.f1 x.f1 = some (putL l x) := by
  obtain ⟨A, M, C, h⟩ := dec_exists l x.f0
  rw [put_dec h hl n hn, putL_dec h hl]
theorem putL_len (l : List KV) (x : KV) (hl : l.length ≤ 100000) : (putL l x).length ≤ l.length + 1 := by
  obtain ⟨A, M, C, h⟩ := dec_exists l x.f0
  rw [putL_dec h hl]
  have : l.length = A.length + (M.length + C.length) := by rw [h.eq]; simp
  simp; omega
def puts (l : List KV) : List KV := l.foldl putL []
theorem puts_snoc (l : List KV) (x : KV) : puts (l ++ [x]) = putL (puts l) x := by simp [puts]
theorem puts_len : ∀ (l : List KV), l.length ≤ 1000 → (puts l).length ≤ l.length := by
  intro l
  induction h : l.length generalizing l with
  | zero => intro _; rw [List.eq_nil_of_length_eq_zero h]; simp [puts]
  | succ n ih =>
    intro hn
    obtain ⟨m, x, rfl⟩ : ∃ m x, l = m ++ [x] := ⟨l.dropLast, l.getLast (by intro e; rw [e] at h; simp at h), (List.dropLast_concat_getLast _).symm⟩
    have hm : m.length = n := by simpa using h
    have h1 := ih m hm (by omega)
    rw [puts_snoc]
    have h2 := putL_len (puts m) x (by omega)
    omega
/-- No two pairs have one key. -/
def Uniq (l : List KV) : Prop := l.Pairwise (fun x y => x.f0 ≠ y.f0)
theorem puts_uniq : ∀ (l : List KV), l.length ≤ 1000 → Uniq l → Ris (puts l) ∧ (∀ y, y ∈ puts l ↔ y ∈ l) ∧ (puts l).length = l.length := by
  intro l
  induction h : l.length generalizing l with
  | zero => intro _ _; rw [List.eq_nil_of_length_eq_zero h]; exact ⟨List.Pairwise.nil, by simp [puts], rfl⟩
  | succ n ih =>
    intro hn hu
    obtain ⟨m, x, rfl⟩ : ∃ m x, l = m ++ [x] := ⟨l.dropLast, l.getLast (by intro e; rw [e] at h; simp at h), (List.dropLast_concat_getLast _).symm⟩
    have hm : m.length = n := by simpa using h
    unfold Uniq at hu
    obtain ⟨hu1, _, hu2⟩ := List.pairwise_append.1 hu
    obtain ⟨hr, hmem, hlen⟩ := ih m hm (by omega) hu1
    obtain ⟨A, M, C, hd⟩ := dec_exists (puts m) x.f0
    rw [puts_snoc, putL_dec hd (by omega)]
    have hne : ∀ y ∈ m, y.f0 ≠ x.f0 := fun y hy => hu2 y hy x (by simp)
    refine ⟨ris_put hr hd x.f1, fun y => ?_, ?_⟩
    · rw [mem_put hr hd y, hmem]
      simp only [List.mem_append, List.mem_singleton]
      exact ⟨fun h => h.elim .inr (fun h => .inl h.1), fun h => h.elim (fun h => .inr ⟨h, hne y h⟩) .inl⟩
    · have hl : (puts m).length = A.length + (M.length + C.length) := by rw [hd.eq]; simp
      have hM : M = [] := by
        rcases hd.mid with h | ⟨z, rfl, hz⟩
        · exact h
        · exact absurd hz (hne z ((hmem z).1 (by rw [hd.eq]; simp)))
      subst hM
      simp at hl ⊢
      omega
theorem puts_rev (l : List KV) (hl : l.length ≤ 1000) (hu : Uniq l) : puts l.reverse = puts l := by
  have hu2 : Uniq l.reverse := by
    unfold Uniq at *
    rw [List.pairwise_reverse]
    exact hu.imp (fun h e => h e.symm)
  obtain ⟨r1, m1, _⟩ := puts_uniq l hl hu
  obtain ⟨r2, m2, _⟩ := puts_uniq l.reverse (by simpa using hl) hu2
  exact ris_ext r2 r1 (fun y => by rw [m1, m2]; simp)

/-- Big answers for every row; where it says no there are at most 80 pairs. -/
theorem big_from (l : List KV) (h80 : l.length ≤ 80) (n : Nat) : ∀ (k i : Nat), i + n = l.length → 2 * n + 2 < k → ∃ r, sextonref09_Big.l0 k l (i : Int) = some r ∧ ∀ k', 2 * n + 2 < k' → sextonref09_Big.l0 k' l (i : Int) = some r := by
  have : ∀ i : Nat, i ≤ l.length → ∃ r, ∀ k, 2 * (l.length - i) + 2 < k → sextonref09_Big.l0 k l (i : Int) = some r := by
    intro i
    induction hd : l.length - i generalizing i with
    | zero =>
      intro hi
      refine ⟨decide ((l.length : Int) > 80), fun k hk => ?_⟩
      obtain ⟨k, rfl⟩ : ∃ m, k = m + 2 := ⟨k - 2, by omega⟩
      simp only [sextonref09_Big.l0]
      rw [if_neg (by omega)]
      simp only [sextonref09_Big.j1]
      rw [if_neg (by decide)]
    | succ d ih =>
      intro hi
      obtain ⟨r, hr⟩ := ih (i + 1) (by omega) (by omega)
      have step : ∀ k, 2 * (d + 1) + 2 < k → sextonref09_Big.l0 k l (i : Int) = if ((rd_T26 l (i : Int)).f0.f0.size : Int) > 200 then some true else if ((rd_T26 l (i : Int)).f1.size : Int) > 300 then some true else some r := by
        intro k hk
        obtain ⟨k, rfl⟩ : ∃ m, k = m + 2 := ⟨k - 2, by omega⟩
        simp only [sextonref09_Big.l0]
        rw [if_pos (by omega), decide_eq_true (by omega)]
        simp only [sextonref09_Big.j1]
        rw [if_pos trivial, if_pos (by omega), if_pos (by omega), show wrap64 ((i : Int) + 1) = ((i + 1 : Nat) : Int) by unfold wrap64; omega, hr k (by omega)]
      by_cases h1 : ((rd_T26 l (i : Int)).f0.f0.size : Int) > 200
      · exact ⟨true, fun k hk => by rw [step k hk, if_pos h1]⟩
      · by_cases h2 : ((rd_T26 l (i : Int)).f1.size : Int) > 300
        · exact ⟨true, fun k hk => by rw [step k hk, if_neg h1, if_pos h2]⟩
        · exact ⟨r, fun k hk => by rw [step k hk, if_neg h1, if_neg h2]⟩
  intro k i hi hk
  obtain ⟨r, hr⟩ := this i (by omega)
  exact ⟨r, hr k (by omega), fun k' hk' => hr k' (by omega)⟩
theorem big_f (l : List KV) : ∃ r, (∀ k, 200 < k → sextonref09_Big.f k l = some r) ∧ (r = false → l.length ≤ 80) := by
  unfold sextonref09_Big.f
  by_cases h80 : l.length ≤ 80
  · obtain ⟨r, _, hr⟩ := big_from l h80 l.length (2 * l.length + 3) 0 (by omega) (by omega)
    exact ⟨r, fun k hk => hr k (by omega), fun _ => h80⟩
  · refine ⟨true, fun k hk => ?_, fun h => by cases h⟩
    obtain ⟨k, rfl⟩ : ∃ m, k = m + 2 := ⟨k - 2, by omega⟩
    simp only [sextonref09_Big.l0]
    rw [if_pos (by omega), decide_eq_false (by omega)]
    simp only [sextonref09_Big.j1]
    rw [if_neg (by decide), decide_eq_true (by omega)]
end Go.Proofs.Ytoiohlmiofplcaa.ND
