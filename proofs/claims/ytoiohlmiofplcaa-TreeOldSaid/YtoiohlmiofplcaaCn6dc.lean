/-
  Texts that the claims of this chapter share, joined.
-/
import Derived.Test.YtoiohlmiofplcaaCn6da
import Derived.Test.YtoiohlmiofplcaaCn6db
import Derived.Deep.RegionWith
import Derived.Deep.RegionHeld3
set_option linter.unusedVariables false
set_option linter.unusedSimpArgs false
/-
  Trees, told plainly: what put, drop and from make of a vertex.
-/
namespace Go.Proofs.Ytoiohlmiofplcaa.ND
open Go.RowKit Go.Proofs.YtoiohlmiofplcaaW.PrintWords Go.Proofs.YtoiohlmiofplcaaW.PrintLast Go.Proofs.Ytoiohlmiofplcaa.P Go.Proofs.Plain

/-- The pairs below. -/
def flatT : (h : Nat) → T h → List KV
  | 0, l => l
  | h + 1, ks => (List.map (α := T h) (flatT h) ks).flatten
/-- Two vertices as one, however large. -/
def appT : (h : Nat) → T h → T h → T h
  | 0, a, b => List.append (α := KV) a b
  | h + 1, a, b => List.append (α := T h) a b
/-- A vertex, or both halves of it. -/
def hvT : (h : Nat) → T h → List (T h)
  | 0, l => halvesT (α := KV) l
  | h + 1, ks => halvesT (α := T h) ks
/-- The kid in which a key stands, or would. -/
def belowT (h : Nat) (ks : List (T h)) (k : KY) : Nat := (ks.takeWhile (fun v => !lt k (firstT h v))).length - 1
/-- A row with a key's pair dropped. -/
def dropL (l : List KV) (k : KY) : List KV := (node_Drop.f 4 l k.f0 k.f1).getD []
def putT : (h : Nat) → T h → KV → List (T h)
  | 0, l, p => hvT 0 (putL l p)
  | h + 1, ks, p => match List.drop (α := T h) (belowT h ks p.f0) ks with
    | [] => []
    | v :: R => hvT (h + 1) (List.take (α := T h) (belowT h ks p.f0) ks ++ (putT h v p ++ R) : List (T h))
/-- What a fork becomes with a kid dropped from. -/
def dropK (h : Nat) (P : List (T h)) (v : T h) (R : List (T h)) : List (T h) :=
  if 2 ≤ sizeT h v then P ++ (v :: R)
  else match P.reverse with
    | x :: P' => P'.reverse ++ (hvT h (appT h x v) ++ R)
    | [] => match R with
      | y :: R' => hvT h (appT h v y) ++ R'
      | [] => [v]
def dropT : (h : Nat) → T h → KY → T h
  | 0, l, k => dropL l k
  | h + 1, ks, k => match List.drop (α := T h) (belowT h ks k) ks with
    | [] => ([] : List (T h))
    | v :: R => List.headD (α := T (h + 1)) (hvT (h + 1) (dropK h (List.take (α := T h) (belowT h ks k) ks) (dropT h v k) R : List (T h))) ([] : List (T h))
/-- The pairs from a key on, behind what is there, until there are n. -/
def fromT : (h : Nat) → T h → KY → List KV → Nat → List KV
  | 0, l, k, out, n => out ++ ((List.dropWhile (α := KV) (fun x => lt x.f0 k) l).take (n - out.length))
  | h + 1, ks, k, out, n => List.foldl (β := T h) (fun out v => if n ≤ out.length then out else fromT h v k out n) out (List.drop (α := T h) (belowT h ks k) ks)

/-- All but the topmost row of parts is right. -/
def Part : (h : Nat) → T h → Prop
  | 0, _ => True
  | h + 1, ks => ∀ k : T h, k ∈ (ks : List (T h)) → Part h k ∧ 2 ≤ sizeT h k ∧ sizeT h k ≤ 4
def Good (h : Nat) (t : T h) : Prop := Part h t ∧ 2 ≤ sizeT h t ∧ sizeT h t ≤ 4
theorem all_flat : ∀ (h : Nat) (t : T h), allT h t = (flatT h t).length
  | 0, _ => rfl
  | h + 1, ks => by
    show (List.map (α := T h) (allT h) ks).sum = (List.map (α := T h) (flatT h) ks).flatten.length
    rw [List.length_flatten, List.map_map]
    congr 1
    exact List.map_congr_left (fun x _ => all_flat h x)
theorem flat_app : ∀ (h : Nat) (a b : T h), flatT h (appT h a b) = flatT h a ++ flatT h b
  | 0, _, _ => rfl
  | h + 1, a, b => by
    show (List.map (α := T h) (flatT h) (List.append (α := T h) a b)).flatten = _
    rw [List.append_eq, List.map_append, List.flatten_append]
    rfl
theorem size_app : ∀ (h : Nat) (a b : T h), sizeT h (appT h a b) = sizeT h a + sizeT h b
  | 0, a, b => List.length_append (α := KV)
  | h + 1, a, b => List.length_append (α := T h)
theorem part_app : ∀ {h : Nat} {a b : T h}, Part h (appT h a b) ↔ Part h a ∧ Part h b
  | 0, _, _ => ⟨fun _ => ⟨trivial, trivial⟩, fun _ => trivial⟩
  | h + 1, a, b => by
    constructor
    · intro hp
      exact ⟨fun k hk => hp k (List.mem_append_left (α := T h) b hk), fun k hk => hp k (List.mem_append_right (α := T h) a hk)⟩
    · rintro ⟨h1, h2⟩ k hk
      rcases List.mem_append (α := T h) |>.1 hk with hk | hk
      · exact h1 k hk
      · exact h2 k hk
theorem hv_one {h : Nat} {t : T h} (hs : sizeT h t ≤ 4) : hvT h t = [t] := by
  cases h with
  | zero => show halvesT (α := KV) t = _; unfold halvesT; exact if_pos hs
  | succ h => show halvesT (α := T h) t = _; unfold halvesT; exact if_pos hs
theorem hv_two {h : Nat} {t : T h} (hs : ¬ sizeT h t ≤ 4) : ∃ a b, hvT h t = [a, b] ∧ t = appT h a b ∧ sizeT h a = sizeT h t / 2 ∧ sizeT h b = sizeT h t - sizeT h t / 2 := by
  cases h with
  | zero =>
    refine ⟨List.take (α := KV) (List.length (α := KV) t / 2) t, List.drop (α := KV) (List.length (α := KV) t / 2) t, ?_, ?_, ?_, ?_⟩
    · show halvesT (α := KV) t = _; unfold halvesT; exact if_neg hs
    · exact (List.take_append_drop (α := KV) _ t).symm
    · exact (List.length_take (α := KV)).trans (by have : List.length (α := KV) t / 2 ≤ List.length (α := KV) t := Nat.div_le_self _ _; show min (List.length (α := KV) t / 2) (List.length (α := KV) t) = List.length (α := KV) t / 2; omega)
    · exact List.length_drop (α := KV)
  | succ h =>
    refine ⟨List.take (α := T h) (List.length (α := T h) t / 2) t, List.drop (α := T h) (List.length (α := T h) t / 2) t, ?_, ?_, ?_, ?_⟩
    · show halvesT (α := T h) t = _; unfold halvesT; exact if_neg hs
    · exact (List.take_append_drop (α := T h) _ t).symm
    · exact (List.length_take (α := T h)).trans (by have : List.length (α := T h) t / 2 ≤ List.length (α := T h) t := Nat.div_le_self _ _; show min (List.length (α := T h) t / 2) (List.length (α := T h) t) = List.length (α := T h) t / 2; omega)
    · exact List.length_drop (α := T h)
end Go.Proofs.Ytoiohlmiofplcaa.ND
/-
  Trees, told plainly: which pairs are below behind put, drop and from; and how many parts a vertex then has.
-/
namespace Go.Proofs.Ytoiohlmiofplcaa.ND
open Go.RowKit Go.Proofs.YtoiohlmiofplcaaW.PrintWords Go.Proofs.YtoiohlmiofplcaaW.PrintLast Go.Proofs.Ytoiohlmiofplcaa.P Go.Proofs.Plain

theorem ne_of : ∀ {h : Nat} {t : T h}, Part h t → 1 ≤ sizeT h t → NE h t
  | 0, _, _, hs => hs
  | h + 1, _, hp, hs => ⟨hs, fun k hk => ne_of (hp k hk).1 (by have := (hp k hk).2.1; omega)⟩
theorem first_flat : ∀ {h : Nat} {t : T h}, NE h t → ∃ x r, flatT h t = x :: r ∧ firstT h t = x.f0
  | 0, l, hn => by
    cases l with
    | nil => cases hn
    | cons x r => exact ⟨x, r, rfl, rfl⟩
  | h + 1, ks, hn => by
    cases ks with
    | nil => cases hn.1
    | cons v R =>
      obtain ⟨x, r, h1, h2⟩ := first_flat (hn.2 v List.mem_cons_self)
      refine ⟨x, r ++ flatT (h + 1) R, ?_, h2⟩
      show (List.map (α := T h) (flatT h) (v :: R)).flatten = _
      rw [List.map_cons, List.flatten_cons, h1]
      rfl
theorem flat_cons {h : Nat} (v : T h) (R : List (T h)) : flatT (h + 1) (v :: R : List (T h)) = flatT h v ++ flatT (h + 1) R := by
  show (List.map (α := T h) (flatT h) (v :: R)).flatten = _
  rw [List.map_cons, List.flatten_cons]
  rfl
theorem flat_append {h : Nat} (P R : List (T h)) : flatT (h + 1) (P ++ R : List (T h)) = flatT (h + 1) P ++ flatT (h + 1) R := flat_app (h + 1) P R
theorem flat_nil {h : Nat} : flatT (h + 1) ([] : List (T h)) = [] := rfl
/-- The row of vertices' pairs. -/
theorem flat_hv {h : Nat} (t : T h) : flatT (h + 1) (hvT h t) = flatT h t := by
  by_cases hs : sizeT h t ≤ 4
  · rw [hv_one hs, flat_cons, flat_nil, List.append_nil]
  · obtain ⟨a, b, e, e2, _, _⟩ := hv_two hs
    rw [e, flat_cons, flat_cons, flat_nil, List.append_nil]
    conv => rhs; rw [e2]
    rw [flat_app]
theorem lt_le_lt {x y k : KY} (h1 : lt x y = true) (h2 : lt k y = false) : lt x k = true := by
  cases h3 : lt y k with
  | true => exact lt_trans h1 h3
  | false => rw [lt_total h2 h3]; exact h1
theorem ris_app {a b : List KV} (h : Ris (a ++ b)) : Ris a ∧ Ris b ∧ ∀ x ∈ a, ∀ y ∈ b, lt x.f0 y.f0 = true := List.pairwise_append.1 h
theorem takeWhile_split {α : Type} (q : α → Bool) (l : List α) : ∃ W D, l = W ++ D ∧ l.takeWhile q = W ∧ (∀ x ∈ W, q x = true) ∧ ∀ x D', D = x :: D' → q x = false := by
  refine ⟨l.takeWhile q, l.dropWhile q, (List.takeWhile_append_dropWhile).symm, rfl, fun x hx => ?_, fun x D' e => ?_⟩
  · have := List.all_takeWhile (p := q) (l := l)
    exact List.all_eq_true.1 this x hx
  · have := List.head?_dropWhile_not q l
    rw [e] at this
    simpa using this
theorem below_parts {h : Nat} {ks : List (T h)} {k : KY} (hk : ks ≠ []) (hne : ∀ v ∈ ks, NE h v) (hr : Ris (flatT (h + 1) ks)) :
    ∃ P v R, ks = P ++ v :: R ∧ belowT h ks k = P.length ∧ (∀ x ∈ flatT (h + 1) P, lt x.f0 k = true) ∧ (∀ x ∈ flatT (h + 1) R, lt k x.f0 = true) := by
  obtain ⟨W, D, e, e2, hW, hD⟩ := takeWhile_split (fun v => !lt k (firstT h v)) ks
  have hDk : ∀ x ∈ flatT (h + 1) D, lt k x.f0 = true := by
    intro x hx
    cases D with
    | nil => cases hx
    | cons d D' =>
      have hq := hD d D' rfl
      simp only [Bool.not_eq_false'] at hq
      obtain ⟨y, r, h1, h2⟩ := first_flat (hne d (by rw [e]; simp))
      rw [h2] at hq
      rw [e, flat_append, flat_cons, h1] at hr
      rw [flat_cons, h1] at hx
      have hr2 := (ris_app hr).2.1
      rw [List.cons_append] at hr2 hx
      rcases List.mem_cons.1 hx with rfl | hx
      · exact hq
      · exact lt_trans hq ((List.pairwise_cons.1 hr2).1 x hx)
  have hb : belowT h ks k = W.length - 1 := by unfold belowT; rw [e2]
  cases hw : W.reverse with
  | nil =>
    obtain rfl : W = [] := List.reverse_eq_nil_iff.1 hw
    cases D with
    | nil => exact absurd e hk
    | cons d D' =>
      refine ⟨[], d, D', e, hb, fun x hx => (by cases hx), fun x hx => hDk x ?_⟩
      rw [flat_cons]
      exact List.mem_append_right _ hx
  | cons v W' =>
    obtain rfl : W = W'.reverse ++ [v] := by rw [← List.reverse_reverse W, hw]; simp
    refine ⟨W'.reverse, v, D, by rw [e]; simp, by rw [hb]; simp, fun x hx => ?_, hDk⟩
    have hq := hW v (by simp)
    simp only [Bool.not_eq_true'] at hq
    obtain ⟨y, r, h1, h2⟩ := first_flat (hne v (by rw [e]; simp))
    rw [h2] at hq
    rw [e, List.append_assoc, flat_append] at hr
    refine lt_le_lt ((ris_app hr).2.2 x hx y ?_) hq
    rw [List.singleton_append, flat_cons, h1]
    simp
/-- A key's place below is its place. -/
theorem dec_in {h : Nat} {P : List (T h)} {v : T h} {R : List (T h)} {k : KY} {A M C : List KV} (hP : ∀ x ∈ flatT (h + 1) P, lt x.f0 k = true) (hR : ∀ x ∈ flatT (h + 1) R, lt k x.f0 = true) (hd : Dec (flatT h v) k A M C) :
    Dec (flatT (h + 1) (P ++ v :: R : List (T h))) k (flatT (h + 1) P ++ A) M (C ++ flatT (h + 1) R) := by
  refine ⟨?_, fun x hx => ?_, hd.mid, fun hm x C' e => ?_⟩
  · rw [flat_append, flat_cons, hd.eq]; simp
  · rcases List.mem_append.1 hx with hx | hx
    · exact hP x hx
    · exact hd.ahead x hx
  · cases C with
    | nil =>
      have := hR x (by rw [show flatT (h + 1) R = x :: C' from e]; simp)
      exact ⟨lt_asymm this, fun e => by rw [e, lt_irrefl] at this; cases this⟩
    | cons c C2 =>
      obtain ⟨rfl, _⟩ := List.cons.inj e
      exact hd.behind hm _ C2 rfl
theorem dropL_dec {l : List KV} {k : KY} {A M C : List KV} (h : Dec l k A M C) (hl : l.length ≤ 100000) : dropL l k = A ++ C := by
  unfold dropL
  rw [drop_dec h hl 4 (by omega)]; rfl
theorem take_at {α : Type} (P : List α) (v : α) (R : List α) : (P ++ v :: R).take P.length = P := by simp
theorem drop_at {α : Type} (P : List α) (v : α) (R : List α) : (P ++ v :: R).drop P.length = v :: R := by simp
theorem len_flat {h : Nat} {P : List (T h)} {v : T h} {R : List (T h)} : (flatT (h + 1) (P ++ v :: R : List (T h))).length = (flatT (h + 1) P).length + ((flatT h v).length + (flatT (h + 1) R).length) := by
  rw [flat_append, flat_cons]; simp
theorem put_at {h : Nat} {ks : List (T h)} {p : KV} {P : List (T h)} {v : T h} {R : List (T h)} (e : ks = P ++ v :: R) (hb : belowT h ks p.f0 = P.length) : putT (h + 1) ks p = hvT (h + 1) (P ++ (putT h v p ++ R) : List (T h)) := by
  show (match List.drop (α := T h) (belowT h ks p.f0) ks with | [] => [] | v :: R => hvT (h + 1) (List.take (α := T h) (belowT h ks p.f0) ks ++ (putT h v p ++ R) : List (T h))) = _
  rw [hb, e, drop_at, take_at]
/-- Behind a put the pairs are the row with the pair put. -/
theorem put_flat : ∀ {h : Nat} {t : T h} {p : KV}, Part h t → (h = 0 ∨ 1 ≤ sizeT h t) → Ris (flatT h t) → (flatT h t).length ≤ 100000 → flatT (h + 1) (putT h t p) = putL (flatT h t) p
  | 0, t, p, _, _, _, _ => by
    show flatT 1 (hvT 0 (putL t p)) = _
    rw [flat_hv]; rfl
  | h + 1, ks, p, hp, hs, hr, hl => by
    have hs1 : 1 ≤ sizeT (h + 1) ks := hs.resolve_left (by omega)
    obtain ⟨P, v, R, e, hb, hP, hR⟩ := below_parts (k := p.f0) (ks := ks) (by rintro rfl; cases hs1) (ne_of hp hs1).2 hr
    rw [put_at e hb, flat_hv]
    subst e
    have hv := hp v (by simp)
    have hr1 := hr
    rw [flat_append, flat_cons] at hr1
    rw [len_flat] at hl
    have ih := put_flat (p := p) hv.1 (.inr (by omega)) (ris_app (ris_app hr1).2.1).1 (by omega)
    obtain ⟨A, M, C, hd⟩ := dec_exists (flatT h v) p.f0
    rw [putL_dec (dec_in hP hR hd) (by rw [len_flat]; omega), flat_append, flat_append, ih, putL_dec hd (by omega)]
    simp
theorem drop_eq {h : Nat} {ks : List (T h)} {k : KY} {P : List (T h)} {v : T h} {R : List (T h)} (e : ks = P ++ v :: R) (hb : belowT h ks k = P.length) : dropT (h + 1) ks k = List.headD (α := T (h + 1)) (hvT (h + 1) (dropK h P (dropT h v k) R)) ([] : List (T h)) := by
  show (match List.drop (α := T h) (belowT h ks k) ks with | [] => ([] : List (T h)) | v :: R => List.headD (α := T (h + 1)) (hvT (h + 1) (dropK h (List.take (α := T h) (belowT h ks k) ks) (dropT h v k) R)) ([] : List (T h))) = _
  rw [hb, e, drop_at, take_at]
theorem part_cons {h : Nat} {v : T h} {R : List (T h)} : Part (h + 1) (v :: R : List (T h)) ↔ Good h v ∧ Part (h + 1) R := by
  constructor
  · intro hp; exact ⟨hp v List.mem_cons_self, fun k hk => hp k (List.mem_cons_of_mem _ hk)⟩
  · rintro ⟨h1, h2⟩ k hk
    rcases List.mem_cons.1 hk with rfl | hk
    · exact h1
    · exact h2 k hk
theorem part_append {h : Nat} {P R : List (T h)} : Part (h + 1) (P ++ R : List (T h)) ↔ Part (h + 1) P ∧ Part (h + 1) R := part_app (h := h + 1)
/-- What halves are. -/
theorem hv_good {h : Nat} {t : T h} (hp : Part h t) (h2 : 2 ≤ sizeT h t) (h5 : sizeT h t ≤ 5) : Part (h + 1) (hvT h t) ∧ 1 ≤ (hvT h t).length ∧ (hvT h t).length ≤ 2 := by
  by_cases hs : sizeT h t ≤ 4
  · rw [hv_one hs]; exact ⟨part_cons.2 ⟨⟨hp, h2, hs⟩, fun _ hk => by cases hk⟩, by simp, by simp⟩
  · obtain ⟨a, b, e, e2, ha, hb⟩ := hv_two hs
    rw [e]
    rw [e2, part_app] at hp
    exact ⟨part_cons.2 ⟨⟨hp.1, by omega, by omega⟩, part_cons.2 ⟨⟨hp.2, by omega, by omega⟩, fun _ hk => by cases hk⟩⟩, by simp, by simp⟩
theorem joinT_good {h : Nat} {a b : T h} (ha : Part h a) (hb : Part h b) (h2 : 2 ≤ sizeT h a + sizeT h b) (h5 : sizeT h a + sizeT h b ≤ 5) : Part (h + 1) (hvT h (appT h a b)) ∧ 1 ≤ (hvT h (appT h a b)).length ∧ (hvT h (appT h a b)).length ≤ 2 :=
  hv_good (part_app.2 ⟨ha, hb⟩) (by rw [size_app]; exact h2) (by rw [size_app]; exact h5)
theorem size_succ {h : Nat} (ks : List (T h)) : sizeT (h + 1) ks = ks.length := rfl
theorem flat_joinT {h : Nat} (a b : T h) : flatT (h + 1) (hvT h (appT h a b)) = flatT h a ++ flatT h b := by rw [flat_hv, flat_app]
/-- The row of kids behind a drop. -/
theorem dropK_parts {h : Nat} {P : List (T h)} {v : T h} {R : List (T h)} (hP : Part (h + 1) P) (hR : Part (h + 1) R) (hv : Part h v) (h1 : 1 ≤ sizeT h v) (h4 : sizeT h v ≤ 4) (h2 : 1 ≤ P.length + R.length) :
    flatT (h + 1) (dropK h P v R) = flatT (h + 1) P ++ (flatT h v ++ flatT (h + 1) R) ∧ Part (h + 1) (dropK h P v R) ∧ P.length + R.length ≤ (dropK h P v R).length ∧ (dropK h P v R).length ≤ P.length + R.length + 1 := by
  unfold dropK
  by_cases hs : 2 ≤ sizeT h v
  · rw [if_pos hs]
    refine ⟨by rw [flat_append, flat_cons], part_append.2 ⟨hP, part_cons.2 ⟨⟨hv, hs, h4⟩, hR⟩⟩, ?_, ?_⟩ <;> simp <;> omega
  · rw [if_neg hs]
    cases hw : P.reverse with
    | cons x P' =>
      obtain rfl : P = P'.reverse ++ [x] := by rw [← List.reverse_reverse P, hw]; simp
      obtain ⟨hP1, hx⟩ := part_append.1 hP
      obtain ⟨hx, _⟩ := part_cons.1 hx
      have hxs := hx.2
      obtain ⟨j1, j2, j3⟩ := joinT_good hx.1 hv (by omega) (by omega)
      simp only
      refine ⟨?_, part_append.2 ⟨hP1, part_append.2 ⟨j1, hR⟩⟩, ?_, ?_⟩
      · rw [flat_append, flat_append, flat_joinT, flat_append, flat_cons, flat_nil]; simp
      · simp; omega
      · simp; omega
    | nil =>
      obtain rfl : P = [] := List.reverse_eq_nil_iff.1 hw
      cases R with
      | nil => simp at h2
      | cons y R' =>
        obtain ⟨hy, hR1⟩ := part_cons.1 hR
        have hys := hy.2
        obtain ⟨j1, j2, j3⟩ := joinT_good hv hy.1 (by omega) (by omega)
        simp only
        refine ⟨?_, part_append.2 ⟨j1, hR1⟩, ?_, ?_⟩
        · rw [flat_append, flat_joinT, flat_cons, flat_nil]; simp
        · simp; omega
        · simp; omega
/-- Behind a drop the pairs are the row with the key's pair dropped; at most one part is gone. -/
theorem drop_all : ∀ {h : Nat} {t : T h} {k : KY}, Part h t → (h = 0 ∨ 2 ≤ sizeT h t) → sizeT h t ≤ 4 → Ris (flatT h t) → (flatT h t).length ≤ 100000 →
    flatT h (dropT h t k) = dropL (flatT h t) k ∧ Part h (dropT h t k) ∧ sizeT h t ≤ sizeT h (dropT h t k) + 1 ∧ sizeT h (dropT h t k) ≤ 4
  | 0, t, k, _, _, h4, hr, hl => by
    obtain ⟨A, M, C, hd⟩ := dec_exists t k
    have hl' : List.length (α := KV) t ≤ 100000 := hl
    have e : dropT 0 t k = A ++ C := dropL_dec hd hl'
    have hlen : List.length (α := KV) t = A.length + (M.length + C.length) := by have := hd.eq; rw [this]; simp
    have hM : M.length ≤ 1 := by rcases hd.mid with rfl | ⟨_, rfl, _⟩ <;> simp
    have h4' : List.length (α := KV) t ≤ 4 := h4
    refine ⟨rfl, trivial, ?_, ?_⟩
    · show List.length (α := KV) t ≤ List.length (α := KV) (dropT 0 t k) + 1
      rw [e, List.length_append]; omega
    · show List.length (α := KV) (dropT 0 t k) ≤ 4
      rw [e, List.length_append]; omega
  | h + 1, ks, k, hp, hs, h4, hr, hl => by
    have hs1 : 2 ≤ sizeT (h + 1) ks := hs.resolve_left (by omega)
    obtain ⟨P, v, R, e, hb, hP, hR⟩ := below_parts (k := k) (ks := ks) (by rintro rfl; cases hs1) (ne_of hp (by omega)).2 hr
    rw [drop_eq e hb]
    subst e
    have hv := hp v (by simp)
    have hr1 := hr
    rw [flat_append, flat_cons] at hr1
    have hl2 := hl
    rw [len_flat] at hl2
    obtain ⟨i1, i2, i3, i4⟩ := drop_all (k := k) hv.1 (.inr (by omega)) hv.2.2 (ris_app (ris_app hr1).2.1).1 (by omega)
    obtain ⟨pP, pv⟩ := part_append.1 hp
    obtain ⟨_, pR⟩ := part_cons.1 pv
    have hsz : sizeT (h + 1) (P ++ v :: R : List (T h)) = P.length + (R.length + 1) := by rw [size_succ]; simp
    rw [hsz] at hs1 h4
    obtain ⟨d1, d2, d3, d4⟩ := dropK_parts pP pR i2 (by omega) i4 (by omega)
    rw [hv_one (by rw [size_succ]; omega)]
    obtain ⟨A, M, C, hd⟩ := dec_exists (flatT h v) k
    refine ⟨?_, d2, ?_, ?_⟩
    · show flatT (h + 1) (dropK h P (dropT h v k) R) = _
      rw [dropL_dec (dec_in hP hR hd) (by rw [len_flat]; omega), d1, i1, dropL_dec hd (by omega)]
      simp
    · rw [hsz]
      show _ ≤ (dropK h P (dropT h v k) R).length + 1
      omega
    · show (dropK h P (dropT h v k) R).length ≤ 4
      omega
/-- Behind a put: one or two vertices, all good but one that stands alone. -/
theorem put_all : ∀ {h : Nat} {t : T h} {p : KV}, Part h t → (h = 0 ∨ 1 ≤ sizeT h t) → sizeT h t ≤ 4 → Ris (flatT h t) → (flatT h t).length ≤ 100000 →
    (∃ x, putT h t p = [x] ∧ Part h x ∧ sizeT h x ≤ 4 ∧ sizeT h t ≤ sizeT h x ∧ 1 ≤ sizeT h x) ∨ (∃ x y, putT h t p = [x, y] ∧ Good h x ∧ Good h y)
  | 0, t, p, _, _, h4, hr, hl => by
    obtain ⟨A, M, C, hd⟩ := dec_exists t p.f0
    have hl' : List.length (α := KV) t ≤ 100000 := hl
    have e : putL t p = A ++ p :: C := putL_dec hd hl'
    have hlen : List.length (α := KV) t = A.length + (M.length + C.length) := by have := hd.eq; rw [this]; simp
    have hM : M.length ≤ 1 := by rcases hd.mid with rfl | ⟨_, rfl, _⟩ <;> simp
    have h4' : List.length (α := KV) t ≤ 4 := h4
    have hlp : (putL t p).length = A.length + (C.length + 1) := by rw [e]; simp
    show (∃ x, hvT 0 (putL t p) = [x] ∧ _) ∨ (∃ x y, hvT 0 (putL t p) = [x, y] ∧ _)
    by_cases hs : sizeT 0 (putL t p) ≤ 4
    · refine .inl ⟨putL t p, hv_one hs, trivial, hs, ?_, ?_⟩
      · show List.length (α := KV) t ≤ (putL t p).length
        omega
      · show 1 ≤ (putL t p).length
        omega
    · obtain ⟨a, b, e, e2, ha, hb⟩ := hv_two hs
      have hz : sizeT 0 (putL t p) = (putL t p).length := rfl
      exact .inr ⟨a, b, e, ⟨trivial, by omega, by omega⟩, ⟨trivial, by omega, by omega⟩⟩
  | h + 1, ks, p, hp, hs, h4, hr, hl => by
    have hs1 : 1 ≤ sizeT (h + 1) ks := hs.resolve_left (by omega)
    obtain ⟨P, v, R, e, hb, hP, hR⟩ := below_parts (k := p.f0) (ks := ks) (by rintro rfl; cases hs1) (ne_of hp hs1).2 hr
    rw [put_at e hb]
    subst e
    have hv := hp v (by simp)
    have hr1 := hr
    rw [flat_append, flat_cons] at hr1
    have hl2 := hl
    rw [len_flat] at hl2
    obtain ⟨pP, pv⟩ := part_append.1 hp
    obtain ⟨_, pR⟩ := part_cons.1 pv
    have hsz : sizeT (h + 1) (P ++ v :: R : List (T h)) = P.length + (R.length + 1) := by rw [size_succ]; simp
    rw [hsz] at hs1 h4
    have key : ∃ q : List (T h), putT h v p = q ∧ Part (h + 1) q ∧ 1 ≤ q.length ∧ q.length ≤ 2 := by
      rcases put_all (p := p) hv.1 (.inr (by omega)) hv.2.2 (ris_app (ris_app hr1).2.1).1 (by omega) with ⟨x, h1, h2, h3, h5, _⟩ | ⟨x, y, h1, h2, h3⟩
      · exact ⟨[x], h1, part_cons.2 ⟨⟨h2, by omega, h3⟩, fun _ hk => by cases hk⟩, by simp, by simp⟩
      · exact ⟨[x, y], h1, part_cons.2 ⟨h2, part_cons.2 ⟨h3, fun _ hk => by cases hk⟩⟩, by simp, by simp⟩
    obtain ⟨q, hq, pq, q1, q2⟩ := key
    rw [hq]
    have pA : Part (h + 1) (P ++ (q ++ R) : List (T h)) := part_append.2 ⟨pP, part_append.2 ⟨pq, pR⟩⟩
    have hlen : sizeT (h + 1) (P ++ (q ++ R) : List (T h)) = P.length + (q.length + R.length) := by rw [size_succ]; simp
    by_cases hs : sizeT (h + 1) (P ++ (q ++ R) : List (T h)) ≤ 4
    · exact .inl ⟨_, hv_one hs, pA, hs, by rw [hlen, hsz]; omega, by rw [hlen]; omega⟩
    · obtain ⟨a, b, e, e2, ha, hb⟩ := hv_two hs
      rw [e2] at pA
      obtain ⟨pa, pb⟩ := part_app.1 pA
      exact .inr ⟨a, b, e, ⟨pa, by omega, by omega⟩, ⟨pb, by omega, by omega⟩⟩
/-- The pairs from a key on. -/
def fromL (l : List KV) (k : KY) : List KV := l.dropWhile (fun x => lt x.f0 k)
theorem fromL_all {l : List KV} {k : KY} (h : ∀ x ∈ l, lt k x.f0 = true) : fromL l k = l := by
  unfold fromL
  cases l with
  | nil => rfl
  | cons x r => rw [List.dropWhile_cons, if_neg (by rw [lt_asymm (h x (by simp))]; decide)]
theorem fromL_app {a l : List KV} {k : KY} (h : ∀ x ∈ a, lt x.f0 k = true) : fromL (a ++ l) k = fromL l k := by
  induction a with
  | nil => rfl
  | cons x r ih =>
    unfold fromL at *
    rw [List.cons_append, List.dropWhile_cons, if_pos (h x (by simp))]
    exact ih (fun y hy => h y (by simp [hy]))
theorem fromL_cut {a l : List KV} {k : KY} (h : ∀ x ∈ l, lt k x.f0 = true) : fromL (a ++ l) k = fromL a k ++ l := by
  induction a with
  | nil => exact fromL_all h
  | cons x r ih =>
    unfold fromL at *
    rw [List.cons_append, List.dropWhile_cons, List.dropWhile_cons]
    split
    · exact ih
    · rfl
theorem from_fold {h : Nat} {k : KY} {n : Nat} (ih : ∀ (v : T h) (out : List KV), NE h v → Ris (flatT h v) → fromT h v k out n = out ++ (fromL (flatT h v) k).take (n - out.length)) :
    ∀ (R : List (T h)) (out : List KV), (∀ v ∈ R, NE h v) → Ris (flatT (h + 1) R) → (∀ x ∈ flatT (h + 1) R, lt k x.f0 = true) →
    List.foldl (fun out v => if n ≤ out.length then out else fromT h v k out n) out R = out ++ (flatT (h + 1) R).take (n - out.length)
  | [], out, _, _, _ => by rw [flat_nil]; simp
  | v :: R, out, hne, hr, hk => by
    rw [flat_cons] at hr hk
    obtain ⟨r1, r2, _⟩ := ris_app hr
    rw [List.foldl_cons, flat_cons]
    have hR := fun out => from_fold ih R out (fun v hv => hne v (by simp [hv])) r2 (fun x hx => hk x (by simp [hx]))
    by_cases hn : n ≤ out.length
    · rw [if_pos hn, hR]
      have : n - out.length = 0 := by omega
      rw [this]; simp
    · rw [if_neg hn, ih v out (hne v (by simp)) r1, fromL_all (fun x hx => hk x (by simp [hx])), hR, List.take_append]
      simp only [List.append_assoc, List.length_append, List.length_take]
      congr 2
      by_cases hc : n - out.length ≤ (flatT h v).length
      · rw [Nat.min_eq_left hc]
        congr 1
        omega
      · rw [Nat.min_eq_right (by omega)]
        congr 1
        omega
theorem from_flat : ∀ {h : Nat} {t : T h} {k : KY} {out : List KV} {n : Nat}, NE h t → Ris (flatT h t) → fromT h t k out n = out ++ (fromL (flatT h t) k).take (n - out.length)
  | 0, _, _, _, _, _, _ => rfl
  | h + 1, ks, k, out, n, hne, hr => by
    obtain ⟨P, v, R, e, hb, hP, hR⟩ := below_parts (k := k) (ks := ks) (by rintro rfl; cases hne.1) hne.2 hr
    show List.foldl (β := T h) (fun out v => if n ≤ out.length then out else fromT h v k out n) out (List.drop (α := T h) (belowT h ks k) ks) = _
    rw [hb]
    subst e
    rw [drop_at, List.foldl_cons]
    have hr1 := hr
    rw [flat_append, flat_cons] at hr1
    obtain ⟨_, r2, _⟩ := ris_app hr1
    obtain ⟨rv, rR, _⟩ := ris_app r2
    have ih := fun (v : T h) (out : List KV) (hv : NE h v) (hr : Ris (flatT h v)) => from_flat (k := k) (out := out) (n := n) hv hr
    rw [from_fold ih R _ (fun v hv => hne.2 v (by simp [hv])) rR hR, flat_append, flat_cons, fromL_app hP, fromL_cut hR, List.take_append]
    by_cases hn : n ≤ out.length
    · rw [if_pos hn]
      have : n - out.length = 0 := by omega
      rw [this]; simp
    · rw [if_neg hn, ih v out (hne.2 v (by simp)) rv]
      simp only [List.append_assoc, List.length_append, List.length_take]
      congr 2
      by_cases hc : n - out.length ≤ (fromL (flatT h v) k).length
      · rw [Nat.min_eq_left hc]
        congr 1
        omega
      · rw [Nat.min_eq_right (by omega)]
        congr 1
        omega
end Go.Proofs.Ytoiohlmiofplcaa.ND
/-
  append where the second argument's type has a name of its own (chapter 10: append(out, l[..]...), l a leaf).
-/
namespace Go.Proofs.Ytoiohlmiofplcaa.P
open Go.RowKit Go.Shelf Go.Proofs.YtoiohlmiofplcaaW.PrintWords Go.Proofs.YtoiohlmiofplcaaW.PrintLast Go.Proofs.YtoiohlmiofplcaaW.PrintMore Go.Proofs.Plain

theorem append_alike {P : Program} {t t2 e e2 : TypeId} (ht : P.underlying t = some (.slice e)) (ht2 : P.underlying t2 = some (.slice e2)) (ty : TypeId) (b : Option Addr) (n c : Nat) (x : Value) (W : World) :
    (Builtin.append_ #[t, t2] ty #[.slice b n c, x]).run P W = (Builtin.append_ #[t, t] ty #[.slice b n c, x]).run P W := by
  unfold Builtin.append_
  simp only [List.getElem?_toArray, List.getElem?_cons_zero, List.getElem?_cons_succ, Sem.run_bind, run_underlying ht, run_underlying ht2, Result.andThen_ok]
theorem append_run {P : Program} {α : Type} (d : Kd α) {w0 W : World} (base : Nat) (t e : TypeId) (z : Value) (bytes : Nat) (ty : TypeId)
    (ht : P.underlying t = some (.slice e)) (hinfo : (P.info? e).map (fun i => (i.zero, i.size, i.bytes)) = some (some z, d.sz, bytes)) (hz : z.cells.size = d.sz) (hs0 : 0 < d.sz) (hb0 : 0 < bytes)
    (v : Value) (xs ys : List α) (A : Option Addr) (m c : Nat) (ok okp : Nat → Prop)
    (HO : d.R e W base ok v xs) (HR : Kd.C d W A m ys) (hKM : ∀ x cs, d.K W x cs → d.M W base okp x cs) (hokp : ∀ k, okp k → ok k ∧ some k ≠ v.ownBlock) (hfresh : ∀ k, W.heap.size ≤ k → ok k)
    (HB : Below base w0 W) (hbase : base ≤ W.heap.size) (hl : (xs.length + m) * bytes ≤ 140737488355328) :
    ∃ v1 w1, (Builtin.append_ #[t, t] ty #[v, .slice A m c]).run P W = .ok v1 w1 ∧ d.R e w1 base ok v1 (xs ++ ys) ∧ Below base w0 w1 ∧ W.grownBy w1 v.ownBlock ∧ (v1.ownBlock = v.ownBlock ∨ ∃ b, v1.ownBlock = some b ∧ W.heap.size ≤ b) := by
  have key := Kd.R_append_rows_step (P := P) (ops := #[]) (o := { dst := some 2, op := .call { callee := .builtin .append, args := #[.tmp 0, .tmp 1], argTypes := #[t, t] }, type := ty, pos := "", after := #[], guard := none })
    (a := { tmps := #[v, .slice A m c, undef], defers := [] }) (Q := fun _ _ _ => False)
    (Kc := fun a' w1 => d.R e w1 base ok (a'.tmps.getD 2 undef) (xs ++ ys) ∧ Below base w0 w1 ∧ W.grownBy w1 v.ownBlock ∧ ((a'.tmps.getD 2 undef).ownBlock = v.ownBlock ∨ ∃ b, (a'.tmps.getD 2 undef).ownBlock = some b ∧ W.heap.size ≤ b))
    d base rfl (.tmp 0) (.tmp 1) t e z bytes rfl ht hinfo hz hs0 hb0 v xs ys A m c ok okp rfl rfl HO HR hKM hokp hfresh HB hbase hl (fun v1 w1 h1 h2 h3 h4 => ⟨h1, h2, h3, h4⟩)
  simp only [Region.wanted, if_true] at key
  unfold Oper.wp execOp at key
  simp only [resolve, invoke, builtin, Sem.run_bind, Sem.run_pure, Result.andThen_ok, List.map_toArray, List.map_cons, List.map_nil] at key
  cases hrun : (Builtin.append_ #[t, t] ty #[v, .slice A m c]).run P W with
  | ok v1 w1 =>
    rw [show (#[({ tmps := #[v, .slice A m c, undef], defers := [] } : Act).eval (.tmp 0), ({ tmps := #[v, .slice A m c, undef], defers := [] } : Act).eval (.tmp 1)] : Array Value) = #[v, .slice A m c] from rfl, hrun] at key
    exact ⟨v1, w1, rfl, key⟩
  | halt h w1 =>
    rw [show (#[({ tmps := #[v, .slice A m c, undef], defers := [] } : Act).eval (.tmp 0), ({ tmps := #[v, .slice A m c, undef], defers := [] } : Act).eval (.tmp 1)] : Array Value) = #[v, .slice A m c] from rfl, hrun] at key
    cases h <;> exact key.elim
theorem R_append_rows2 {P : Program} {ops : Array Oper} {rest : List Oper} {o : Oper} {a : Act} {Q : Exit → Act → World → Prop} {α : Type} (d : Kd α) {w0 W : World} (base : Nat) (hgd : o.guard = none) (s x : Operand) (t t2 e e2 : TypeId) (z : Value) (bytes : Nat)
    (ho : o.op = .call { callee := .builtin .append, args := #[s, x], argTypes := #[t, t2] })
    (ht : P.underlying t = some (.slice e)) (ht2 : P.underlying t2 = some (.slice e2)) (hinfo : (P.info? e).map (fun i => (i.zero, i.size, i.bytes)) = some (some z, d.sz, bytes)) (hz : z.cells.size = d.sz) (hs0 : 0 < d.sz) (hb0 : 0 < bytes)
    (v : Value) (xs ys : List α) (A : Option Addr) (m c : Nat) (ok okp : Nat → Prop) (hs : a.eval s = v) (hx : a.eval x = .slice A m c)
    (HO : d.R e W base ok v xs) (HR : Kd.C d W A m ys) (hKM : ∀ x cs, d.K W x cs → d.M W base okp x cs) (hokp : ∀ k, okp k → ok k ∧ some k ≠ v.ownBlock) (hfresh : ∀ k, W.heap.size ≤ k → ok k)
    (HB : Below base w0 W) (hbase : base ≤ W.heap.size) (hl : (xs.length + m) * bytes ≤ 140737488355328)
    (h : ∀ v1 w1, d.R e w1 base ok v1 (xs ++ ys) → Below base w0 w1 → W.grownBy w1 v.ownBlock → (v1.ownBlock = v.ownBlock ∨ ∃ b, v1.ownBlock = some b ∧ W.heap.size ≤ b) → wpList P ops Q rest (a.put o.dst v1) w1) :
    wpList P ops Q (o :: rest) a W := by
  obtain ⟨v1, w1, hr1, h1, h2, h3, h4⟩ := append_run d base t e z bytes o.type ht hinfo hz hs0 hb0 v xs ys A m c ok okp HO HR hKM hokp hfresh HB hbase hl
  obtain ⟨b, c', rfl⟩ := Kd.R_slice HO
  rw [← append_alike ht ht2] at hr1
  refine wpList_plain hgd fun K hK => ?_
  unfold Oper.wp execOp
  simp only [ho, resolve, invoke, builtin, Sem.run_bind, Sem.run_pure, Result.andThen_ok, List.map_toArray, List.map_cons, List.map_nil, hs, hx, hr1]
  exact hK _ _ (h v1 w1 h1 h2 h3 h4)
/-- Nothing that lay is turned, but v's own block. -/
def Keeps (v : Value) (w w' : World) : Prop := w.heap.size ≤ w'.heap.size ∧ ∀ g o, w.heap[g]? = some o → some g ≠ v.ownBlock → w'.heap[g]? = some o
/-- v's own block, or a new one. -/
def OwnAt (w : World) (v v' : Value) : Prop := v'.ownBlock = v.ownBlock ∨ ∃ b, v'.ownBlock = some b ∧ w.heap.size ≤ b
theorem Keeps.below {v : Value} {w w' : World} (h : Below w.heap.size w w') : Keeps v w w' := ⟨h.size, fun g o hg _ => blk_below hg h⟩
theorem Keeps.grown {v : Value} {w w' : World} (hs : w.heap.size ≤ w'.heap.size) (h : w.grownBy w' v.ownBlock) : Keeps v w w' := ⟨hs, fun g o hg hne => blk_grown hg h hne⟩
theorem Keeps.trans {v v1 : Value} {w w1 w2 : World} (h1 : Keeps v w w1) (ha : OwnAt w v v1) (h2 : Keeps v1 w1 w2) : Keeps v w w2 := by
  refine ⟨Nat.le_trans h1.1 h2.1, fun g o hg hne => h2.2 g o (h1.2 g o hg hne) ?_⟩
  rcases ha with e | ⟨b, e, hb⟩
  · rw [e]; exact hne
  · rw [e]
    intro he
    injection he with he
    have := blk_lt hg
    omega
theorem OwnAt.refl {v : Value} {w : World} : OwnAt w v v := .inl rfl
theorem OwnAt.trans {v v1 v2 : Value} {w w1 : World} (h1 : OwnAt w v v1) (hs : w.heap.size ≤ w1.heap.size) (h2 : OwnAt w1 v1 v2) : OwnAt w v v2 := by
  rcases h2 with e | ⟨b, e, hb⟩
  · rw [OwnAt, e]; exact h1
  · exact .inr ⟨b, e, by omega⟩
end Go.Proofs.Ytoiohlmiofplcaa.P
/-
  below (chapter 10): the kid in which a key stands.
-/
namespace Go.Proofs.Ytoiohlmiofplcaa.P
open Go.RowKit Go.Shelf Go.Proofs.YtoiohlmiofplcaaW.PrintWords Go.Proofs.YtoiohlmiofplcaaW.PrintLast Go.Proofs.YtoiohlmiofplcaaW.PrintMore Go.Proofs.Plain

set_option maxHeartbeats 4000000 in
theorem below1_calls (h : Nat) (k : S24) (B : Nat) (x : T h) (u : Value) (w : World) (hne : NE h x) (hr : RepU w h x u) (hb : w.heap[B]? = some (.cells #[.string k.f0, .int .i64 k.f1] 24 (0, 0))) :
    Calls Try.prog 91 #[.iface (ty h) u, .pointer (some ⟨B, 0, none⟩)] w fun e w' => e = .returned (.bool (ND.lt k (firstT h x))) ∧ Below w.heap.size w w' := by
  have HBk := Aside0.mk hb
  have hB := blk_lt hb
  have c0 := blk_cell hb 0
  have c1 := blk_cell hb 1
  simp only [List.getElem?_toArray, List.getElem?_cons_zero, List.getElem?_cons_succ] at c0 c1
  have HF := Aside0.mk (fun W (hW : Below w.heap.size w W) => first_calls h x u W hne (RepU.below hW h x u hr))
  have HL := Aside0.mk (fun (f : S24) W => key_Less.calls k.f0 k.f1 f.f0 f.f1 _ W rfl)
  have hq := Aside0.mk (show ∀ f : S24, ND.lt k f = lessK k.f0 k.f1 f.f0 f.f1 from fun f => rfl)
  generalize firstT h x = f at *
  clear hne hr hb
  cases h with
  | zero =>
    show Calls Try.prog 91 #[.iface 71 u, _] w _
    replace HF : Aside0 (∀ W, Below w.heap.size w W → Calls Try.prog 77 #[u] W fun e w' => e = .returned (.agg #[.string f.f0, .int .i64 f.f1]) ∧ Below W.heap.size W w') := HF
    go_enter Try.func91, Try.ntmps91
    go_wp2
    go_region_with (first | (go_at_call 77; (with_reducible refine (HF.out _ (below_drew (Below.refl _ _))).mono ?_); rintro e w3 ⟨rfl, hb3⟩; have HB3 := Aside0.mk (below_step (below_drew (Below.refl _ _)) hb3); have c30 := pw_cell_below HB3.out c0; have c31 := pw_cell_below HB3.out c1; clear hb3) | (go_at_call 45; (with_reducible refine (HL.out f _).mono ?_); rintro e w4 ⟨rfl, hb4⟩; have HB4 := Aside0.mk (HB3.out.trans (hb4.mono HB3.out.size)); clear hb4))
    all_goals go_wp2
    all_goals go_ret
    all_goals exact ⟨by rw [hq.out]; rfl, HB4.out⟩
  | succ h =>
    show Calls Try.prog 91 #[.iface 84 u, _] w _
    replace HF : Aside0 (∀ W, Below w.heap.size w W → Calls Try.prog 84 #[u] W fun e w' => e = .returned (.agg #[.string f.f0, .int .i64 f.f1]) ∧ Below W.heap.size W w') := HF
    go_enter Try.func91, Try.ntmps91
    go_wp2
    go_region_with (first | (go_at_call 84; (with_reducible refine (HF.out _ (below_drew (Below.refl _ _))).mono ?_); rintro e w3 ⟨rfl, hb3⟩; have HB3 := Aside0.mk (below_step (below_drew (Below.refl _ _)) hb3); have c30 := pw_cell_below HB3.out c0; have c31 := pw_cell_below HB3.out c1; clear hb3) | (go_at_call 45; (with_reducible refine (HL.out f _).mono ?_); rintro e w4 ⟨rfl, hb4⟩; have HB4 := Aside0.mk (HB3.out.trans (hb4.mono HB3.out.size)); clear hb4))
    all_goals go_wp2
    all_goals go_ret
    all_goals exact ⟨by rw [hq.out]; rfl, HB4.out⟩

/-- The function value (g, with lb captured) answers p at each vertex of the row. -/
def PredV (g : Nat) (lb : Array Value) (h : Nat) (p : T h → Bool) (ks : List (T h)) (w : World) : Prop :=
  (∀ args w, (callFunc g args).run Try.prog w = .ok (.enter g args) w) ∧
  ∀ x ∈ ks, ∀ u, RepU w h x u → ∀ w1, Below w.heap.size w w1 → Calls Try.prog g (#[.iface (ty h) u] ++ lb) w1 fun e w2 => e = .returned (.bool (p x)) ∧ Below w1.heap.size w1 w2
set_option maxHeartbeats 4000000 in
theorem IndexFuncVtx (g : Nat) (lb : Array Value) (h : Nat) (p : T h → Bool) (A : Option Addr) (c : Nat) (l : List (T h)) (w : World) (hr : VRow w h A l) (hp : PredV g lb h p l w) :
    Calls Try.prog 92 #[.slice A l.length c, .func (.func g) #[] lb] w fun e w' => e = .returned (.int .i64 (idx p l)) ∧ Below w.heap.size w w' := by
  have HR := Aside0.mk hr
  have hm := hr.max
  obtain ⟨eg, hpr⟩ := hp
  have HP := Aside0.mk hpr
  clear hr hpr
  go_enter Try.func92, Try.ntmps92
  go_wp2
  go_loopw [4, 5, 8] (fun _ _ i wr => ∃ k : Nat, k ≤ l.length ∧ i = .int .i64 k ∧ Aside0 (∀ x ∈ l.take k, p x = false) ∧ Aside0 (Below w.heap.size w wr)) (fun _ _ i _ => l.length - (intOf i).toNat)
  case atStart => exact ⟨0, Nat.zero_le _, rfl, ⟨by simp⟩, ⟨Below.refl _ _⟩⟩
  case round =>
    obtain ⟨k, hk, rfl, hall, HB⟩ := hrel
    by_cases hlt : k < l.length
    · obtain ⟨ad, u, rfl, hx0, hU⟩ := VRow.at_ HR.out hlt
      have hx := pw_cell_below HB.out hx0
      have hcall := HP.out l[k] (List.getElem_mem hlt) u hU wr HB.out
      clear hx0 hU
      cases hpk : p l[k]
      · have hal2 : Aside0 (∀ x ∈ l.take (k + 1), p x = false) := ⟨by
          rw [List.take_succ_eq_append_getElem hlt]; intro s hs
          rcases List.mem_append.1 hs with h | h
          · exact hall.out s h
          · rw [List.mem_singleton.1 h]; exact hpk⟩
        have HC := Aside0.mk hcall
        have HK := Aside0.mk hpk
        clear hcall hpk
        go_wp2_with (go_at_fn g; refine HC.out.mono ?_; rintro e w3 ⟨rfl, hb3⟩; have HB3 := Aside0.mk (HB.out.trans (hb3.mono HB.out.size)); clear hb3; rw [HK.out])
        go_roundw
        case rel => exact ⟨k + 1, by omega, by go_num, hal2, HB3⟩
        case measure => simp [intOf]; omega
      · have HC := Aside0.mk hcall
        have HK := Aside0.mk hpk
        have hres := Aside0.mk (idx_at hlt hall.out hpk)
        clear hcall hpk
        go_wp2_with (go_at_fn g; refine HC.out.mono ?_; rintro e w3 ⟨rfl, hb3⟩; have HB3 := Aside0.mk (HB.out.trans (hb3.mono HB.out.size)); clear hb3; rw [HK.out])
        go_ret
        exact ⟨by rw [hres.out]; rfl, HB3.out⟩
    · obtain rfl : k = l.length := by omega
      have hres := Aside0.mk (idx_none (p := p) (l := l) (fun x hx => hall.out x (by rw [List.take_length]; exact hx)))
      go_wp2
      go_ret
      exact ⟨by rw [hres.out]; rfl, HB.out⟩
theorem tw_self {α : Type} {q : α → Bool} : ∀ {l : List α}, (∀ x ∈ l, q x = true) → l.takeWhile q = l
  | [], _ => rfl
  | x :: l, h => by rw [List.takeWhile_cons, if_pos (h x (by simp)), tw_self (fun y hy => h y (by simp [hy]))]
theorem below_idx (h : Nat) (ks : List (T h)) (k : S24) : (ND.belowT h ks k : Int) = max ((if idx (fun v => ND.lt k (firstT h v)) ks < 0 then (ks.length : Int) else idx (fun v => ND.lt k (firstT h v)) ks) - 1) 0 := by
  unfold ND.belowT idx
  by_cases ha : ks.any (fun v => ND.lt k (firstT h v)) = true
  · rw [if_pos ha, if_neg (by omega)]
    show _ = max ((((ks.takeWhile (fun v => !ND.lt k (firstT h v))).length : Nat) : Int) - 1) 0
    omega
  · rw [if_neg ha, if_pos (by omega)]
    have : ks.takeWhile (fun v => !ND.lt k (firstT h v)) = ks := by
      refine tw_self (fun x hx => ?_)
      cases hc : ND.lt k (firstT h x) with
      | false => rfl
      | true => exact absurd (List.any_eq_true.2 ⟨x, hx, hc⟩) ha
    rw [this]
    omega
set_option maxHeartbeats 4000000 in
theorem below_calls (h : Nat) (A : Option Addr) (c : Nat) (ks : List (T h)) (b : Int) (k : S24) (w : World) (hr : VRow w h A ks) (hc : ks.length ≤ c) (hne : ∀ v ∈ ks, NE h v) :
    Calls Try.prog 88 #[.agg #[.slice A ks.length c, .int .i64 b], .agg #[.string k.f0, .int .i64 k.f1]] w fun e w' => e = .returned (.int .i64 (ND.belowT h ks k : Nat)) ∧ Below w.heap.size w w' := by
  have hm := hr.max
  have hb0 := (Below.refl w.heap.size w).alloc (Nat.le_refl _) (.cells #[.slice A ks.length c, .int .i64 b] 84)
  have HB0 := Aside0.mk hb0
  have HB := Aside0.mk (hb0.alloc hb0.size (.cells #[.string k.f0, .int .i64 k.f1] 24))
  have hg := blk_new (w.alloc (.cells #[.slice A ks.length c, .int .i64 b] 84)) (.cells #[.string k.f0, .int .i64 k.f1] 24)
  rw [World.size_alloc] at hg
  have HI := Aside0.mk (IndexFuncVtx 91 #[.pointer (some ⟨w.heap.size + 1, 0, none⟩)] h (fun v => ND.lt k (firstT h v)) A c ks _ (VRow.below hr HB.out)
    ⟨enters_of Try.func91 (by kernel_rfl) rfl, fun x hx u hu w1 h1 => below1_calls h k _ x u w1 (hne x hx) (RepU.below h1 h x u hu) (blk_below hg h1)⟩)
  have hix := below_idx h ks k
  obtain ⟨hi0, hi1⟩ := idx_rng (fun v => ND.lt k (firstT h v)) ks
  generalize idx (fun v => ND.lt k (firstT h v)) ks = i at *
  generalize ND.belowT h ks k = r at *
  have hb1 := blk_new w (.cells #[.slice A ks.length c, .int .i64 b] 84)
  have z0 := Aside0.mk (pw_cell_below (below_alloc (Below.refl _ _) (.cells #[.string k.f0, .int .i64 k.f1] 24)) ((blk_cell hb1 0).trans rfl : (w.alloc (.cells #[.slice A ks.length c, .int .i64 b] 84)).cell? ⟨w.heap.size, 0, none⟩ = some (.slice A ks.length c)))
  clear hr hne hb0 hg hb1
  generalize ks.length = n at *
  by_cases hlt : i < 0
  · rw [if_pos hlt] at hix
    replace hix := Aside0.mk hix
    go_enter Try.func88, Try.ntmps88
    go_wp2_with (go_at_call 92; (with_reducible refine HI.out.mono ?_); rintro e w3 ⟨rfl, hb3⟩; have HB3 := Aside0.mk (HB.out.trans (hb3.mono HB.out.size)); have z3 := pw_cell_below hb3 z0.out; clear hb3)
    all_goals go_ret
    all_goals exact ⟨congrArg (fun z => Ending.returned (.int .i64 z)) (by have := hix.out; omega), HB3.out⟩
  · rw [if_neg hlt] at hix
    replace hix := Aside0.mk hix
    go_enter Try.func88, Try.ntmps88
    go_wp2_with (go_at_call 92; (with_reducible refine HI.out.mono ?_); rintro e w3 ⟨rfl, hb3⟩; have HB3 := Aside0.mk (HB.out.trans (hb3.mono HB.out.size)); clear hb3)
    all_goals go_ret
    all_goals exact ⟨congrArg (fun z => Ending.returned (.int .i64 z)) (by have := hix.out; omega), HB3.out⟩
end Go.Proofs.Ytoiohlmiofplcaa.P
/-
  from (chapter 10).
-/
namespace Go.Proofs.Ytoiohlmiofplcaa.P
open Go.RowKit Go.Shelf Go.Proofs.YtoiohlmiofplcaaW.PrintWords Go.Proofs.YtoiohlmiofplcaaW.PrintLast Go.Proofs.YtoiohlmiofplcaaW.PrintMore Go.Proofs.Plain

theorem fromL_dec {l : List S26} {k : S24} {A M C : List S26} (h : ND.Dec l k A M C) : ND.fromL l k = M ++ C := by
  have h1 := ND.fromL_app (l := M ++ C) h.ahead
  rw [← h.eq] at h1
  rw [h1]
  unfold ND.fromL
  rcases h.mid with rfl | ⟨m, rfl, hm⟩
  · cases C with
    | nil => rfl
    | cons x C' =>
      have := (h.behind rfl x C' rfl).1
      show List.dropWhile _ (x :: C') = x :: C'
      rw [List.dropWhile_cons, if_neg (by rw [this]; decide)]
  · show List.dropWhile _ (m :: C) = m :: C
    rw [List.dropWhile_cons, if_neg (by rw [hm, ND.lt_irrefl]; decide)]
theorem find_at (l : List S26) (k : S24) : ∃ (at_ : Nat) (b : Bool), node_Find.f l k.f0 k.f1 = some ((at_ : Int), b) ∧ at_ ≤ l.length ∧ l.drop at_ = ND.fromL l k := by
  obtain ⟨A, M, C, h⟩ := ND.dec_exists l k
  refine ⟨A.length, _, ND.findf_dec h, ?_, ?_⟩
  · rw [h.eq]; simp
  · rw [fromL_dec h]
    conv => lhs; rw [h.eq]
    simp
theorem run_max {P : Program} (ats : Array TypeId) (ty : TypeId) (x y z : Int) (W : World) (h : max x y = z) : (Builtin.max_ ats ty #[.int .i64 x, .int .i64 y]).run P W = .ok (.int .i64 z) W := by
  rw [max_two, max2_int]
  have : (if x < y then y else x) = z := by split <;> omega
  rw [this]
  rfl
theorem run_min {P : Program} (ats : Array TypeId) (ty : TypeId) (x y z : Int) (W : World) (h : min x y = z) : (Builtin.min_ ats ty #[.int .i64 x, .int .i64 y]).run P W = .ok (.int .i64 z) W := by
  rw [min_two, min2_int]
  have : (if y < x then y else x) = z := by split <;> omega
  rw [this]
  rfl
set_option maxHeartbeats 4000000 in
set_option maxRecDepth 100000 in
theorem leaf_from_calls (A : Option Addr) (c : Nat) (l : List S26) (k : S24) (v : Value) (out : List S26) (n : Nat) (w0 w : World) (B : Nat) (hr : Kd.C k26 w0 A l.length l) (hc : l.length ≤ c) (hle : w0.heap.size ≤ B) (hB : Below B w0 w) (hBs : B ≤ w.heap.size)
    (HO : Kd.R k26 26 w B (fun _ => True) v out) (hl : out.length + l.length ≤ 1000000) (hn : n ≤ 1000000000) :
    Calls Try.prog 78 #[.slice A l.length c, .agg #[.string k.f0, .int .i64 k.f1], v, .int .i64 (n : Nat)] w fun e w' => ∃ v', e = .returned v' ∧ Kd.R k26 26 w' B (fun _ => True) v' (ND.fromT 0 l k out n) ∧ Below B w w' ∧ Keeps v w w' ∧ OwnAt w v v' := by
  obtain ⟨at_, b, hf, hat, hdr⟩ := find_at l k
  have hfr : ND.fromT 0 l k out n = out ++ (ND.fromL l k).take (n - out.length) := rfl
  rw [hfr, ← hdr]
  obtain ⟨Ao, co, rfl⟩ := Kd.R_slice HO
  have hb1 := (Below.refl w.heap.size w).alloc (Nat.le_refl _) (.cells #[.string k.f0, .int .i64 k.f1] 24)
  have HB1 := Aside0.mk hb1
  have hrw := Kd.C_below hr (hB.mono hle)
  have HF := Aside0.mk (node_Find.calls A c l k.f0 k.f1 at_ b (w.alloc (.cells #[.string k.f0, .int .i64 k.f1] 24)) (Kd.C_below hrw hb1) hc hf)
  obtain ⟨i0, hi0, _, hsz, _⟩ := info_parts info26
  clear hf hfr hdr
  by_cases hno : n ≤ out.length
  · have hz : (n : Int) - (out.length : Int) ≤ 0 := by omega
    obtain ⟨n3, hn3⟩ : ∃ n3 : Nat, n3 = 0 := ⟨_, rfl⟩
    have hcut := cut_mid (P := Try.prog) 71 26 .i64 .i64 Try.underlying71 hi0 3 hsz A l.length c (at_ : Int) ((at_ : Int)) (by omega) (by omega) (by omega) hc
    obtain ⟨A3, hA3⟩ : ∃ A3, A3 = (if c = (at_ : Int).toNat then A else A.map (·.add ((at_ : Int).toNat * 3))) := ⟨_, rfl⟩
    obtain ⟨c3, hc3⟩ : ∃ c3, c3 = c - (at_ : Int).toNat := ⟨_, rfl⟩
    rw [← hA3, ← hc3, show ((at_ : Int) : Int).toNat - (at_ : Int).toNat = n3 by omega] at hcut
    rw [Int.toNat_natCast] at hA3 hc3
    have h1 := Kd.C_drop (k := k26) (m := at_) hrw hat hc
    rw [show k26.sz = 3 from rfl, ← hA3] at h1
    have hld : (l.drop at_).length = l.length - at_ := List.length_drop
    have h2 := Kd.C_take (k := k26) (m := n3) h1 (by omega)
    have hlt : ((l.drop at_).take n3).length = n3 := by rw [List.length_take]; omega
    rw [hlt] at h2
    have htk : (l.drop at_).take n3 = (l.drop at_).take (n - out.length) := by
      rw [hn3, show n - out.length = 0 by omega]
    rw [← htk]
    have HC := Aside0.mk h2
    have HOs := Aside0.mk HO
    have hn3b : n3 ≤ l.length := by omega
    generalize (l.drop at_).take n3 = ys at *
    clear h1 h2 hlt htk hld hn3 hA3 hc3 hrw hr HO hi0 hsz
    generalize l.length = n1 at *
    generalize out.length = no at *
    go_enter Try.func78, Try.ntmps78
    go_wp2_with (first | (go_at_call 15; (with_reducible refine HF.out.mono ?_); rintro e w3 ⟨rfl, hb3⟩; have HB3 := Aside0.mk (HB1.out.trans (hb3.mono HB1.out.size)); clear hb3) | ((with_reducible refine gate_dst (N := 27) rfl ?_); refine Kd.event_run (v := .int .i64 ((0 : Int))) (w1 := w3) rfl ?hx ?_; (case hx => (unfold execOp; simp only [Act.eval, resolve, invoke, builtin, Sem.run_bind, Sem.run_pure, Result.andThen_ok, List.map_toArray, List.map_cons, List.map_nil]; show ((Sem.run Try.prog (Builtin.max_ _ _ #[.int .i64 ((n : Int) - (no : Int)), .int .i64 0]) w3).andThen _) = _; rw [run_max _ _ _ _ ((0 : Int)) w3 (by omega)]; rfl))) | ((with_reducible refine gate_dst (N := 29) rfl ?_); refine Kd.event_run (v := .int .i64 ((at_ : Int))) (w1 := w3) rfl ?hx ?_; (case hx => (unfold execOp; simp only [Act.eval, resolve, invoke, builtin, Sem.run_bind, Sem.run_pure, Result.andThen_ok, List.map_toArray, List.map_cons, List.map_nil]; show ((Sem.run Try.prog (Builtin.min_ _ _ #[.int .i64 (n1 : Int), .int .i64 ((at_ : Int))]) w3).andThen _) = _; rw [run_min _ _ _ _ ((at_ : Int)) w3 (by omega)]; rfl))) | ((with_reducible refine gate_dst (N := 30) rfl ?_); refine Kd.event_run (v := .slice A3 n3 c3) (w1 := w3) rfl ?hx ?_; (case hx => (unfold execOp; simp only [Act.eval, Sem.run_bind, Sem.run_pure, Result.andThen_ok]; show ((Sem.run Try.prog (Instr.slice 71 (.slice A n1 c) (some (.int .i64 (at_ : Int))) (some (.int .i64 ((at_ : Int)))) none) w3).andThen _) = _; rw [hcut]; rfl))) | ((with_reducible refine gate_dst (N := 31) rfl ?_); refine R_append_rows2 k26 (w0 := w) B rfl (.tmp 17) (.tmp 30) 22 71 26 26 (.agg #[(.string ⟨#[]⟩), (.int .i64 0), (.string ⟨#[]⟩)]) 40 rfl Try.underlying22 Try.underlying71 info26 rfl (by decide) (by omega) (.slice Ao no co) out ys A3 n3 c3 (fun _ => True) (fun _ => False) rfl rfl (Kd.R_below HOs.out HB3.out) (Kd.C_below HC.out HB3.out) (fun _ _ h => h) (fun _ h => h.elim) (fun _ _ => trivial) (HB3.out.mono hBs) (by have := HB3.out.size; omega) (by have := (Kd.R_reads' HOs.out).1; omega) ?_; intro v1 w5 ho hb hg hat2; have HO5 := Aside0.mk ho; have HB5 := Aside0.mk hb; have HK5 := Aside0.mk (Keeps.trans (Keeps.below HB3.out) OwnAt.refl (Keeps.grown hg.size hg)); have HA5 := Aside0.mk (OwnAt.trans OwnAt.refl HB3.out.size hat2); clear ho hb hg hat2))
    go_ret
    exact ⟨_, rfl, HO5.out, HB5.out, HK5.out, HA5.out⟩
  · by_cases hto : l.length ≤ at_ + (n - out.length)
    · have hz : (l.length : Int) ≤ (at_ : Int) + ((n : Int) - (out.length : Int)) := by omega
      obtain ⟨n3, hn3⟩ : ∃ n3 : Nat, n3 = l.length - at_ := ⟨_, rfl⟩
      have hcut := cut_mid (P := Try.prog) 71 26 .i64 .i64 Try.underlying71 hi0 3 hsz A l.length c (at_ : Int) ((l.length : Int)) (by omega) (by omega) (by omega) hc
      obtain ⟨A3, hA3⟩ : ∃ A3, A3 = (if c = (at_ : Int).toNat then A else A.map (·.add ((at_ : Int).toNat * 3))) := ⟨_, rfl⟩
      obtain ⟨c3, hc3⟩ : ∃ c3, c3 = c - (at_ : Int).toNat := ⟨_, rfl⟩
      rw [← hA3, ← hc3, show ((l.length : Int) : Int).toNat - (at_ : Int).toNat = n3 by omega] at hcut
      rw [Int.toNat_natCast] at hA3 hc3
      have h1 := Kd.C_drop (k := k26) (m := at_) hrw hat hc
      rw [show k26.sz = 3 from rfl, ← hA3] at h1
      have hld : (l.drop at_).length = l.length - at_ := List.length_drop
      have h2 := Kd.C_take (k := k26) (m := n3) h1 (by omega)
      have hlt : ((l.drop at_).take n3).length = n3 := by rw [List.length_take]; omega
      rw [hlt] at h2
      have htk : (l.drop at_).take n3 = (l.drop at_).take (n - out.length) := by
        rw [hn3, List.take_of_length_le (by omega), List.take_of_length_le (by omega)]
      rw [← htk]
      have HC := Aside0.mk h2
      have HOs := Aside0.mk HO
      have hn3b : n3 ≤ l.length := by omega
      generalize (l.drop at_).take n3 = ys at *
      clear h1 h2 hlt htk hld hn3 hA3 hc3 hrw hr HO hi0 hsz
      generalize l.length = n1 at *
      generalize out.length = no at *
      go_enter Try.func78, Try.ntmps78
      go_wp2_with (first | (go_at_call 15; (with_reducible refine HF.out.mono ?_); rintro e w3 ⟨rfl, hb3⟩; have HB3 := Aside0.mk (HB1.out.trans (hb3.mono HB1.out.size)); clear hb3) | ((with_reducible refine gate_dst (N := 27) rfl ?_); refine Kd.event_run (v := .int .i64 ((n : Int) - (no : Int))) (w1 := w3) rfl ?hx ?_; (case hx => (unfold execOp; simp only [Act.eval, resolve, invoke, builtin, Sem.run_bind, Sem.run_pure, Result.andThen_ok, List.map_toArray, List.map_cons, List.map_nil]; show ((Sem.run Try.prog (Builtin.max_ _ _ #[.int .i64 ((n : Int) - (no : Int)), .int .i64 0]) w3).andThen _) = _; rw [run_max _ _ _ _ ((n : Int) - (no : Int)) w3 (by omega)]; rfl))) | ((with_reducible refine gate_dst (N := 29) rfl ?_); refine Kd.event_run (v := .int .i64 ((n1 : Int))) (w1 := w3) rfl ?hx ?_; (case hx => (unfold execOp; simp only [Act.eval, resolve, invoke, builtin, Sem.run_bind, Sem.run_pure, Result.andThen_ok, List.map_toArray, List.map_cons, List.map_nil]; show ((Sem.run Try.prog (Builtin.min_ _ _ #[.int .i64 (n1 : Int), .int .i64 ((at_ : Int) + ((n : Int) - (no : Int)))]) w3).andThen _) = _; rw [run_min _ _ _ _ ((n1 : Int)) w3 (by omega)]; rfl))) | ((with_reducible refine gate_dst (N := 30) rfl ?_); refine Kd.event_run (v := .slice A3 n3 c3) (w1 := w3) rfl ?hx ?_; (case hx => (unfold execOp; simp only [Act.eval, Sem.run_bind, Sem.run_pure, Result.andThen_ok]; show ((Sem.run Try.prog (Instr.slice 71 (.slice A n1 c) (some (.int .i64 (at_ : Int))) (some (.int .i64 ((n1 : Int)))) none) w3).andThen _) = _; rw [hcut]; rfl))) | ((with_reducible refine gate_dst (N := 31) rfl ?_); refine R_append_rows2 k26 (w0 := w) B rfl (.tmp 17) (.tmp 30) 22 71 26 26 (.agg #[(.string ⟨#[]⟩), (.int .i64 0), (.string ⟨#[]⟩)]) 40 rfl Try.underlying22 Try.underlying71 info26 rfl (by decide) (by omega) (.slice Ao no co) out ys A3 n3 c3 (fun _ => True) (fun _ => False) rfl rfl (Kd.R_below HOs.out HB3.out) (Kd.C_below HC.out HB3.out) (fun _ _ h => h) (fun _ h => h.elim) (fun _ _ => trivial) (HB3.out.mono hBs) (by have := HB3.out.size; omega) (by have := (Kd.R_reads' HOs.out).1; omega) ?_; intro v1 w5 ho hb hg hat2; have HO5 := Aside0.mk ho; have HB5 := Aside0.mk hb; have HK5 := Aside0.mk (Keeps.trans (Keeps.below HB3.out) OwnAt.refl (Keeps.grown hg.size hg)); have HA5 := Aside0.mk (OwnAt.trans OwnAt.refl HB3.out.size hat2); clear ho hb hg hat2))
      go_ret
      exact ⟨_, rfl, HO5.out, HB5.out, HK5.out, HA5.out⟩
    · have hz : (at_ : Int) + ((n : Int) - (out.length : Int)) < (l.length : Int) := by omega
      obtain ⟨n3, hn3⟩ : ∃ n3 : Nat, n3 = n - out.length := ⟨_, rfl⟩
      have hcut := cut_mid (P := Try.prog) 71 26 .i64 .i64 Try.underlying71 hi0 3 hsz A l.length c (at_ : Int) ((at_ : Int) + ((n : Int) - (out.length : Int))) (by omega) (by omega) (by omega) hc
      obtain ⟨A3, hA3⟩ : ∃ A3, A3 = (if c = (at_ : Int).toNat then A else A.map (·.add ((at_ : Int).toNat * 3))) := ⟨_, rfl⟩
      obtain ⟨c3, hc3⟩ : ∃ c3, c3 = c - (at_ : Int).toNat := ⟨_, rfl⟩
      rw [← hA3, ← hc3, show ((at_ : Int) + ((n : Int) - (out.length : Int)) : Int).toNat - (at_ : Int).toNat = n3 by omega] at hcut
      rw [Int.toNat_natCast] at hA3 hc3
      have h1 := Kd.C_drop (k := k26) (m := at_) hrw hat hc
      rw [show k26.sz = 3 from rfl, ← hA3] at h1
      have hld : (l.drop at_).length = l.length - at_ := List.length_drop
      have h2 := Kd.C_take (k := k26) (m := n3) h1 (by omega)
      have hlt : ((l.drop at_).take n3).length = n3 := by rw [List.length_take]; omega
      rw [hlt] at h2
      have htk : (l.drop at_).take n3 = (l.drop at_).take (n - out.length) := by
        rw [hn3]
      rw [← htk]
      have HC := Aside0.mk h2
      have HOs := Aside0.mk HO
      have hn3b : n3 ≤ l.length := by omega
      generalize (l.drop at_).take n3 = ys at *
      clear h1 h2 hlt htk hld hn3 hA3 hc3 hrw hr HO hi0 hsz
      generalize l.length = n1 at *
      generalize out.length = no at *
      go_enter Try.func78, Try.ntmps78
      go_wp2_with (first | (go_at_call 15; (with_reducible refine HF.out.mono ?_); rintro e w3 ⟨rfl, hb3⟩; have HB3 := Aside0.mk (HB1.out.trans (hb3.mono HB1.out.size)); clear hb3) | ((with_reducible refine gate_dst (N := 27) rfl ?_); refine Kd.event_run (v := .int .i64 ((n : Int) - (no : Int))) (w1 := w3) rfl ?hx ?_; (case hx => (unfold execOp; simp only [Act.eval, resolve, invoke, builtin, Sem.run_bind, Sem.run_pure, Result.andThen_ok, List.map_toArray, List.map_cons, List.map_nil]; show ((Sem.run Try.prog (Builtin.max_ _ _ #[.int .i64 ((n : Int) - (no : Int)), .int .i64 0]) w3).andThen _) = _; rw [run_max _ _ _ _ ((n : Int) - (no : Int)) w3 (by omega)]; rfl))) | ((with_reducible refine gate_dst (N := 29) rfl ?_); refine Kd.event_run (v := .int .i64 ((at_ : Int) + ((n : Int) - (no : Int)))) (w1 := w3) rfl ?hx ?_; (case hx => (unfold execOp; simp only [Act.eval, resolve, invoke, builtin, Sem.run_bind, Sem.run_pure, Result.andThen_ok, List.map_toArray, List.map_cons, List.map_nil]; show ((Sem.run Try.prog (Builtin.min_ _ _ #[.int .i64 (n1 : Int), .int .i64 ((at_ : Int) + ((n : Int) - (no : Int)))]) w3).andThen _) = _; rw [run_min _ _ _ _ ((at_ : Int) + ((n : Int) - (no : Int))) w3 (by omega)]; rfl))) | ((with_reducible refine gate_dst (N := 30) rfl ?_); refine Kd.event_run (v := .slice A3 n3 c3) (w1 := w3) rfl ?hx ?_; (case hx => (unfold execOp; simp only [Act.eval, Sem.run_bind, Sem.run_pure, Result.andThen_ok]; show ((Sem.run Try.prog (Instr.slice 71 (.slice A n1 c) (some (.int .i64 (at_ : Int))) (some (.int .i64 ((at_ : Int) + ((n : Int) - (no : Int))))) none) w3).andThen _) = _; rw [hcut]; rfl))) | ((with_reducible refine gate_dst (N := 31) rfl ?_); refine R_append_rows2 k26 (w0 := w) B rfl (.tmp 17) (.tmp 30) 22 71 26 26 (.agg #[(.string ⟨#[]⟩), (.int .i64 0), (.string ⟨#[]⟩)]) 40 rfl Try.underlying22 Try.underlying71 info26 rfl (by decide) (by omega) (.slice Ao no co) out ys A3 n3 c3 (fun _ => True) (fun _ => False) rfl rfl (Kd.R_below HOs.out HB3.out) (Kd.C_below HC.out HB3.out) (fun _ _ h => h) (fun _ h => h.elim) (fun _ _ => trivial) (HB3.out.mono hBs) (by have := HB3.out.size; omega) (by have := (Kd.R_reads' HOs.out).1; omega) ?_; intro v1 w5 ho hb hg hat2; have HO5 := Aside0.mk ho; have HB5 := Aside0.mk hb; have HK5 := Aside0.mk (Keeps.trans (Keeps.below HB3.out) OwnAt.refl (Keeps.grown hg.size hg)); have HA5 := Aside0.mk (OwnAt.trans OwnAt.refl HB3.out.size hat2); clear ho hb hg hat2))
      go_ret
      exact ⟨_, rfl, HO5.out, HB5.out, HK5.out, HA5.out⟩
end Go.Proofs.Ytoiohlmiofplcaa.P
/-
  with (chapter 10): kids of which some are others.
-/
namespace Go.Proofs.Ytoiohlmiofplcaa.P
open Go.RowKit Go.Shelf Go.Proofs.YtoiohlmiofplcaaW.PrintWords Go.Proofs.YtoiohlmiofplcaaW.PrintLast Go.Proofs.YtoiohlmiofplcaaW.PrintMore Go.Proofs.Plain

/-- A block of slices as a row of rows. -/
theorem rows_lit {α : Type} {d : Kd α} {ez e g : Nat} {W : World} (cs : List Value) (xs : List (List α)) (hl : xs.length ≤ 9223372036854775807) (hg : W.heap[g]? = some (.cells cs.toArray e (0, 0)))
    (hx : ∀ (j : Nat) (x : List α), xs[j]? = some x → ∃ A c, cs[j]? = some (Value.slice A x.length c) ∧ x.length ≤ c ∧ d.C W A x.length x) : Kd.C (Kd.slice ez d) W (some ⟨g, 0, none⟩) xs.length xs := by
  refine ⟨rfl, hl, fun _ => ⟨_, rfl, fun j p hj => ?_⟩⟩
  obtain ⟨A, c, h1, h2, h3⟩ := hx j p hj
  refine ⟨_, rfl, ⟨A, c, rfl, h2, h3⟩, fun i u hu => ?_⟩
  cases i with
  | succ i => cases hu
  | zero =>
    cases hu
    have k0 := blk_cell hg j
    rw [List.getElem?_toArray, h1] at k0
    have e : (⟨g, 0, none⟩ : Addr).add (j * 1 + 0) = ⟨g, j, none⟩ := by simp [Addr.add]; omega
    show W.cell? ((⟨g, 0, none⟩ : Addr).add (j * 1 + 0)) = _
    rw [e]
    exact k0
set_option maxHeartbeats 4000000 in
theorem with_calls (h : Nat) (A : Option Addr) (c : Nat) (ks : List (T h)) (b : Int) (at_ many : Nat) (A2 : Option Addr) (c2 : Nat) (l : List (T h)) (w : World) (hr : VRow w h A ks) (hc : ks.length ≤ c) (hr2 : VRow w h A2 l) (hc2 : l.length ≤ c2) (ham : at_ + many ≤ ks.length) (hl1 : ks.length ≤ 1000000) (hl2 : l.length ≤ 1000000) :
    Calls Try.prog 89 #[.agg #[.slice A ks.length c, .int .i64 b], .int .i64 (at_ : Nat), .int .i64 (many : Nat), .slice A2 l.length c2] w fun e w' => ∃ A' c', e = .returned (.slice A' (ks.take at_ ++ (l ++ ks.drop (at_ + many))).length c') ∧ (ks.take at_ ++ (l ++ ks.drop (at_ + many))).length ≤ c' ∧ VRow w' h A' (ks.take at_ ++ (l ++ ks.drop (at_ + many))) ∧ Below w.heap.size w w' := by
  obtain ⟨i0, hi0, _, hsz, _⟩ := info_parts vtx_info
  obtain ⟨m, hm⟩ : ∃ m, m = at_ + many := ⟨_, rfl⟩
  rw [← hm] at ham ⊢
  have hw : IntKind.i64.wrap ((at_ : Int) + (many : Int)) = (m : Int) := by rw [i64_w]; unfold wrap64; omega
  have hcut1 := cut_to (P := Try.prog) 79 73 .i64 Try.underlying79 hi0 A ks.length c (at_ : Int) (by omega) (by omega) hc
  have hcut2 := cut_from (P := Try.prog) 79 73 .i64 Try.underlying79 hi0 1 hsz A ks.length c (m : Int) (by omega) (by omega)
  rw [Int.toNat_natCast] at hcut1 hcut2
  obtain ⟨A3, hA3⟩ : ∃ A3, A3 = (if c = m then A else A.map (·.add (m * 1))) := ⟨_, rfl⟩
  obtain ⟨n3, hn3⟩ : ∃ n3, n3 = ks.length - m := ⟨_, rfl⟩
  obtain ⟨c3, hc3⟩ : ∃ c3, c3 = c - m := ⟨_, rfl⟩
  rw [← hA3, ← hn3, ← hc3] at hcut2
  have h1 := Kd.C_take (k := kV w h) (m := at_) hr (by omega)
  have h3 := Kd.C_drop (k := kV w h) (m := m) hr (by omega) hc
  rw [show (kV w h).sz = 1 from rfl, ← hA3] at h3
  have l1 : (ks.take at_).length = at_ := by rw [List.length_take]; omega
  have l3 : (ks.drop m).length = n3 := by rw [List.length_drop]; omega
  have hb0 := (Below.refl w.heap.size w).alloc (Nat.le_refl _) (.cells #[.slice A ks.length c, .int .i64 b] 84)
  have hz := Aside0.mk ((blk_cell (blk_new w (.cells #[.slice A ks.length c, .int .i64 b] 84)) 0).trans rfl : (w.alloc (.cells #[.slice A ks.length c, .int .i64 b] 84)).cell? ⟨w.heap.size, 0, none⟩ = some (.slice A ks.length c))
  have HB := Aside0.mk (below_drew (hb0.alloc hb0.size (.cells #[.slice A at_ c, .slice A2 l.length c2, .slice A3 n3 c3] 79)))
  have hfl : ([ks.take at_, l, ks.drop m] : List (List (T h))).flatten = ks.take at_ ++ (l ++ ks.drop m) := by simp
  have HCc := Aside0.mk (concat_vtx w h (some ⟨w.heap.size + 1, 0, none⟩) 3 [ks.take at_, l, ks.drop m] (((w.alloc (.cells #[.slice A ks.length c, .int .i64 b] 84)).alloc (.cells #[.slice A at_ c, .slice A2 l.length c2, .slice A3 n3 c3] 79)).drew)
    (rows_lit (e := 79) [.slice A at_ c, .slice A2 l.length c2, .slice A3 n3 c3] _ (by simp) (by
      have := blk_new (w.alloc (.cells #[.slice A ks.length c, .int .i64 b] 84)) (.cells #[.slice A at_ c, .slice A2 l.length c2, .slice A3 n3 c3] 79)
      rw [World.size_alloc] at this
      exact blk_drew this) (fun j x hj => by
      have hj3 : j < 3 := (List.getElem?_eq_some_iff.1 hj).1
      have : j = 0 ∨ j = 1 ∨ j = 2 := by omega
      rcases this with rfl | rfl | rfl
      · cases hj; exact ⟨A, c, by rw [l1]; rfl, by omega, Kd.C_below h1 HB.out⟩
      · cases hj; exact ⟨A2, c2, rfl, hc2, Kd.C_below hr2 HB.out⟩
      · cases hj; exact ⟨A3, c3, by rw [l3]; rfl, by omega, Kd.C_below h3 HB.out⟩)) (by simp) (by simp) (by rw [hfl]; simp; omega))
  rw [hfl] at HCc
  replace HCc : Aside0 (Calls Try.prog 93 #[.slice (some ⟨w.heap.size + 1, 0, none⟩) 3 3] _ _) := HCc
  generalize ks.take at_ ++ (l ++ ks.drop m) = R at *
  clear hr hr2 h1 h3 l1 l3 hfl hi0 hsz hA3 hn3 hc3 hm hb0 
  generalize ks.length = n at *
  generalize l.length = n2 at *
  go_enter Try.func89, Try.ntmps89
  go_wp2
  go_region_held3 (fun W => W.cell? ⟨w.heap.size, 0, none⟩ = some (.slice A n c)) (first | exact hz.out | exact hz3.out | exact pw_cell_below (by repeat (first | (with_reducible exact Below.refl _ _) | apply below_alloc | apply below_drew)) hz.out) (first | (go_at_call 93; (with_reducible refine HCc.out.mono ?_); rintro e w3 ⟨v, rfl, ho, hb3⟩; have HB3 := Aside0.mk (HB.out.trans (hb3.mono HB.out.size)); have HO3 := Aside0.mk ho; have hz3 := Aside0.mk (pw_cell_below hb3 (pw_cell_below (by repeat (first | (with_reducible exact Below.refl _ _) | apply below_alloc | apply below_drew)) hz.out)); clear hb3 ho))
  go_wp2
  obtain ⟨A4, c4, rfl, h4, hC4⟩ := Kd.R_reads HO3.out
  go_ret
  exact ⟨_, _, rfl, h4, VRow.of hC4 HB3.out, HB3.out⟩
end Go.Proofs.Ytoiohlmiofplcaa.P
/-
  leaves, forks (chapter 10).
-/
namespace Go.Proofs.Ytoiohlmiofplcaa.P
open Go.RowKit Go.Shelf Go.Proofs.YtoiohlmiofplcaaW.PrintWords Go.Proofs.YtoiohlmiofplcaaW.PrintLast Go.Proofs.YtoiohlmiofplcaaW.PrintMore Go.Proofs.Plain

set_option maxHeartbeats 4000000 in
theorem leaves_calls (A : Option Addr) (c : Nat) (l : List S26) (w : World) (hr : Kd.C k26 w A l.length l) (hc : l.length ≤ c) :
    Calls Try.prog 80 #[.slice A l.length c] w fun e w' => ∃ A' c', e = .returned (.slice A' (halvesT l).length c') ∧ (halvesT l).length ≤ c' ∧ VRow w' 0 A' (halvesT l) ∧ Below w.heap.size w w' := by
  have hlen : (halvesT l).length ≤ 2 := by rw [halvesT_len]; split <;> omega
  have HC := Aside0.mk (halves_prs A c l w hr hc)
  generalize halvesT l = ls at *
  clear hr hc
  generalize l.length = n at *
  go_enter Try.func80, Try.ntmps80
  go_wp2_with (go_at_call 81; (with_reducible refine HC.out.mono ?_); rintro e w1 ⟨A1, c1, rfl, hc1, hr1, hb1⟩; have HB1 := Aside0.mk hb1; have HR1 := Aside0.mk hr1; clear hb1 hr1)
  obtain ⟨w2, hw2⟩ : ∃ w2, w2 = w1 := ⟨_, rfl⟩
  have HB2 := Aside0.mk (show Below w.heap.size w w2 by rw [hw2]; exact HB1.out)
  have HR2 := Aside0.mk (show Kd.C (Kd.slice 26 k26) w2 A1 ls.length ls by rw [hw2]; exact HR1.out)
  clear HB1 HR1
  go_loopw [3, 9] (fun s i wr => ∃ j : Nat, j ≤ ls.length ∧ i = .int .i64 j ∧ Aside0 (Kd.R (kV w2 0) 73 wr w2.heap.size (fun _ => True) s (List.take (α := T 0) j ls)) ∧ Aside0 (Below w2.heap.size w2 wr))
    (fun _ i _ => ls.length - (intOf i).toNat)
  case atStart => subst hw2; exact ⟨0, Nat.zero_le _, rfl, ⟨Kd.R_nil _ _ _ _ _⟩, ⟨Below.refl _ _⟩⟩
  case round =>
    clear hw2
    obtain ⟨j, hj, rfl, HO, HB⟩ := hrel
    by_cases hlt : j < ls.length
    · obtain ⟨ad, A0, c0, hA, hcell, hlc, hC⟩ := at_rows HR2.out j hlt
      have hcell2 := pw_cell_below HB.out hcell
      have hP := Aside0.mk (show (kV w2 0).M (wr) w2.heap.size (fun _ => False) (ls[j] : List S26) [.iface 71 (.slice A0 (ls[j] : List S26).length c0)] from ⟨_, rfl, A0, c0, rfl, hlc, hC⟩)
      have HS := Aside0.mk (List.take_succ_eq_append_getElem (α := T 0) hlt)
      clear hlc hC hcell
      generalize (ls[j] : List S26) = x at *
      subst hA
      obtain ⟨m, hm⟩ : ∃ m, m = List.length (α := S26) x := ⟨_, rfl⟩
      rw [← hm] at hcell2 hP
      clear hm
      have hlen2 : (List.take (α := T 0) j ls).length ≤ 2 := by rw [List.length_take]; omega
      go_wp2_with ((with_reducible refine gate_builtin (b := .append) (xs := #[.tmp 13, .tmp 16]) rfl ?_); at_builtin; refine Kd.R_append (kV w2 0) (w0 := w2) w2.heap.size rfl (.tmp 13) (.tmp 16) 79 73 (.nilIface) 16 rfl Try.underlying79 vtx_info rfl (show (0 : Nat) < 1 by decide) (by omega) _ (List.take (α := T 0) j ls) x [.iface 71 (.slice A0 m c0)] (fun _ => True) (fun _ => False) rfl rfl ?aP (fun _ hk => hk.elim) ?aF ?aO ?aB ?aS ?aL ?_; (case aP => exact hP.out); (case aB => exact HB.out); (case aF => exact (fun _ _ => trivial)); (case aO => exact HO.out); (case aS => exact HB.out.size); (case aL => omega); intro v1 w5 ho hb hg hat; have HO5 := Aside0.mk ho; have HB5 := Aside0.mk hb; clear ho hb hg hat)
      go_roundw
      case rel => exact ⟨j + 1, hlt, by go_num, by rw [HS.out]; exact HO5, HB5⟩
      case measure => simp [intOf]; omega
    · obtain rfl : j = ls.length := by omega
      rw [List.take_length] at HO
      obtain ⟨A3, c3, e3, h3, hC3⟩ := Kd.R_reads HO.out
      have HC3 := Aside0.mk hC3
      subst e3
      have HB3 := Aside0.mk (HB2.out.trans (HB.out.mono HB2.out.size))
      have HV := Aside0.mk (VRow.of hC3 HB.out)
      clear HO hC3 HC3 HB
      go_wp2
      go_ret
      exact ⟨_, _, rfl, h3, HV.out, HB3.out⟩
/-! ### forks -/
theorem sum_app (a b : List Nat) : (a ++ b).sum = a.sum + b.sum := List.sum_append
theorem all_take {h : Nat} (q : Nat) (x : List (T h)) : (List.map (α := T h) (allT h) (List.take (α := T h) q x)).sum ≤ (List.map (α := T h) (allT h) x).sum := by
  conv => rhs; rw [← List.take_append_drop q x, List.map_append, sum_app]
  omega
theorem all_drop {h : Nat} (q : Nat) (x : List (T h)) : (List.map (α := T h) (allT h) (List.drop (α := T h) q x)).sum ≤ (List.map (α := T h) (allT h) x).sum := by
  conv => rhs; rw [← List.take_append_drop q x, List.map_append, sum_app]
  omega
theorem halves_sum {h : Nat} (ks : List (T h)) : ∀ x ∈ halvesT ks, (List.map (α := T h) (allT h) x).sum ≤ (List.map (α := T h) (allT h) ks).sum := by
  intro x hx
  unfold halvesT at hx
  split at hx
  · rw [List.mem_singleton.1 hx]; exact Nat.le_refl _
  · simp only [List.mem_cons, List.not_mem_nil, or_false] at hx
    rcases hx with rfl | rfl
    · exact all_take _ _
    · exact all_drop _ _
theorem all_step {h : Nat} (x : List (T h)) (q : Nat) (hq : q < x.length) : (List.map (α := T h) (allT h) (List.take (α := T h) (q + 1) x)).sum = (List.map (α := T h) (allT h) (List.take (α := T h) q x)).sum + allT h x[q] := by
  rw [List.take_succ_eq_append_getElem hq, List.map_append, sum_app]
  simp
end Go.Proofs.Ytoiohlmiofplcaa.P
/-
  forks (chapter 10).
-/
namespace Go.Proofs.Ytoiohlmiofplcaa.P
open Go.RowKit Go.Shelf Go.Proofs.YtoiohlmiofplcaaW.PrintWords Go.Proofs.YtoiohlmiofplcaaW.PrintLast Go.Proofs.YtoiohlmiofplcaaW.PrintMore Go.Proofs.Plain

theorem fork_set {W : World} {g : Nat} {s : Value} {b : Int} (h : W.heap[g]? = some (.cells #[s, .int .i64 b] 84 (0, 0))) (n : Int) : (W.setCell ⟨g, 1, none⟩ (.int .i64 n)).heap[g]? = some (.cells #[s, .int .i64 n] 84 (0, 0)) := blk_set h 1 _
set_option maxHeartbeats 8000000 in
theorem forks_calls (h : Nat) (A : Option Addr) (c : Nat) (ks : List (T h)) (w : World) (hr : VRow w h A ks) (hc : ks.length ≤ c) (hA : allT (h + 1) ks ≤ 1000000000) :
    Calls Try.prog 51 #[.slice A ks.length c] w fun e w' => ∃ A' c', e = .returned (.slice A' (halvesT ks).length c') ∧ (halvesT ks).length ≤ c' ∧ VRow w' (h + 1) A' (halvesT ks) ∧ Below w.heap.size w w' := by
  have hlen : (halvesT ks).length ≤ 2 := by rw [halvesT_len]; split <;> omega
  have HC := Aside0.mk (halves_vtx w h A c ks w hr hc)
  have HSm := Aside0.mk (fun x hx => Nat.le_trans (halves_sum ks x hx) hA)
  generalize halvesT ks = ls at *
  clear hr hc hA
  generalize ks.length = n at *
  go_enter Try.func51, Try.ntmps51
  go_wp2_with (go_at_call 53; (with_reducible refine HC.out.mono ?_); rintro e w1 ⟨A1, c1, rfl, hc1, hr1, hb1⟩; have HB1 := Aside0.mk hb1; have HR1 := Aside0.mk hr1; clear hb1 hr1)
  obtain ⟨w2, hw2⟩ : ∃ w2, w2 = w1 := ⟨_, rfl⟩
  have HB2 := Aside0.mk (show Below w.heap.size w w2 by rw [hw2]; exact HB1.out)
  have HR2 := Aside0.mk (show Kd.C (Kd.slice 73 (kV w h)) w2 A1 ls.length ls by rw [hw2]; exact HR1.out)
  clear HB1 HR1
  go_loopw [3, 12] (fun s i wr => ∃ j : Nat, j ≤ ls.length ∧ i = .int .i64 j ∧ Aside0 (Kd.R (kV w2 (h + 1)) 73 wr w2.heap.size (fun _ => True) s (List.take (α := T (h + 1)) j ls)) ∧ Aside0 (Below w2.heap.size w2 wr))
    (fun _ i _ => ls.length - (intOf i).toNat)
  case atStart => subst hw2; exact ⟨0, Nat.zero_le _, rfl, ⟨Kd.R_nil _ _ _ _ _⟩, ⟨Below.refl _ _⟩⟩
  case round =>
    clear hw2
    obtain ⟨j, hj, rfl, HO, HB⟩ := hrel
    obtain ⟨w0, hw0⟩ : ∃ w0, w0 = wr := ⟨_, rfl⟩
    subst hw0
    by_cases hlt : j < ls.length
    · obtain ⟨ad, A0, c0, hA, hcell, hlc, hC⟩ := at_rows HR2.out j hlt
      have hcell2 := pw_cell_below HB.out hcell
      have hsm := HSm.out ls[j] (List.getElem_mem hlt)
      have hV := VRow.of hC HB2.out
      have hP := Aside0.mk (show (kV w2 (h + 1)).M w0 w2.heap.size (fun _ => False) (ls[j] : List (T h)) [.iface 84 (.agg #[.slice A0 (ls[j] : List (T h)).length c0, .int .i64 (allT (h + 1) (ls[j] : List (T h)) : Nat)])] from ⟨_, rfl, RepU.mk hlc hV⟩)
      have hlx : (ls[j] : List (T h)).length ≤ 9223372036854775807 := hC.2.1
      have HR3 := Aside0.mk hC
      have HS := Aside0.mk (List.take_succ_eq_append_getElem (α := T (h + 1)) hlt)
      clear hlc hC hcell hV
      generalize (ls[j] : List (T h)) = x at *
      subst hA
      have HBw := Aside0.mk (HB2.out.trans (HB.out.mono HB2.out.size))
      obtain ⟨m, hm⟩ : ∃ m, m = x.length := ⟨_, rfl⟩
      rw [← hm] at hcell2 hlx
      have HP := hP
      rw [← hm] at HP
      have HM := Aside0.mk hm
      clear hP hm
      have hall0 : allT (h + 1) x = (List.map (α := T h) (allT h) x).sum := rfl
      obtain ⟨g, hg⟩ : ∃ g, g = w0.heap.size := ⟨_, rfl⟩
      have HG := Aside0.mk (show ∀ o, Below g w0 (w0.alloc o) from fun o => by rw [hg]; exact (Below.refl w0.heap.size w0).alloc (Nat.le_refl _) o)
      go_wp2
      go_loopw [20] (fun i wr => ∃ q : Nat, q ≤ m ∧ i = .int .i64 q ∧ Aside0 (wr.heap[g]? = some (.cells #[.slice A0 m c0, .int .i64 ((List.map (α := T h) (allT h) (List.take (α := T h) q x)).sum : Nat)] 84 (0, 0))) ∧ Aside0 (Below g w0 wr))
        (fun i _ => m - (intOf i).toNat)
      case atStart =>
        refine ⟨0, Nat.zero_le _, rfl, ⟨?_⟩, ⟨HG.out _⟩⟩
        rw [hg]
        exact blk_new w0 (.cells #[.slice A0 m c0, .int .i64 0] 84)
      case round =>
        obtain ⟨q, hq, rfl, HGq, HBq⟩ := hrel
        by_cases hql : q < m
        · have hqx : q < x.length := by have := HM.out; omega
          obtain ⟨ad2, u, hA2, hx2, hU⟩ := VRow.at_ (VRow.of HR3.out HB2.out) hqx
          subst hA2
          have HBg := Aside0.mk (show Below w0.heap.size w0 wr by rw [← hg]; exact HBq.out)
          have hx3 := pw_cell_below HBg.out (pw_cell_below HB.out hx2)
          have hst := all_step x q hqx
          have hle := all_take (q + 1) x
          rw [hst] at hle
          have hle2 := Nat.le_trans hle hsm
          have HBq2 := Aside0.mk (HB.out.trans (HBq.out.mono (by rw [hg]; exact HB.out.size)))
          have HAll := Aside0.mk (fun W (hW : Below wr.heap.size wr W) => all_calls h x[q] u W (RepU.below ((HBq2.out).trans (hW.mono HBq2.out.size)) h _ _ hU))
          have HST := Aside0.mk hst
          obtain ⟨S0, hS0⟩ : ∃ S0, S0 = (List.map (α := T h) (allT h) (List.take (α := T h) q x)).sum := ⟨_, rfl⟩
          rw [← hS0] at HGq hle2 HST
          generalize allT h x[q] = y at *
          clear hU hx2 hle hst hS0
          have hw : IntKind.i64.wrap ((S0 : Int) + (y : Int)) = ((S0 + y : Nat) : Int) := by rw [i64_w]; unfold wrap64; omega
          have z1 := blk_cell HGq.out 1
          have f1 := blk_frozen HGq.out 1
          simp only [List.getElem?_toArray, List.getElem?_cons_zero, List.getElem?_cons_succ] at z1
          rw [hg] at z1 f1
          cases h with
          | zero =>
            replace hx3 : wr.cell? (ad2.add q) = some (.iface 71 u) := hx3
            replace HAll : Aside0 (∀ W, Below wr.heap.size wr W → Calls Try.prog 75 #[u] W fun e w' => e = .returned (.int .i64 (y : Nat)) ∧ Below W.heap.size W w') := HAll
            go_wp2
            go_region_with (first | (go_at_call 75; (with_reducible refine (HAll.out _ (below_drew (Below.refl _ _))).mono ?_); rintro e w3 ⟨rfl, hb3⟩; have hG3 := blk_below (blk_drew HGq.out) hb3; have z2 := blk_cell hG3 1; have f2 := blk_frozen hG3 1; simp only [List.getElem?_toArray, List.getElem?_cons_zero, List.getElem?_cons_succ] at z2; rw [hg] at z2 f2; have HB3 := Aside0.mk (below_step (below_drew (Below.refl _ _)) hb3); have HG3 := Aside0.mk hG3; clear hb3 hG3))
            all_goals (have HG4 := Aside0.mk (fork_set HG3.out ((S0 : Int) + (y : Int))); have HB4 := Aside0.mk (show Below g w0 (w3.setCell ⟨g, 1, none⟩ (.int .i64 ((S0 : Int) + (y : Int)))) from Below.setCell (HBq.out.trans (HB3.out.mono (hg ▸ HBg.out.size))) (Nat.le_refl _) _))
            all_goals rw [hg] at HG4 HB4
            all_goals go_wp2
            all_goals go_roundw
            case rel => exact ⟨q + 1, hql, by go_num, by rw [HST.out, hg, Int.natCast_add]; exact HG4, by rw [hg]; exact HB4⟩
            case measure => simp [intOf]; omega
            case rel => exact ⟨q + 1, hql, by go_num, by rw [HST.out, hg, Int.natCast_add]; exact HG4, by rw [hg]; exact HB4⟩
            case measure => simp [intOf]; omega
          | succ h =>
            replace hx3 : wr.cell? (ad2.add q) = some (.iface 84 u) := hx3
            replace HAll : Aside0 (∀ W, Below wr.heap.size wr W → Calls Try.prog 82 #[u] W fun e w' => e = .returned (.int .i64 (y : Nat)) ∧ Below W.heap.size W w') := HAll
            go_wp2
            go_region_with (first | (go_at_call 82; (with_reducible refine (HAll.out _ (below_drew (Below.refl _ _))).mono ?_); rintro e w3 ⟨rfl, hb3⟩; have hG3 := blk_below (blk_drew HGq.out) hb3; have z2 := blk_cell hG3 1; have f2 := blk_frozen hG3 1; simp only [List.getElem?_toArray, List.getElem?_cons_zero, List.getElem?_cons_succ] at z2; rw [hg] at z2 f2; have HB3 := Aside0.mk (below_step (below_drew (Below.refl _ _)) hb3); have HG3 := Aside0.mk hG3; clear hb3 hG3))
            all_goals (have HG4 := Aside0.mk (fork_set HG3.out ((S0 : Int) + (y : Int))); have HB4 := Aside0.mk (show Below g w0 (w3.setCell ⟨g, 1, none⟩ (.int .i64 ((S0 : Int) + (y : Int)))) from Below.setCell (HBq.out.trans (HB3.out.mono (hg ▸ HBg.out.size))) (Nat.le_refl _) _))
            all_goals rw [hg] at HG4 HB4
            all_goals go_wp2
            all_goals go_roundw
            case rel => exact ⟨q + 1, hql, by go_num, by rw [HST.out, hg, Int.natCast_add]; exact HG4, by rw [hg]; exact HB4⟩
            case measure => simp [intOf]; omega
            case rel => exact ⟨q + 1, hql, by go_num, by rw [HST.out, hg, Int.natCast_add]; exact HG4, by rw [hg]; exact HB4⟩
            case measure => simp [intOf]; omega
        · obtain rfl : q = m := by omega
          have HBg := Aside0.mk (show Below w0.heap.size w0 wr by rw [← hg]; exact HBq.out)
          have hGq := HGq.out
          rw [HM.out, List.take_length, ← hall0, ← HM.out] at hGq
          have HO1 := Aside0.mk (Kd.R_below HO.out HBg.out)
          have HB1 := Aside0.mk (HB.out.trans (HBg.out.mono HB.out.size))
          have HP1 := Aside0.mk (HP.out : (kV w2 (h + 1)).M wr w2.heap.size (fun _ => False) x [.iface 84 (.agg #[.slice A0 q c0, .int .i64 (allT (h + 1) x : Nat)])])
          generalize allT (h + 1) x = y at *
          have z0 := blk_cell hGq 0
          have z1 := blk_cell hGq 1
          simp only [List.getElem?_toArray, List.getElem?_cons_zero, List.getElem?_cons_succ] at z0 z1
          rw [hg] at z0 z1
          have hlen2 : (List.take (α := T (h + 1)) j ls).length ≤ 2 := by rw [List.length_take]; omega
          clear hGq HGq hq hql hall0 hsm HM
          go_wp2_with ((with_reducible refine gate_builtin (b := .append) (xs := #[.tmp 31, .tmp 34]) rfl ?_); at_builtin; refine Kd.R_append (kV w2 (h + 1)) (w0 := w2) w2.heap.size rfl (.tmp 31) (.tmp 34) 79 73 (.nilIface) 16 rfl Try.underlying79 vtx_info rfl (show (0 : Nat) < 1 by decide) (by omega) _ (List.take (α := T (h + 1)) j ls) x [.iface 84 (.agg #[.slice A0 q c0, .int .i64 (y : Nat)])] (fun _ => True) (fun _ => False) rfl rfl ?aP (fun _ hk => hk.elim) ?aF ?aO ?aB ?aS ?aL ?_; (case aP => exact HP1.out); (case aB => exact HB1.out); (case aF => exact (fun _ _ => trivial)); (case aO => exact HO1.out); (case aS => exact HB1.out.size); (case aL => omega); intro v1 w5 ho hb hg hat; have HO5 := Aside0.mk ho; have HB5 := Aside0.mk hb; clear ho hb hg hat)
          go_roundw
          case rel => exact ⟨j + 1, hlt, by go_num, by rw [HS.out]; exact HO5, HB5⟩
          case measure => simp [intOf]; omega
    · obtain rfl : j = ls.length := by omega
      rw [List.take_length] at HO
      obtain ⟨A3, c3, e3, h3, hC3⟩ := Kd.R_reads HO.out
      have HC3 := Aside0.mk hC3
      subst e3
      have HB3 := Aside0.mk (HB2.out.trans (HB.out.mono HB2.out.size))
      have HV := Aside0.mk (VRow.of hC3 HB.out)
      clear HO hC3 HC3 HB
      go_wp2
      go_ret
      exact ⟨_, _, rfl, h3, HV.out, HB3.out⟩
end Go.Proofs.Ytoiohlmiofplcaa.P
/-
  put (chapter 10).
-/
namespace Go.Proofs.Ytoiohlmiofplcaa.P
open Go.RowKit Go.Shelf Go.Proofs.YtoiohlmiofplcaaW.PrintWords Go.Proofs.YtoiohlmiofplcaaW.PrintLast Go.Proofs.YtoiohlmiofplcaaW.PrintMore Go.Proofs.Plain

/-- A vertex that may be put into. -/
def PutOk (h : Nat) (t : T h) : Prop := ND.Part h t ∧ (h = 0 ∨ 1 ≤ sizeT h t) ∧ sizeT h t ≤ 4 ∧ ND.Ris (ND.flatT h t) ∧ (ND.flatT h t).length ≤ 100000
def fnPut : Nat → Nat
  | 0 => 79
  | _ + 1 => 86
theorem cells6 {w W : World} (hb : Below w.heap.size w W) {a1 a2 a3 a4 a5 a6 : Addr} {v1 v2 v3 v4 v5 v6 : Value} (h : w.cell? a1 = some v1 ∧ w.cell? a2 = some v2 ∧ w.cell? a3 = some v3 ∧ w.cell? a4 = some v4 ∧ w.cell? a5 = some v5 ∧ w.cell? a6 = some v6) :
    W.cell? a1 = some v1 ∧ W.cell? a2 = some v2 ∧ W.cell? a3 = some v3 ∧ W.cell? a4 = some v4 ∧ W.cell? a5 = some v5 ∧ W.cell? a6 = some v6 :=
  ⟨pw_cell_below hb h.1, pw_cell_below hb h.2.1, pw_cell_below hb h.2.2.1, pw_cell_below hb h.2.2.2.1, pw_cell_below hb h.2.2.2.2.1, pw_cell_below hb h.2.2.2.2.2⟩

set_option maxHeartbeats 4000000 in
theorem leaf_put_calls (A : Option Addr) (c : Nat) (l : List S26) (p : S26) (w : World) (hr : Kd.C k26 w A l.length l) (hc : l.length ≤ c) (hl : l.length ≤ 100000) :
    Calls Try.prog 79 #[.slice A l.length c, encPair p] w fun e w' => ∃ A' c', e = .returned (.slice A' (halvesT (ND.putL l p)).length c') ∧ (halvesT (ND.putL l p)).length ≤ c' ∧ VRow w' 0 A' (halvesT (ND.putL l p)) ∧ Below w.heap.size w w' := by
  have hb0 := (Below.refl w.heap.size w).alloc (Nat.le_refl _) (.cells #[.string p.f0.f0, .int .i64 p.f0.f1, .string p.f1] 26)
  have HB := Aside0.mk hb0
  have HC := Aside0.mk (node_Put.calls 4 (fun k_ => k_ < w.heap.size) A c l p.f0.f0 p.f0.f1 p.f1 (ND.putL l p) (w.alloc (.cells #[.string p.f0.f0, .int .i64 p.f0.f1, .string p.f1] 26)) (Kd.V_mk hc (Kd.F_below (Kd.C_F k26_heap hr) hb0)) (ND.putL_f l p hl 4 (by omega)))
  generalize ND.putL l p = q at *
  clear hr hc hl hb0
  generalize l.length = n at *
  unfold encPair
  go_enter Try.func79, Try.ntmps79
  go_wp2_with (first | (go_at_call 17; (with_reducible refine HC.out.mono ?_); rintro e w3 ⟨v, rfl, ho, hb3⟩; have HB3 := Aside0.mk (HB.out.trans (hb3.mono HB.out.size)); obtain ⟨A3, c3, rfl, h3, hC3⟩ := Kd.R_reads ho; have HL := Aside0.mk (leaves_calls A3 c3 q w3 hC3 h3); clear hb3 ho hC3 h3) | (go_at_call 80; (with_reducible refine HL.out.mono ?_); rintro e w4 ⟨A4, c4, rfl, h4, hV4, hb4⟩; have HB4 := Aside0.mk (HB3.out.trans (hb4.mono HB3.out.size)); have HV4 := Aside0.mk hV4; clear hb4 hV4))
  go_ret
  exact ⟨_, _, rfl, h4, HV4.out, HB4.out⟩
theorem put_parts {h : Nat} {ks : List (T h)} {p : S26} (ho : PutOk (h + 1) ks) : ∃ (at_ : Nat) (hlt : at_ < ks.length), ND.belowT h ks p.f0 = at_ ∧ PutOk h ks[at_] ∧ ND.putT (h + 1) ks p = halvesT (α := T h) (ks.take at_ ++ (ND.putT h ks[at_] p ++ ks.drop (at_ + 1))) ∧ allT (h + 1) (ks.take at_ ++ (ND.putT h ks[at_] p ++ ks.drop (at_ + 1)) : List (T h)) ≤ 1000000000 ∧ (ND.putT h ks[at_] p).length ≤ 2 ∧ (∀ v ∈ ks, NE h v) := by
  obtain ⟨hp, hs, h4, hr, hl⟩ := ho
  have hs1 : 1 ≤ sizeT (h + 1) ks := hs.resolve_left (by omega)
  have hne := (ND.ne_of hp hs1).2
  obtain ⟨P, v, R, e, hb, hP, hR⟩ := ND.below_parts (k := p.f0) (ks := ks) (by rintro rfl; cases hs1) hne hr
  have hpa := ND.put_at (p := p) e hb
  have hfl := ND.put_flat (p := p) hp hs hr hl
  have hln := ND.putL_len (ND.flatT (h + 1) ks) p hl
  rw [hpa, ND.flat_hv] at hfl
  have hlt : P.length < ks.length := by rw [e]; simp
  have hat : ks[P.length] = v := by simp only [e]; simp
  have hv := hp v (by rw [e]; simp)
  have hrv : ND.Ris (ND.flatT h v) ∧ (ND.flatT h v).length ≤ 100000 := by
    rw [e, ND.flat_append, ND.flat_cons] at hr
    rw [e, ND.len_flat] at hl
    exact ⟨(ND.ris_app (ND.ris_app hr).2.1).1, by omega⟩
  have hok : PutOk h v := ⟨hv.1, .inr (by omega), hv.2.2, hrv⟩
  have htk : ks.take P.length = P := by rw [e]; simp
  have hdr : ks.drop (P.length + 1) = R := by rw [e]; simp
  refine ⟨P.length, hlt, hb, by rw [hat]; exact hok, ?_, ?_, ?_, hne⟩
  · rw [hat, htk, hdr, hpa]; rfl
  · rw [hat, htk, hdr, ND.all_flat, hfl]; omega
  · rw [hat]
    rcases ND.put_all (p := p) hok.1 hok.2.1 hok.2.2.1 hok.2.2.2.1 hok.2.2.2.2 with ⟨x, h1, _⟩ | ⟨x, y, h1, _⟩ <;> rw [h1] <;> simp
set_option maxHeartbeats 8000000 in
theorem put_calls : ∀ (h : Nat) (t : T h) (u : Value) (p : S26) (w : World), PutOk h t → RepU w h t u →
    Calls Try.prog (fnPut h) #[u, encPair p] w fun e w' => ∃ A' c', e = .returned (.slice A' (ND.putT h t p).length c') ∧ (ND.putT h t p).length ≤ c' ∧ VRow w' h A' (ND.putT h t p) ∧ Below w.heap.size w w'
  | 0, l, u, p, w, ho, hr => by
    obtain ⟨A, c, rfl, hc, hC⟩ := RepU.leaf hr
    exact leaf_put_calls A c l p w hC hc ho.2.2.2.2
  | h + 1, ks, u0, p, w, ho, hr => by
    obtain ⟨A, c, rfl, hc, hC⟩ := RepU.fork hr
    show Calls Try.prog 86 _ w _
    obtain ⟨at_, hlt, hat, hok, hput, hall, hq2, hne⟩ := put_parts (p := p) ho
    rw [hput]
    obtain ⟨ad, u, rfl, hx, hU⟩ := VRow.at_ hC hlt
    have HIH := Aside0.mk (fun W (hW : Below w.heap.size w W) => put_calls h ks[at_] u p W hok (RepU.below hW h _ _ hU))
    generalize ND.putT h ks[at_] p = q at *
    have h4 : ks.length ≤ 4 := ho.2.2.1
    have hb0 := (Below.refl w.heap.size w).alloc (Nat.le_refl _) (.cells #[.slice (some ad) ks.length c, .int .i64 (allT (h + 1) ks : Nat)] 84)
    have HB := Aside0.mk (hb0.alloc hb0.size (.cells #[.string p.f0.f0, .int .i64 p.f0.f1, .string p.f1] 26))
    have HBl := Aside0.mk (below_calls h (some ad) c ks (allT (h + 1) ks : Nat) p.f0 _ (VRow.below hC HB.out) hc hne)
    rw [hat] at HBl
    have HW := Aside0.mk (fun W A2 c2 (hW : Below w.heap.size w W) h2 hc2 => with_calls h (some ad) c ks (allT (h + 1) ks : Nat) at_ 1 A2 c2 q W (VRow.below hC hW) hc h2 hc2 (by omega) (by omega) (by omega))
    rw [show ((1 : Nat) : Int) = 1 from rfl] at HW
    have HF := Aside0.mk (fun W A2 c2 h2 hc2 => forks_calls h A2 c2 _ W h2 hc2 hall)
    have HS := Aside0.mk (show (((w.alloc (.cells #[.slice (some ad) ks.length c, .int .i64 (allT (h + 1) ks : Nat)] 84)).alloc (.cells #[.string p.f0.f0, .int .i64 p.f0.f1, .string p.f1] 26)).cell? ⟨w.heap.size, 0, none⟩ = some (.slice (some ad) ks.length c) ∧ ((w.alloc (.cells #[.slice (some ad) ks.length c, .int .i64 (allT (h + 1) ks : Nat)] 84)).alloc (.cells #[.string p.f0.f0, .int .i64 p.f0.f1, .string p.f1] 26)).cell? ⟨w.heap.size, 1, none⟩ = some (.int .i64 (allT (h + 1) ks : Nat)) ∧ _ ∧ _ ∧ _ ∧ _) from by
      have g0 := blk_below (blk_new w (.cells #[.slice (some ad) ks.length c, .int .i64 (allT (h + 1) ks : Nat)] 84)) ((Below.refl _ _).alloc (Nat.le_refl _) (.cells #[.string p.f0.f0, .int .i64 p.f0.f1, .string p.f1] 26))
      have g1 := blk_new (w.alloc (.cells #[.slice (some ad) ks.length c, .int .i64 (allT (h + 1) ks : Nat)] 84)) (.cells #[.string p.f0.f0, .int .i64 p.f0.f1, .string p.f1] 26)
      rw [World.size_alloc] at g1
      exact ⟨blk_cell g0 0, blk_cell g0 1, blk_cell g1 0, blk_cell g1 1, blk_cell g1 2, pw_cell_below HB.out hx⟩)
    have hn1 : (0 : Int) ≤ (at_ : Int) := by omega
    have hn2 : (at_ : Int) < ((ks.length : Nat) : Int) := by omega
    generalize ks.take at_ ++ (q ++ ks.drop (at_ + 1)) = X at *
    generalize ((allT (h + 1) ks : Nat) : Int) = m at *
    unfold encPair at HIH ⊢
    obtain ⟨⟨p0, p1⟩, p2⟩ := p
    simp only at HIH HB HBl HS ⊢
    clear hr ho hok hput hall hq2 hne hU hat hb0 hC hlt h4
    generalize ks.length = n at *
    cases h with
    | zero =>
      replace HIH : Aside0 (∀ W, Below w.heap.size w W → Calls Try.prog 79 #[u, .agg #[.string p0, .int .i64 p1, .string p2]] W fun e w' => ∃ A' c', e = .returned (.slice A' q.length c') ∧ q.length ≤ c' ∧ VRow w' _ A' q ∧ Below W.heap.size W w') := HIH
      replace hx : w.cell? (ad.add at_) = some (.iface 71 u) := hx
      go_enter Try.func86, Try.ntmps86
      go_wp2_with (first | (go_at_call 88; (with_reducible refine HBl.out.mono ?_); rintro e w3 ⟨rfl, hb3⟩; have HB3 := Aside0.mk (HB.out.trans (hb3.mono HB.out.size)); have HS3 := Aside0.mk (cells6 hb3 HS.out); clear hb3))
      go_region_held3 (fun W => W.cell? ⟨w.heap.size, 0, none⟩ = some (.slice (some ad) n c) ∧ W.cell? ⟨w.heap.size, 1, none⟩ = some (.int .i64 m) ∧ W.cell? ⟨w.heap.size + 1, 0, none⟩ = some (.string p0) ∧ W.cell? ⟨w.heap.size + 1, 1, none⟩ = some (.int .i64 p1) ∧ W.cell? ⟨w.heap.size + 1, 2, none⟩ = some (.string p2) ∧ W.cell? (ad.add at_) = some (.iface 71 u)) (first | exact HS6.out | exact HS5.out | exact HS4.out | exact cells6 (below_drew (Below.refl _ _)) HS3.out) (first | (go_at_call 79; (with_reducible refine (HIH.out _ (below_drew HB3.out)).mono ?_); rintro e w4 ⟨A4, c4, rfl, h4, hV4, hb4⟩; have hb4' := below_step (below_drew (Below.refl _ _)) hb4; have HB4 := Aside0.mk (HB3.out.trans (hb4'.mono HB3.out.size)); have HS4 := Aside0.mk (cells6 hb4' HS3.out); have HV4 := Aside0.mk hV4; clear hb4 hb4' hV4) | (go_at_call 89; (with_reducible refine (HW.out _ A4 c4 HB4.out HV4.out h4).mono ?_); rintro e w5 ⟨A5, c5, rfl, h5, hV5, hb5⟩; have HB5 := Aside0.mk (HB4.out.trans (hb5.mono HB4.out.size)); have HS5 := Aside0.mk (cells6 hb5 HS4.out); have HV5 := Aside0.mk hV5; clear hb5 hV5) | (go_at_call 51; (with_reducible refine (HF.out _ A5 c5 HV5.out h5).mono ?_); rintro e w6 ⟨A6, c6, rfl, h6, hV6, hb6⟩; have HB6 := Aside0.mk (HB5.out.trans (hb6.mono HB5.out.size)); have HS6 := Aside0.mk (cells6 hb6 HS5.out); have HV6 := Aside0.mk hV6; clear hb6 hV6))
      go_wp2
      go_ret
      exact ⟨_, _, rfl, h6, HV6.out, HB6.out⟩
    | succ h =>
      replace HIH : Aside0 (∀ W, Below w.heap.size w W → Calls Try.prog 86 #[u, .agg #[.string p0, .int .i64 p1, .string p2]] W fun e w' => ∃ A' c', e = .returned (.slice A' q.length c') ∧ q.length ≤ c' ∧ VRow w' _ A' q ∧ Below W.heap.size W w') := HIH
      replace hx : w.cell? (ad.add at_) = some (.iface 84 u) := hx
      go_enter Try.func86, Try.ntmps86
      go_wp2_with (first | (go_at_call 88; (with_reducible refine HBl.out.mono ?_); rintro e w3 ⟨rfl, hb3⟩; have HB3 := Aside0.mk (HB.out.trans (hb3.mono HB.out.size)); have HS3 := Aside0.mk (cells6 hb3 HS.out); clear hb3))
      go_region_held3 (fun W => W.cell? ⟨w.heap.size, 0, none⟩ = some (.slice (some ad) n c) ∧ W.cell? ⟨w.heap.size, 1, none⟩ = some (.int .i64 m) ∧ W.cell? ⟨w.heap.size + 1, 0, none⟩ = some (.string p0) ∧ W.cell? ⟨w.heap.size + 1, 1, none⟩ = some (.int .i64 p1) ∧ W.cell? ⟨w.heap.size + 1, 2, none⟩ = some (.string p2) ∧ W.cell? (ad.add at_) = some (.iface 84 u)) (first | exact HS6.out | exact HS5.out | exact HS4.out | exact cells6 (below_drew (Below.refl _ _)) HS3.out) (first | (go_at_call 86; (with_reducible refine (HIH.out _ (below_drew HB3.out)).mono ?_); rintro e w4 ⟨A4, c4, rfl, h4, hV4, hb4⟩; have hb4' := below_step (below_drew (Below.refl _ _)) hb4; have HB4 := Aside0.mk (HB3.out.trans (hb4'.mono HB3.out.size)); have HS4 := Aside0.mk (cells6 hb4' HS3.out); have HV4 := Aside0.mk hV4; clear hb4 hb4' hV4) | (go_at_call 89; (with_reducible refine (HW.out _ A4 c4 HB4.out HV4.out h4).mono ?_); rintro e w5 ⟨A5, c5, rfl, h5, hV5, hb5⟩; have HB5 := Aside0.mk (HB4.out.trans (hb5.mono HB4.out.size)); have HS5 := Aside0.mk (cells6 hb5 HS4.out); have HV5 := Aside0.mk hV5; clear hb5 hV5) | (go_at_call 51; (with_reducible refine (HF.out _ A5 c5 HV5.out h5).mono ?_); rintro e w6 ⟨A6, c6, rfl, h6, hV6, hb6⟩; have HB6 := Aside0.mk (HB5.out.trans (hb6.mono HB5.out.size)); have HS6 := Aside0.mk (cells6 hb6 HS5.out); have HV6 := Aside0.mk hV6; clear hb6 hV6))
      go_wp2
      go_ret
      exact ⟨_, _, rfl, h6, HV6.out, HB6.out⟩
end Go.Proofs.Ytoiohlmiofplcaa.P
/-
  from of a fork (chapter 10).
-/
namespace Go.Proofs.Ytoiohlmiofplcaa.P
open Go.RowKit Go.Shelf Go.Proofs.YtoiohlmiofplcaaW.PrintWords Go.Proofs.YtoiohlmiofplcaaW.PrintLast Go.Proofs.YtoiohlmiofplcaaW.PrintMore Go.Proofs.Plain

def fnFrom : Nat → Nat
  | 0 => 78
  | _ + 1 => 85
/-- The rounds over the kids. -/
def foldT (h : Nat) (k : S24) (n : Nat) (out : List S26) (R : List (T h)) : List S26 := List.foldl (β := T h) (fun out v => if n ≤ out.length then out else ND.fromT h v k out n) out R
theorem fold_stop {h : Nat} {k : S24} {n : Nat} : ∀ {R : List (T h)} {out : List S26}, n ≤ out.length → foldT h k n out R = out
  | [], _, _ => rfl
  | x :: R, out, hn => by
    show foldT h k n (if n ≤ out.length then out else ND.fromT h x k out n) R = out
    rw [if_pos hn]
    exact fold_stop hn
theorem fold_app {h : Nat} {k : S24} {n : Nat} {out : List S26} {R R' : List (T h)} : foldT h k n out (R ++ R') = foldT h k n (foldT h k n out R) R' := List.foldl_append
theorem fold_len {h : Nat} {k : S24} {n : Nat} (ih : ∀ (v : T h) (out : List S26), (ND.fromT h v k out n).length ≤ out.length + (ND.flatT h v).length) : ∀ (R : List (T h)) (out : List S26), (foldT h k n out R).length ≤ out.length + (ND.flatT (h + 1) R).length
  | [], out => Nat.le_add_right _ _
  | x :: R, out => by
    show (foldT h k n (if n ≤ out.length then out else ND.fromT h x k out n) R).length ≤ _
    rw [ND.flat_cons, List.length_append]
    have h1 := fold_len ih R (if n ≤ out.length then out else ND.fromT h x k out n)
    split at h1
    · rw [if_pos (by assumption)]; omega
    · have h2 := ih x out
      rw [if_neg (by assumption)]; omega
theorem from_len : ∀ (h : Nat) (t : T h) (k : S24) (out : List S26) (n : Nat), (ND.fromT h t k out n).length ≤ out.length + (ND.flatT h t).length
  | 0, l, k, out, n => by
    show (out ++ ((List.dropWhile (α := S26) (fun x => ND.lt x.f0 k) l).take (n - out.length))).length ≤ _
    rw [List.length_append, List.length_take]
    have : (List.dropWhile (α := S26) (fun x => ND.lt x.f0 k) l).length ≤ List.length (α := S26) l := (List.dropWhile_sublist _).length_le
    have e : (ND.flatT 0 l).length = List.length (α := S26) l := rfl
    omega
  | h + 1, ks, k, out, n => by
    have := fold_len (k := k) (n := n) (fun v out => from_len h v k out n) (ks.drop (ND.belowT h ks k)) out
    have h2 : (ND.flatT (h + 1) (ks.drop (ND.belowT h ks k) : List (T h))).length ≤ (ND.flatT (h + 1) ks).length := by
      conv => rhs; rw [← List.take_append_drop (ND.belowT h ks k) ks, ND.flat_append]
      rw [List.length_append]; omega
    exact Nat.le_trans this (by omega)
theorem below_lt {h : Nat} {ks : List (T h)} {k : S24} : ND.belowT h ks k ≤ ks.length := by
  unfold ND.belowT
  have : (ks.takeWhile (fun v => !ND.lt k (firstT h v))).length ≤ ks.length := (List.takeWhile_sublist _).length_le
  omega
theorem cells4 {w W : World} (hb : Below w.heap.size w W) {a1 a2 a3 a4 : Addr} {v1 v2 v3 v4 : Value} (h : w.cell? a1 = some v1 ∧ w.cell? a2 = some v2 ∧ w.cell? a3 = some v3 ∧ w.cell? a4 = some v4) :
    W.cell? a1 = some v1 ∧ W.cell? a2 = some v2 ∧ W.cell? a3 = some v3 ∧ W.cell? a4 = some v4 :=
  ⟨pw_cell_below hb h.1, pw_cell_below hb h.2.1, pw_cell_below hb h.2.2.1, pw_cell_below hb h.2.2.2⟩
theorem OwnAt.weaken {w w3 : World} {v s : Value} (h : OwnAt w3 v s) (hs : w.heap.size ≤ w3.heap.size) : OwnAt w v s := by
  rcases h with e | ⟨b, e, hb⟩
  · exact .inl e
  · exact .inr ⟨b, e, by omega⟩
/-- What from tells of a function. -/
def FromSays (f : Nat) (h : Nat) (x : T h) (k : S24) (n : Nat) (B : Nat) (w0 : World) (u : Value) : Prop :=
  ∀ (w : World) (v : Value) (out : List S26), Below B w0 w → B ≤ w.heap.size → Kd.R k26 26 w B (fun _ => True) v out → out.length + (ND.flatT h x).length ≤ 1000000 →
    Calls Try.prog f #[u, .agg #[.string k.f0, .int .i64 k.f1], v, .int .i64 (n : Nat)] w fun e w' => ∃ v', e = .returned v' ∧ Kd.R k26 26 w' B (fun _ => True) v' (ND.fromT h x k out n) ∧ Below B w w' ∧ Keeps v w w' ∧ OwnAt w v v'

set_option maxHeartbeats 8000000 in
set_option maxRecDepth 100000 in
theorem fork_from_calls (h : Nat) (A : Option Addr) (c : Nat) (ks : List (T h)) (m : Int) (k : S24) (n : Nat) (w0 : World) (B : Nat) (hne : ∀ v ∈ ks, NE h v) (hr : VRow w0 h A ks) (hc : ks.length ≤ c) (hle : w0.heap.size ≤ B) (hn : n ≤ 1000000000)
    (ih : ∀ x ∈ ks, ∀ u, RepU w0 h x u → FromSays (fnFrom h) h x k n B w0 u) : FromSays 85 (h + 1) ks k n B w0 (.agg #[.slice A ks.length c, .int .i64 m]) := by
  intro w v out hB hBs HO hl
  have hbl := Aside0.mk (hB.mono hle)
  obtain ⟨at_, hat⟩ : ∃ a, a = ND.belowT h ks k := ⟨_, rfl⟩
  have hatl : at_ ≤ ks.length := by rw [hat]; exact below_lt
  have hfr : ND.fromT (h + 1) ks k out n = foldT h k n out (ks.drop at_) := by rw [hat]; rfl
  rw [hfr]
  have hb0 := (Below.refl w.heap.size w).alloc (Nat.le_refl _) (.cells #[.slice A ks.length c, .int .i64 m] 84)
  have HB1 := Aside0.mk (hb0.alloc hb0.size (.cells #[.string k.f0, .int .i64 k.f1] 24))
  obtain ⟨w1, hw1⟩ : ∃ w1, w1 = (w.alloc (.cells #[.slice A ks.length c, .int .i64 m] 84)).alloc (.cells #[.string k.f0, .int .i64 k.f1] 24) := ⟨_, rfl⟩
  have g0 := blk_below (blk_new w (.cells #[.slice A ks.length c, .int .i64 m] 84)) ((Below.refl _ _).alloc (Nat.le_refl _) (.cells #[.string k.f0, .int .i64 k.f1] 24))
  have g1 := blk_new (w.alloc (.cells #[.slice A ks.length c, .int .i64 m] 84)) (.cells #[.string k.f0, .int .i64 k.f1] 24)
  rw [World.size_alloc] at g1
  have HS := Aside0.mk (show (w1.cell? ⟨w.heap.size, 0, none⟩ = some (.slice A ks.length c) ∧ w1.cell? ⟨w.heap.size, 1, none⟩ = some (.int .i64 m) ∧ w1.cell? ⟨w.heap.size + 1, 0, none⟩ = some (.string k.f0) ∧ w1.cell? ⟨w.heap.size + 1, 1, none⟩ = some (.int .i64 k.f1)) from by
    rw [hw1]
    exact ⟨blk_cell g0 0, blk_cell g0 1, blk_cell g1 0, blk_cell g1 1⟩)
  have HG1 := Aside0.mk (show w1.heap[w.heap.size + 1]? = some (.cells #[.string k.f0, .int .i64 k.f1] 24 (0, 0)) from by rw [hw1]; exact g1)
  rw [← hw1] at HB1
  have HBel := Aside0.mk (fun W (hW : Below w.heap.size w W) => below_calls h A c ks m k W (VRow.below (VRow.below hr hbl.out) hW) hc hne)
  rw [← hat] at HBel
  obtain ⟨i0, hi0, _, hsz, _⟩ := info_parts vtx_info
  have hcut := cut_from (P := Try.prog) 79 73 .i64 Try.underlying79 hi0 1 hsz A ks.length c (at_ : Int) (by omega) (by omega)
  rw [Int.toNat_natCast] at hcut
  obtain ⟨A3, hA3⟩ : ∃ A3, A3 = (if c = at_ then A else A.map (·.add (at_ * 1))) := ⟨_, rfl⟩
  obtain ⟨n3, hn3⟩ : ∃ n3, n3 = ks.length - at_ := ⟨_, rfl⟩
  obtain ⟨c3, hc3⟩ : ∃ c3, c3 = c - at_ := ⟨_, rfl⟩
  rw [← hA3, ← hn3, ← hc3] at hcut
  have h3 := Kd.C_drop (k := kV w0 h) (m := at_) hr (by omega) hc
  rw [show (kV w0 h).sz = 1 from rfl, ← hA3] at h3
  have hdl : (ks.drop at_).length = n3 := by rw [List.length_drop]; omega
  have hih : ∀ x ∈ ks.drop at_, ∀ u, RepU w0 h x u → FromSays (fnFrom h) h x k n B w0 u := fun x hx => ih x (List.mem_of_mem_drop hx)
  have hfl : out.length + (ND.flatT (h + 1) (ks.drop at_ : List (T h))).length ≤ 1000000 := by
    have : (ND.flatT (h + 1) ks).length = (ND.flatT (h + 1) (ks.take at_ : List (T h))).length + (ND.flatT (h + 1) (ks.drop at_ : List (T h))).length := by
      conv => lhs; rw [← List.take_append_drop at_ ks, ND.flat_append]
      rw [List.length_append]
    omega
  have HR3 := Aside0.mk (show VRow w0 h A3 (ks.drop at_) from h3)
  have hn1 : (0 : Int) ≤ (at_ : Int) := by omega
  have hn2 : (at_ : Int) ≤ ((ks.length : Nat) : Int) := by omega
  have HI := Aside0.mk hih
  have HL := Aside0.mk hfl
  have HDL := Aside0.mk hdl
  have HBw := Aside0.mk hB
  have HOv := Aside0.mk HO
  generalize ks.drop at_ = R at *
  have hn3m : n3 ≤ 9223372036854775807 := by rw [← hdl]; exact HR3.out.max
  clear hr ih hne hat hfr hb0 g0 g1 hi0 hsz hA3 hn3 hc3 h3 hdl hih hfl hB HO hl hatl
  generalize ks.length = nk at *
  obtain ⟨Ao, co, rfl⟩ := Kd.R_slice HOv.out
  generalize hno : out.length = no at *
  have HNO := Aside0.mk hno
  clear hno
  have hbs := Aside0.mk hBs
  go_enter Try.func85, Try.ntmps85
  go_wp2
  rw [← hw1]
  clear hw1
  go_region_held3 (fun W => W.cell? ⟨w.heap.size, 0, none⟩ = some (.slice A nk c) ∧ W.cell? ⟨w.heap.size, 1, none⟩ = some (.int .i64 m) ∧ W.cell? ⟨w.heap.size + 1, 0, none⟩ = some (.string k.f0) ∧ W.cell? ⟨w.heap.size + 1, 1, none⟩ = some (.int .i64 k.f1)) (first | exact HS3.out | exact cells4 (below_drew (Below.refl _ _)) HS.out) (first | (go_at_call 88; (with_reducible refine (HBel.out _ (below_drew HB1.out)).mono ?_); rintro e w3 ⟨rfl, hb3⟩; have hb3' := below_step (below_drew (Below.refl _ _)) hb3; have HB3 := Aside0.mk (HB1.out.trans (hb3'.mono HB1.out.size)); have HS3 := Aside0.mk (cells4 hb3' HS.out); have HG3 := Aside0.mk (blk_below HG1.out hb3'); clear hb3 hb3'))
  go_wp2
  go_loopw [2, 18] (fun s i wr => ∃ j : Nat, j ≤ n3 ∧ i = .int .i64 j ∧ Aside0 (Kd.R k26 26 wr B (fun _ => True) s (foldT h k n out (List.take (α := T h) j R))) ∧ Aside0 (Below B w wr) ∧ Aside0 (Keeps (.slice Ao no co) w3 wr) ∧ Aside0 (OwnAt w3 (.slice Ao no co) s))
    (fun _ i _ => n3 - (intOf i).toNat)
  case atStart => exact ⟨0, Nat.zero_le _, rfl, ⟨Kd.R_below HOv.out HB3.out⟩, ⟨HB3.out.mono hbs.out⟩, ⟨Keeps.below (Below.refl _ _)⟩, ⟨OwnAt.refl⟩⟩
  case round =>
    obtain ⟨j, hj, rfl, HO, HB, HK, HA⟩ := hrel
    by_cases hlt : j < n3
    · have hltR : j < R.length := by have := HDL.out; omega
      obtain ⟨ad, u, rfl, hx0, hU⟩ := VRow.at_ HR3.out hltR
      have hx := pw_cell_below (hbl.out.trans (HB.out.mono hle)) hx0
      have hown : some (w.heap.size + 1) ≠ (Value.slice Ao no co).ownBlock := fun e => by have := Kd.R_lt HOv.out _ e.symm; omega
      have hgk := HK.out.2 _ _ HG3.out hown
      have y0 := blk_cell hgk 0
      have y1 := blk_cell hgk 1
      simp only [List.getElem?_toArray, List.getElem?_cons_zero, List.getElem?_cons_succ] at y0 y1
      have HS := Aside0.mk (List.take_succ_eq_append_getElem (α := T h) hltR)
      have HIx := Aside0.mk (HI.out R[j] (List.getElem_mem hltR) u hU)
      have hlen := fold_len (h := h) (k := k) (n := n) (fun v out => from_len h v k out n) (List.take (α := T h) j R) out
      have hfl2 : (ND.flatT (h + 1) (List.take (α := T h) j R)).length + (ND.flatT h R[j]).length ≤ (ND.flatT (h + 1) R).length := by
        conv => rhs; rw [← List.take_append_drop (j + 1) R, ND.flat_append]
        rw [List.take_succ_eq_append_getElem hltR, ND.flat_append, ND.flat_cons, ND.flat_nil]
        simp only [List.length_append, List.length_nil]
        omega
      have HLc := Aside0.mk (show (foldT h k n out (List.take (α := T h) j R)).length + (ND.flatT h R[j]).length ≤ 1000000 by have := HL.out; have := HNO.out; omega)
      have hst : foldT h k n out (List.take (α := T h) (j + 1) R) = if n ≤ (foldT h k n out (List.take (α := T h) j R)).length then foldT h k n out (List.take (α := T h) j R) else ND.fromT h R[j] k (foldT h k n out (List.take (α := T h) j R)) n := by rw [HS.out, fold_app]; rfl
      have hall : n ≤ (foldT h k n out (List.take (α := T h) j R)).length → foldT h k n out R = foldT h k n out (List.take (α := T h) j R) := fun hn => by
        conv => lhs; rw [← List.take_append_drop j R, fold_app]
        exact fold_stop hn
      obtain ⟨As, cs, rfl⟩ := Kd.R_slice HO.out
      generalize foldT h k n out (List.take (α := T h) j R) = cur at *
      clear hx0 hU hown hgk hlen hfl2
      have HST := Aside0.mk hst
      have HAL := Aside0.mk hall
      clear hst hall
      generalize R[j] = x at *
      by_cases hbr : n ≤ cur.length
      · have hbr2 : (n : Int) ≤ (cur.length : Int) := by omega
        have HRes := Aside0.mk (HAL.out hbr)
        have HKw := Aside0.mk (Keeps.trans (Keeps.below HB3.out) (OwnAt.refl (v := .slice Ao no co)) HK.out)
        clear HST HAL
        cases h with
        | zero =>
          replace hx : wr.cell? (ad.add j) = some (.iface 71 u) := hx
          go_wp2
          go_ret
          exact ⟨_, rfl, by rw [HRes.out]; exact HO.out, HB.out, HKw.out, OwnAt.weaken HA.out HB3.out.size⟩
        | succ h =>
          replace hx : wr.cell? (ad.add j) = some (.iface 84 u) := hx
          go_wp2
          go_ret
          exact ⟨_, rfl, by rw [HRes.out]; exact HO.out, HB.out, HKw.out, OwnAt.weaken HA.out HB3.out.size⟩
      · have hbr2 : (cur.length : Int) < (n : Int) := by omega
        have HRes := Aside0.mk (HST.out.trans (if_neg hbr))
        clear HST HAL
        have HCl := Aside0.mk (HIx.out wr (.slice As cur.length cs) cur (HBw.out.trans HB.out) (Nat.le_trans hbs.out HB.out.size) HO.out HLc.out)
        clear hbr
        generalize hcl : cur.length = ncur at *
        clear hcl
        cases h with
        | zero =>
          replace hx : wr.cell? (ad.add j) = some (.iface 71 u) := hx
          replace HCl : Aside0 (Calls Try.prog 78 #[u, .agg #[.string k.f0, .int .i64 k.f1], .slice As ncur cs, .int .i64 (n : Nat)] wr fun e w' => ∃ v', e = .returned v' ∧ Kd.R k26 26 w' B (fun _ => True) v' (ND.fromT _ x k cur n) ∧ Below B wr w' ∧ Keeps (.slice As ncur cs) wr w' ∧ OwnAt wr (.slice As ncur cs) v') := HCl
          go_wp2_with (first | (go_at_call 78; (with_reducible refine HCl.out.mono ?_); rintro e w5 ⟨v5, rfl, ho5, hb5, hk5, ha5⟩; have HO5 := Aside0.mk ho5; have HB5 := Aside0.mk (HB.out.trans hb5); have HK5 := Aside0.mk (Keeps.trans HK.out HA.out hk5); have HA5 := Aside0.mk (OwnAt.trans HA.out HK.out.1 ha5); clear ho5 hb5 hk5 ha5))
          go_roundw
          case rel => exact ⟨j + 1, hlt, by go_num, by rw [HRes.out]; exact HO5, HB5, HK5, HA5⟩
          case measure => simp [intOf]; omega
        | succ h =>
          replace hx : wr.cell? (ad.add j) = some (.iface 84 u) := hx
          replace HCl : Aside0 (Calls Try.prog 85 #[u, .agg #[.string k.f0, .int .i64 k.f1], .slice As ncur cs, .int .i64 (n : Nat)] wr fun e w' => ∃ v', e = .returned v' ∧ Kd.R k26 26 w' B (fun _ => True) v' (ND.fromT _ x k cur n) ∧ Below B wr w' ∧ Keeps (.slice As ncur cs) wr w' ∧ OwnAt wr (.slice As ncur cs) v') := HCl
          go_wp2_with (first | (go_at_call 85; (with_reducible refine HCl.out.mono ?_); rintro e w5 ⟨v5, rfl, ho5, hb5, hk5, ha5⟩; have HO5 := Aside0.mk ho5; have HB5 := Aside0.mk (HB.out.trans hb5); have HK5 := Aside0.mk (Keeps.trans HK.out HA.out hk5); have HA5 := Aside0.mk (OwnAt.trans HA.out HK.out.1 ha5); clear ho5 hb5 hk5 ha5))
          go_roundw
          case rel => exact ⟨j + 1, hlt, by go_num, by rw [HRes.out]; exact HO5, HB5, HK5, HA5⟩
          case measure => simp [intOf]; omega
    · obtain rfl : j = n3 := by omega
      have HKw := Aside0.mk (Keeps.trans (Keeps.below HB3.out) (OwnAt.refl (v := .slice Ao no co)) HK.out)
      have HRes := Aside0.mk (show foldT h k n out (List.take (α := T h) j R) = foldT h k n out R by rw [List.take_of_length_le (by have := HDL.out; omega)])
      go_wp2
      go_ret
      exact ⟨_, rfl, by rw [← HRes.out]; exact HO.out, HB.out, HKw.out, OwnAt.weaken HA.out HB3.out.size⟩
theorem from_calls : ∀ (h : Nat) (t : T h) (u : Value) (k : S24) (n : Nat) (B : Nat) (w0 : World), (h = 0 ∨ NE h t) → RepU w0 h t u → w0.heap.size ≤ B → n ≤ 1000000000 → FromSays (fnFrom h) h t k n B w0 u
  | 0, l, u, k, n, B, w0, _, hr, hle, hn => by
    obtain ⟨A, c, rfl, hc, hC⟩ := RepU.leaf hr
    exact fun w v out hB hBs HO hl => leaf_from_calls A c l k v out n w0 w B hC hc hle hB hBs HO hl hn
  | h + 1, ks, u, k, n, B, w0, hne, hr, hle, hn => by
    obtain ⟨A, c, rfl, hc, hC⟩ := RepU.fork hr
    have hne := (hne.resolve_left (by omega)).2
    exact fork_from_calls h A c ks _ k n w0 B hne hC hc hle hn (fun x hx u hu => from_calls h x u k n B w0 (.inr (hne x hx)) hu hle hn)
end Go.Proofs.Ytoiohlmiofplcaa.P
/-
  joined (chapter 10): two neighbours as one, or levelled.
-/
namespace Go.Proofs.Ytoiohlmiofplcaa.P
open Go.RowKit Go.Shelf Go.Proofs.YtoiohlmiofplcaaW.PrintWords Go.Proofs.YtoiohlmiofplcaaW.PrintLast Go.Proofs.YtoiohlmiofplcaaW.PrintMore Go.Proofs.Plain

theorem as71_71 (v : Value) (w : World) : (Instr.typeAssert (.iface 71 v) 73 71 true).run Try.prog w = .ok (.tuple #[v, .bool true]) w := by kernel_rfl
theorem as84_71 (v : Value) (w : World) : (Instr.typeAssert (.iface 84 v) 73 71 true).run Try.prog w = .ok (.tuple #[.slice none 0 0, .bool false]) w := by kernel_rfl
theorem as71_84 (v : Value) (w : World) : (Instr.typeAssert (.iface 71 v) 73 84 true).run Try.prog w = .ok (.tuple #[.agg #[.slice none 0 0, .int .i64 0], .bool false]) w := by kernel_rfl
theorem as84_84 (v : Value) (w : World) : (Instr.typeAssert (.iface 84 v) 73 84 true).run Try.prog w = .ok (.tuple #[v, .bool true]) w := by kernel_rfl
attribute [local go_sem] as71_71 as84_71 as71_84 as84_84
theorem two_rows {α : Type} {d : Kd α} {ez e g : Nat} {W : World} {A1 A2 : Option Addr} {c1 c2 : Nat} {a b : List α} (hg : W.heap[g]? = some (.cells #[.slice A1 a.length c1, .slice A2 b.length c2] e (0, 0)))
    (h1 : d.C W A1 a.length a) (hc1 : a.length ≤ c1) (h2 : d.C W A2 b.length b) (hc2 : b.length ≤ c2) : Kd.C (Kd.slice ez d) W (some ⟨g, 0, none⟩) [a, b].length [a, b] :=
  rows_lit [.slice A1 a.length c1, .slice A2 b.length c2] _ (by simp) hg (fun j x hj => by
    have hj3 : j < 2 := (List.getElem?_eq_some_iff.1 hj).1
    have : j = 0 ∨ j = 1 := by omega
    rcases this with rfl | rfl
    · cases hj; exact ⟨A1, c1, rfl, hc1, h1⟩
    · cases hj; exact ⟨A2, c2, rfl, hc2, h2⟩)
set_option maxHeartbeats 4000000 in
set_option maxRecDepth 100000 in
theorem joined_leaf (A1 : Option Addr) (c1 : Nat) (a : List S26) (A2 : Option Addr) (c2 : Nat) (b : List S26) (w : World) (hr1 : Kd.C k26 w A1 a.length a) (hc1 : a.length ≤ c1) (hr2 : Kd.C k26 w A2 b.length b) (hc2 : b.length ≤ c2) (hl : a.length + b.length ≤ 1000000) :
    Calls Try.prog 90 #[.iface 71 (.slice A1 a.length c1), .iface 71 (.slice A2 b.length c2)] w fun e w' => ∃ A' c', e = .returned (.slice A' (halvesT (a ++ b)).length c') ∧ (halvesT (a ++ b)).length ≤ c' ∧ VRow w' 0 A' (halvesT (a ++ b)) ∧ Below w.heap.size w w' := by
  have hb := (Below.refl w.heap.size w).alloc (Nat.le_refl _) (.cells #[.slice A1 a.length c1, .slice A2 b.length c2] 71)
  have HB := Aside0.mk hb
  have hfl : ([a, b] : List (List S26)).flatten = a ++ b := by simp
  have HC := Aside0.mk (concat_prs (some ⟨w.heap.size, 0, none⟩) 2 [a, b] (w.alloc (.cells #[.slice A1 a.length c1, .slice A2 b.length c2] 71)) (two_rows (blk_new w _) (Kd.C_below hr1 hb) hc1 (Kd.C_below hr2 hb) hc2) (by simp) (by simp) (by rw [hfl]; simp; omega))
  rw [hfl] at HC
  replace HC : Aside0 (Calls Try.prog 94 #[.slice (some ⟨w.heap.size, 0, none⟩) 2 2] _ _) := HC
  generalize a ++ b = X at *
  clear hr1 hr2 hc1 hc2 hl hb hfl
  generalize a.length = n1 at *
  generalize b.length = n2 at *
  go_enter Try.func90, Try.ntmps90
  go_wp2_with (first | (go_at_call 94; (with_reducible refine HC.out.mono ?_); rintro e w3 ⟨v, rfl, ho, hb3⟩; have HB3 := Aside0.mk (HB.out.trans (hb3.mono HB.out.size)); obtain ⟨A3, c3, rfl, h3, hC3⟩ := Kd.R_reads ho; have HL := Aside0.mk (leaves_calls A3 c3 X w3 hC3 h3); clear hb3 ho hC3 h3) | (go_at_call 80; (with_reducible refine HL.out.mono ?_); rintro e w4 ⟨A4, c4, rfl, h4, hV4, hb4⟩; have HB4 := Aside0.mk (HB3.out.trans (hb4.mono HB3.out.size)); have HV4 := Aside0.mk hV4; clear hb4 hV4))
  go_ret
  exact ⟨_, _, rfl, h4, HV4.out, HB4.out⟩
set_option maxHeartbeats 4000000 in
set_option maxRecDepth 100000 in
theorem joined_fork (h : Nat) (A1 : Option Addr) (c1 : Nat) (a : List (T h)) (m1 : Int) (A2 : Option Addr) (c2 : Nat) (b : List (T h)) (m2 : Int) (w : World) (hr1 : VRow w h A1 a) (hc1 : a.length ≤ c1) (hr2 : VRow w h A2 b) (hc2 : b.length ≤ c2) (hl : a.length + b.length ≤ 1000000) (hA : allT (h + 1) (a ++ b : List (T h)) ≤ 1000000000) :
    Calls Try.prog 90 #[.iface 84 (.agg #[.slice A1 a.length c1, .int .i64 m1]), .iface 84 (.agg #[.slice A2 b.length c2, .int .i64 m2])] w fun e w' => ∃ A' c', e = .returned (.slice A' (halvesT (a ++ b)).length c') ∧ (halvesT (a ++ b)).length ≤ c' ∧ VRow w' (h + 1) A' (halvesT (a ++ b)) ∧ Below w.heap.size w w' := by
  have hb1 := (Below.refl w.heap.size w).alloc (Nat.le_refl _) (.cells #[.slice A1 a.length c1, .int .i64 m1] 84)
  have hb2 := hb1.alloc hb1.size (.cells #[.slice A2 b.length c2, .int .i64 m2] 84)
  have hb := hb2.alloc hb2.size (.cells #[.slice A1 a.length c1, .slice A2 b.length c2] 79)
  have HB := Aside0.mk hb
  have hfl : ([a, b] : List (List (T h))).flatten = a ++ b := by simp
  have hg : (((w.alloc (.cells #[.slice A1 a.length c1, .int .i64 m1] 84)).alloc (.cells #[.slice A2 b.length c2, .int .i64 m2] 84)).alloc (.cells #[.slice A1 a.length c1, .slice A2 b.length c2] 79)).heap[w.heap.size + 1 + 1]? = some (.cells #[.slice A1 a.length c1, .slice A2 b.length c2] 79 (0, 0)) := by
    have := blk_new ((w.alloc (.cells #[.slice A1 a.length c1, .int .i64 m1] 84)).alloc (.cells #[.slice A2 b.length c2, .int .i64 m2] 84)) (.cells #[.slice A1 a.length c1, .slice A2 b.length c2] 79)
    rwa [World.size_alloc, World.size_alloc] at this
  have HC := Aside0.mk (concat_vtx w h (some ⟨w.heap.size + 1 + 1, 0, none⟩) 2 [a, b] _ (two_rows hg (Kd.C_below hr1 hb) hc1 (Kd.C_below hr2 hb) hc2) (by simp) (by simp) (by rw [hfl]; simp; omega))
  rw [hfl] at HC
  replace HC : Aside0 (Calls Try.prog 93 #[.slice (some ⟨w.heap.size + 1 + 1, 0, none⟩) 2 2] _ _) := HC
  have HF := Aside0.mk (fun W A2 c2 h2 hc2 => forks_calls h A2 c2 (a ++ b) W h2 hc2 hA)
  generalize a ++ b = X at *
  clear hr1 hr2 hc1 hc2 hl hb hb1 hb2 hfl hA hg
  generalize a.length = n1 at *
  generalize b.length = n2 at *
  go_enter Try.func90, Try.ntmps90
  go_wp2_with (first | (go_at_call 93; (with_reducible refine HC.out.mono ?_); rintro e w3 ⟨v, rfl, ho, hb3⟩; have HB3 := Aside0.mk (HB.out.trans (hb3.mono HB.out.size)); obtain ⟨A3, c3, rfl, h3, hC3⟩ := Kd.R_reads ho; have HV3 := Aside0.mk (VRow.of hC3 HB3.out); clear hb3 ho hC3) | (go_at_call 51; (with_reducible refine (HF.out _ A3 c3 HV3.out h3).mono ?_); rintro e w4 ⟨A4, c4, rfl, h4, hV4, hb4⟩; have HB4 := Aside0.mk (HB3.out.trans (hb4.mono HB3.out.size)); have HV4 := Aside0.mk hV4; clear hb4 hV4))
  go_ret
  exact ⟨_, _, rfl, h4, HV4.out, HB4.out⟩
theorem joined_calls (h : Nat) (a b : T h) (u1 u2 : Value) (w : World) (h1 : RepU w h a u1) (h2 : RepU w h b u2) (hl : sizeT h a + sizeT h b ≤ 1000000) (hA : allT h (ND.appT h a b) ≤ 1000000000) :
    Calls Try.prog 90 #[.iface (ty h) u1, .iface (ty h) u2] w fun e w' => ∃ A' c', e = .returned (.slice A' (ND.hvT h (ND.appT h a b)).length c') ∧ (ND.hvT h (ND.appT h a b)).length ≤ c' ∧ VRow w' h A' (ND.hvT h (ND.appT h a b)) ∧ Below w.heap.size w w' := by
  cases h with
  | zero =>
    obtain ⟨A1, c1, rfl, hc1, hC1⟩ := RepU.leaf h1
    obtain ⟨A2, c2, rfl, hc2, hC2⟩ := RepU.leaf h2
    exact joined_leaf A1 c1 a A2 c2 b w hC1 hc1 hC2 hc2 hl
  | succ h =>
    obtain ⟨A1, c1, rfl, hc1, hC1⟩ := RepU.fork h1
    obtain ⟨A2, c2, rfl, hc2, hC2⟩ := RepU.fork h2
    exact joined_fork h A1 c1 a _ A2 c2 b _ w hC1 hc1 hC2 hc2 hl hA
end Go.Proofs.Ytoiohlmiofplcaa.P
/-
  drop (chapter 10).
-/
namespace Go.Proofs.Ytoiohlmiofplcaa.P
open Go.RowKit Go.Shelf Go.Proofs.YtoiohlmiofplcaaW.PrintWords Go.Proofs.YtoiohlmiofplcaaW.PrintLast Go.Proofs.YtoiohlmiofplcaaW.PrintMore Go.Proofs.Plain

/-- A vertex that may be dropped from. -/
def DropOk (h : Nat) (t : T h) : Prop := ND.Part h t ∧ (h = 0 ∨ 2 ≤ sizeT h t) ∧ sizeT h t ≤ 4 ∧ ND.Ris (ND.flatT h t) ∧ (ND.flatT h t).length ≤ 100000
def fnDrop : Nat → Nat
  | 0 => 76
  | _ + 1 => 83
theorem dropL_f (l : List S26) (k : S24) (hl : l.length ≤ 100000) (n : Nat) (hn : 4 ≤ n) : node_Drop.f n l k.f0 k.f1 = some (ND.dropL l k) := by
  obtain ⟨A, M, C, h⟩ := ND.dec_exists l k
  rw [ND.drop_dec h hl n hn, ND.dropL_dec h hl]
theorem row_one {W : World} {h : Nat} {x : T h} {u : Value} {g e : Nat} (hg : W.heap[g]? = some (.cells #[.iface (ty h) u] e (0, 0))) (hu : RepU W h x u) : VRow W h (some ⟨g, 0, none⟩) [x] := by
  refine ⟨rfl, by simp, fun _ => ⟨_, rfl, fun j p hj => ?_⟩⟩
  have hj2 : j < 1 := (List.getElem?_eq_some_iff.1 hj).1
  obtain rfl : j = 0 := by omega
  cases hj
  refine ⟨_, rfl, ⟨u, rfl, hu⟩, fun i v hv => ?_⟩
  cases i with
  | succ i => cases hv
  | zero => cases hv; exact blk_cell hg 0
theorem forks_one (h : Nat) (X : List (T h)) (hX : X.length ≤ 4) (hA : allT (h + 1) X ≤ 1000000000) (W : World) (A2 : Option Addr) (c2 : Nat) (h2 : VRow W h A2 X) (hc2 : X.length ≤ c2) :
    Calls Try.prog 51 #[.slice A2 X.length c2] W fun e w' => ∃ ad u c', e = .returned (.slice (some ad) 1 c') ∧ 1 ≤ c' ∧ w'.cell? ad = some (.iface 84 u) ∧ RepU w' (h + 1) X u ∧ Below W.heap.size W w' := by
  refine (forks_calls h A2 c2 X W h2 hc2 hA).mono ?_
  rintro e w' ⟨A', c', rfl, h1, hV, hb⟩
  have e1 : halvesT X = [X] := by unfold halvesT; exact if_pos hX
  rw [e1] at hV h1 ⊢
  obtain ⟨ad, u, rfl, hx, hU⟩ := VRow.at_ hV (k := 0) (by simp)
  rw [Addr.add_zero'] at hx
  exact ⟨ad, u, c', rfl, h1, hx, hU, hb⟩
theorem drop_parts {h : Nat} {ks : List (T h)} {k : S24} (ho : DropOk (h + 1) ks) : ∃ (at_ : Nat) (hlt : at_ < ks.length), ND.belowT h ks k = at_ ∧ DropOk h ks[at_] ∧ (∀ v ∈ ks, NE h v) ∧ (∀ v ∈ ks, ND.Part h v ∧ sizeT h v ≤ 4 ∧ (ND.flatT h v).length ≤ 100000) ∧
    ND.dropT (h + 1) ks k = ND.dropK h (ks.take at_) (ND.dropT h ks[at_] k) (ks.drop (at_ + 1)) ∧ (ND.dropK h (ks.take at_) (ND.dropT h ks[at_] k) (ks.drop (at_ + 1))).length ≤ 4 ∧ allT (h + 1) (ND.dropK h (ks.take at_) (ND.dropT h ks[at_] k) (ks.drop (at_ + 1)) : List (T h)) ≤ 1000000000 ∧
    sizeT h (ND.dropT h ks[at_] k) ≤ 4 ∧ (ND.flatT h (ND.dropT h ks[at_] k)).length ≤ 100000 := by
  obtain ⟨hp, hs, h4, hr, hl⟩ := ho
  have hs1 : 2 ≤ sizeT (h + 1) ks := hs.resolve_left (by omega)
  have hne := (ND.ne_of hp (by omega)).2
  obtain ⟨P, v, R, e, hb, hP, hR⟩ := ND.below_parts (k := k) (ks := ks) (by rintro rfl; cases hs1) hne hr
  have hda := ND.drop_all (k := k) hp hs h4 hr hl
  rw [ND.drop_eq e hb] at hda ⊢
  have hlt : P.length < ks.length := by rw [e]; simp
  have hat : ks[P.length] = v := by simp only [e]; simp
  have hv := hp v (by rw [e]; simp)
  have hfl : ∀ x ∈ ks, (ND.flatT h x).length ≤ 100000 := by
    intro x hx
    obtain ⟨a, b, hab⟩ := List.append_of_mem hx
    rw [hab, ND.len_flat] at hl
    omega
  have hrv : ND.Ris (ND.flatT h v) := by
    rw [e, ND.flat_append, ND.flat_cons] at hr
    exact (ND.ris_app (ND.ris_app hr).2.1).1
  have hvl := hfl v (by rw [e]; simp)
  have hok : DropOk h v := ⟨hv.1, .inr (by omega), hv.2.2, hrv, hvl⟩
  have htk : ks.take P.length = P := by rw [e]; simp
  have hdr : ks.drop (P.length + 1) = R := by rw [e]; simp
  have hsz : sizeT (h + 1) ks = P.length + (R.length + 1) := by rw [e, ND.size_succ]; simp
  obtain ⟨i1, i2, i3, i4⟩ := ND.drop_all (k := k) hok.1 hok.2.1 hok.2.2.1 hok.2.2.2.1 hok.2.2.2.2
  obtain ⟨pP, pv⟩ := ND.part_append.1 (e ▸ hp : ND.Part (h + 1) (P ++ v :: R : List (T h)))
  obtain ⟨_, pR⟩ := ND.part_cons.1 pv
  obtain ⟨d1, d2, d3, d4⟩ := ND.dropK_parts pP pR i2 (by omega) i4 (by omega)
  have hone : ND.hvT (h + 1) (ND.dropK h P (ND.dropT h v k) R) = [ND.dropK h P (ND.dropT h v k) R] := ND.hv_one (by rw [ND.size_succ]; omega)
  rw [hone] at hda ⊢
  refine ⟨P.length, hlt, hb, by rw [hat]; exact hok, hne, fun x hx => ⟨(hp x hx).1, (hp x hx).2.2, hfl x hx⟩, ?_, ?_, ?_, ?_, ?_⟩
  · rw [hat, htk, hdr]; rfl
  · rw [hat, htk, hdr]; omega
  · rw [hat, htk, hdr, ND.all_flat]
    have := hda.1
    rw [show List.headD [ND.dropK h P (ND.dropT h v k) R] ([] : List (T h)) = ND.dropK h P (ND.dropT h v k) R from rfl] at this
    rw [this]
    obtain ⟨A, M, C, hd⟩ := ND.dec_exists (ND.flatT (h + 1) ks) k
    have hq := hd.eq
    rw [ND.dropL_dec hd hl]
    have : (ND.flatT (h + 1) ks).length = A.length + (M.length + C.length) := by rw [hq]; simp
    simp; omega
  · rw [hat]; exact i4
  · rw [hat, i1]
    obtain ⟨A, M, C, hd⟩ := ND.dec_exists (ND.flatT h v) k
    have hq := hd.eq
    rw [ND.dropL_dec hd hvl]
    have : (ND.flatT h v).length = A.length + (M.length + C.length) := by rw [hq]; simp
    simp; omega
theorem dk1 {h : Nat} {P : List (T h)} {v : T h} {R : List (T h)} (hs : 2 ≤ sizeT h v) : ND.dropK h P v R = P ++ ([v] ++ R) := by
  unfold ND.dropK
  rw [if_pos hs]; rfl
theorem dk2 {h : Nat} {ks : List (T h)} {v : T h} {R : List (T h)} {a at_ : Nat} (hs : ¬ 2 ≤ sizeT h v) (ha : a = at_ + 1) (h0 : a < ks.length) : ND.dropK h (ks.take a) v R = ks.take at_ ++ (ND.hvT h (ND.appT h ks[at_] v) ++ R) := by
  subst ha
  have e : (ks.take (at_ + 1)).reverse = ks[at_] :: (ks.take at_).reverse := by
    rw [List.take_succ_eq_append_getElem (by omega)]; simp
  unfold ND.dropK
  rw [if_neg hs, e]
  simp only [List.reverse_reverse]
theorem dk3 {h : Nat} {ks : List (T h)} {v : T h} {a : Nat} (hs : ¬ 2 ≤ sizeT h v) (ha : a = 0) (h0 : 1 < ks.length) : ND.dropK h (ks.take a) v (ks.drop (a + 1)) = ks.take 0 ++ (ND.hvT h (ND.appT h v ks[1]) ++ ks.drop (0 + 2)) := by
  subst ha
  have e : ks.drop (0 + 1) = ks[1] :: ks.drop 2 := by simp
  unfold ND.dropK
  rw [if_neg hs, e]
  simp
theorem cells5 {w W : World} (hb : Below w.heap.size w W) {a1 a2 a3 a4 a5 : Addr} {v1 v2 v3 v4 v5 : Value} (h : w.cell? a1 = some v1 ∧ w.cell? a2 = some v2 ∧ w.cell? a3 = some v3 ∧ w.cell? a4 = some v4 ∧ w.cell? a5 = some v5) :
    W.cell? a1 = some v1 ∧ W.cell? a2 = some v2 ∧ W.cell? a3 = some v3 ∧ W.cell? a4 = some v4 ∧ W.cell? a5 = some v5 :=
  ⟨pw_cell_below hb h.1, pw_cell_below hb h.2.1, pw_cell_below hb h.2.2.1, pw_cell_below hb h.2.2.2.1, pw_cell_below hb h.2.2.2.2⟩
theorem cells3 {w W : World} (hb : Below w.heap.size w W) {a1 a2 a3 : Addr} {v1 v2 v3 : Value} (h : w.cell? a1 = some v1 ∧ w.cell? a2 = some v2 ∧ w.cell? a3 = some v3) :
    W.cell? a1 = some v1 ∧ W.cell? a2 = some v2 ∧ W.cell? a3 = some v3 :=
  ⟨pw_cell_below hb h.1, pw_cell_below hb h.2.1, pw_cell_below hb h.2.2⟩

set_option maxHeartbeats 4000000 in
theorem leaf_drop_calls (A : Option Addr) (c : Nat) (l : List S26) (k : S24) (w : World) (hr : Kd.C k26 w A l.length l) (hc : l.length ≤ c) (hl : l.length ≤ 100000) :
    Calls Try.prog 76 #[.slice A l.length c, .agg #[.string k.f0, .int .i64 k.f1]] w fun e w' => ∃ u, e = .returned (.iface 71 u) ∧ RepU w' 0 (ND.dropL l k) u ∧ Below w.heap.size w w' := by
  have hb0 := (Below.refl w.heap.size w).alloc (Nat.le_refl _) (.cells #[.string k.f0, .int .i64 k.f1] 24)
  have HB := Aside0.mk hb0
  have HC := Aside0.mk (node_Drop.calls 4 (fun k_ => k_ < w.heap.size) A c l k.f0 k.f1 (ND.dropL l k) (w.alloc (.cells #[.string k.f0, .int .i64 k.f1] 24)) (Kd.V_mk hc (Kd.F_below (Kd.C_F k26_heap hr) hb0)) (dropL_f l k hl 4 (by omega)))
  generalize ND.dropL l k = q at *
  clear hr hc hl hb0
  generalize l.length = n at *
  go_enter Try.func76, Try.ntmps76
  go_wp2_with (first | (go_at_call 19; (with_reducible refine HC.out.mono ?_); rintro e w3 ⟨v, rfl, ho, hb3⟩; have HB3 := Aside0.mk (HB.out.trans (hb3.mono HB.out.size)); obtain ⟨A3, c3, rfl, h3, hC3⟩ := Kd.R_reads ho; have HR3 := Aside0.mk (show RepU w3 0 q (.slice A3 q.length c3) from ⟨A3, c3, rfl, h3, hC3⟩); clear hb3 ho hC3 h3))
  go_ret
  exact ⟨_, rfl, HR3.out, HB3.out⟩

set_option maxHeartbeats 16000000 in
set_option maxRecDepth 100000 in
theorem drop_calls : ∀ (h : Nat) (t : T h) (u : Value) (k : S24) (w : World), DropOk h t → RepU w h t u →
    Calls Try.prog (fnDrop h) #[u, .agg #[.string k.f0, .int .i64 k.f1]] w fun e w' => ∃ u', e = .returned (.iface (ty h) u') ∧ RepU w' h (ND.dropT h t k) u' ∧ Below w.heap.size w w'
  | 0, l, u, k, w, ho, hr => by
    obtain ⟨A, c, rfl, hc, hC⟩ := RepU.leaf hr
    exact leaf_drop_calls A c l k w hC hc ho.2.2.2.2
  | h + 1, ks, u0, k, w, ho, hr => by
    obtain ⟨A, c, rfl, hc, hC⟩ := RepU.fork hr
    show Calls Try.prog 83 _ w fun e w' => ∃ u', e = .returned (.iface 84 u') ∧ _ ∧ _
    obtain ⟨at_, hlt, hat, hok, hne, hall, hdrop, hK4, hKa, hq4, hql⟩ := drop_parts (k := k) ho
    have h2 : 2 ≤ ks.length := ho.2.1.resolve_left (by omega)
    have h4 : ks.length ≤ 4 := ho.2.2.1
    rw [hdrop]
    obtain ⟨ad, u, rfl, hx, hU⟩ := VRow.at_ hC hlt
    have HIH := Aside0.mk (fun W (hW : Below w.heap.size w W) => drop_calls h ks[at_] u k W hok (RepU.below hW h _ _ hU))
    generalize ND.dropT h ks[at_] k = q at *
    have hb0 := (Below.refl w.heap.size w).alloc (Nat.le_refl _) (.cells #[.slice (some ad) ks.length c, .int .i64 (allT (h + 1) ks : Nat)] 84)
    have HB := Aside0.mk (hb0.alloc hb0.size (.cells #[.string k.f0, .int .i64 k.f1] 24))
    have HBl := Aside0.mk (below_calls h (some ad) c ks (allT (h + 1) ks : Nat) k _ (VRow.below hC HB.out) hc hne)
    rw [hat] at HBl
    have HS := Aside0.mk (show (((w.alloc (.cells #[.slice (some ad) ks.length c, .int .i64 (allT (h + 1) ks : Nat)] 84)).alloc (.cells #[.string k.f0, .int .i64 k.f1] 24)).cell? ⟨w.heap.size, 0, none⟩ = some (.slice (some ad) ks.length c) ∧ ((w.alloc (.cells #[.slice (some ad) ks.length c, .int .i64 (allT (h + 1) ks : Nat)] 84)).alloc (.cells #[.string k.f0, .int .i64 k.f1] 24)).cell? ⟨w.heap.size, 1, none⟩ = some (.int .i64 (allT (h + 1) ks : Nat)) ∧ _ ∧ _ ∧ _) from by
      have g0 := blk_below (blk_new w (.cells #[.slice (some ad) ks.length c, .int .i64 (allT (h + 1) ks : Nat)] 84)) ((Below.refl _ _).alloc (Nat.le_refl _) (.cells #[.string k.f0, .int .i64 k.f1] 24))
      have g1 := blk_new (w.alloc (.cells #[.slice (some ad) ks.length c, .int .i64 (allT (h + 1) ks : Nat)] 84)) (.cells #[.string k.f0, .int .i64 k.f1] 24)
      rw [World.size_alloc] at g1
      exact ⟨blk_cell g0 0, blk_cell g0 1, blk_cell g1 0, blk_cell g1 1, pw_cell_below HB.out hx⟩)
    have hn1 : (0 : Int) ≤ (at_ : Int) := by omega
    have hn2 : (at_ : Int) < ((ks.length : Nat) : Int) := by omega
    have hn3 : (2 : Int) ≤ ((ks.length : Nat) : Int) := by omega
    have HSz := Aside0.mk (fun W u' (hu : RepU W h q u') => size_calls h q u' W hu)
    have HC := Aside0.mk hC
    clear hr ho hok hne hdrop hU hat hb0 hC hx
    by_cases hs2 : 2 ≤ sizeT h q
    · -- the kid is large enough
      rw [dk1 hs2] at hK4 hKa ⊢
      have HW := Aside0.mk (fun W A2 c2 (hW : Below w.heap.size w W) h2 hc2 => with_calls h (some ad) c ks (allT (h + 1) ks : Nat) at_ 1 A2 c2 [q] W (VRow.below HC.out hW) hc h2 hc2 (by omega) (by omega) (by simp))
      rw [show ((1 : Nat) : Int) = 1 from rfl] at HW
      have HF := Aside0.mk (forks_one h _ hK4 hKa)
      have hd2 : decide ((2 : Int) ≤ ((sizeT h q : Nat) : Int)) = true := decide_eq_true (by omega)
      generalize ks.take at_ ++ ([q] ++ ks.drop (at_ + 1)) = X at *
      simp only [List.length_singleton] at HW
      generalize ((allT (h + 1) ks : Nat) : Int) = m at *
      generalize sizeT h q = sz at *
      clear hall hK4 hKa hq4 hql HC hlt h4 h2 hs2
      generalize ks.length = n at *
      cases h with
      | zero =>
        replace HIH : Aside0 (∀ W, Below w.heap.size w W → Calls Try.prog 76 #[u, .agg #[.string k.f0, .int .i64 k.f1]] W fun e w' => ∃ u', e = .returned (.iface 71 u') ∧ RepU w' _ q u' ∧ Below W.heap.size W w') := HIH
        replace HSz : Aside0 (∀ W u', RepU W _ q u' → Calls Try.prog 98 #[u'] W fun e w' => e = .returned (.int .i64 (sz : Nat)) ∧ Below W.heap.size W w') := HSz
        go_enter Try.func83, Try.ntmps83
        go_wp2_with (first | (go_at_call 88; (with_reducible refine HBl.out.mono ?_); rintro e w3 ⟨rfl, hb3⟩; have HB3 := Aside0.mk (HB.out.trans (hb3.mono HB.out.size)); have HS3 := Aside0.mk (cells5 hb3 HS.out); clear hb3))
        go_region_held3 (fun W => W.cell? ⟨w.heap.size, 0, none⟩ = some (.slice (some ad) n c) ∧ W.cell? ⟨w.heap.size, 1, none⟩ = some (.int .i64 m) ∧ W.cell? ⟨w.heap.size + 1, 0, none⟩ = some (.string k.f0) ∧ W.cell? ⟨w.heap.size + 1, 1, none⟩ = some (.int .i64 k.f1) ∧ W.cell? (ad.add at_) = some (.iface 71 u)) (first | exact HS4.out | exact cells5 (below_drew (Below.refl _ _)) HS3.out) (first | (go_at_call 76; (with_reducible refine (HIH.out _ (below_drew HB3.out)).mono ?_); rintro e w4 ⟨u4, rfl, hu4, hb4⟩; have hb4' := below_step (below_drew (Below.refl _ _)) hb4; have HB4 := Aside0.mk (HB3.out.trans (hb4'.mono HB3.out.size)); have HS4 := Aside0.mk (cells5 hb4' HS3.out); have HU4 := Aside0.mk hu4; clear hb4 hb4' hu4))
        have q0 := HS4.out.1
        have q1 := HS4.out.2.1
        go_wp2_with (first | (go_at_call 98; (with_reducible refine (HSz.out _ u4 HU4.out).mono ?_); rintro e w5 ⟨rfl, hb5⟩; have HB5 := Aside0.mk (HB4.out.trans (hb5.mono HB4.out.size)); have HU5 := Aside0.mk (RepU.below hb5 _ _ _ HU4.out); have r0 := pw_cell_below hb5 q0; have r1 := pw_cell_below hb5 q1; clear hb5; have hb6 := (Below.refl w5.heap.size w5).alloc (Nat.le_refl _) (.cells #[.iface 71 u4] 73); have HB6 := Aside0.mk (HB5.out.trans (hb6.mono HB5.out.size)); have HV6 := Aside0.mk (row_one (e := 73) (h := 0) (x := q) (blk_new w5 (.cells #[.iface 71 u4] 73)) (RepU.below hb6 _ _ _ HU5.out)); clear hb6) | (go_at_call 89; (with_reducible refine (HW.out _ _ _ HB6.out HV6.out (Nat.le_refl _)).mono ?_); rintro e w7 ⟨A7, c7, rfl, h7, hV7, hb7⟩; have HB7 := Aside0.mk (HB6.out.trans (hb7.mono HB6.out.size)); have HV7 := Aside0.mk hV7; clear hb7 hV7) | (go_at_call 51; (with_reducible refine (HF.out _ A7 c7 HV7.out h7).mono ?_); rintro e w8 ⟨ad8, u8, c8, rfl, h8, x8, hU8, hb8⟩; have HB8 := Aside0.mk (HB7.out.trans (hb8.mono HB7.out.size)); have HU8 := Aside0.mk hU8; clear hb8 hU8))
        go_ret
        exact ⟨_, rfl, HU8.out, HB8.out⟩
      | succ h =>
        replace HIH : Aside0 (∀ W, Below w.heap.size w W → Calls Try.prog 83 #[u, .agg #[.string k.f0, .int .i64 k.f1]] W fun e w' => ∃ u', e = .returned (.iface 84 u') ∧ RepU w' _ q u' ∧ Below W.heap.size W w') := HIH
        replace HSz : Aside0 (∀ W u', RepU W _ q u' → Calls Try.prog 87 #[u'] W fun e w' => e = .returned (.int .i64 (sz : Nat)) ∧ Below W.heap.size W w') := HSz
        go_enter Try.func83, Try.ntmps83
        go_wp2_with (first | (go_at_call 88; (with_reducible refine HBl.out.mono ?_); rintro e w3 ⟨rfl, hb3⟩; have HB3 := Aside0.mk (HB.out.trans (hb3.mono HB.out.size)); have HS3 := Aside0.mk (cells5 hb3 HS.out); clear hb3))
        go_region_held3 (fun W => W.cell? ⟨w.heap.size, 0, none⟩ = some (.slice (some ad) n c) ∧ W.cell? ⟨w.heap.size, 1, none⟩ = some (.int .i64 m) ∧ W.cell? ⟨w.heap.size + 1, 0, none⟩ = some (.string k.f0) ∧ W.cell? ⟨w.heap.size + 1, 1, none⟩ = some (.int .i64 k.f1) ∧ W.cell? (ad.add at_) = some (.iface 84 u)) (first | exact HS4.out | exact cells5 (below_drew (Below.refl _ _)) HS3.out) (first | (go_at_call 83; (with_reducible refine (HIH.out _ (below_drew HB3.out)).mono ?_); rintro e w4 ⟨u4, rfl, hu4, hb4⟩; have hb4' := below_step (below_drew (Below.refl _ _)) hb4; have HB4 := Aside0.mk (HB3.out.trans (hb4'.mono HB3.out.size)); have HS4 := Aside0.mk (cells5 hb4' HS3.out); have HU4 := Aside0.mk hu4; clear hb4 hb4' hu4))
        have q0 := HS4.out.1
        have q1 := HS4.out.2.1
        go_wp2_with (first | (go_at_call 87; (with_reducible refine (HSz.out _ u4 HU4.out).mono ?_); rintro e w5 ⟨rfl, hb5⟩; have HB5 := Aside0.mk (HB4.out.trans (hb5.mono HB4.out.size)); have HU5 := Aside0.mk (RepU.below hb5 _ _ _ HU4.out); have r0 := pw_cell_below hb5 q0; have r1 := pw_cell_below hb5 q1; clear hb5; have hb6 := (Below.refl w5.heap.size w5).alloc (Nat.le_refl _) (.cells #[.iface 84 u4] 73); have HB6 := Aside0.mk (HB5.out.trans (hb6.mono HB5.out.size)); have HV6 := Aside0.mk (row_one (e := 73) (h := h + 1) (x := q) (blk_new w5 (.cells #[.iface 84 u4] 73)) (RepU.below hb6 _ _ _ HU5.out)); clear hb6) | (go_at_call 89; (with_reducible refine (HW.out _ _ _ HB6.out HV6.out (Nat.le_refl _)).mono ?_); rintro e w7 ⟨A7, c7, rfl, h7, hV7, hb7⟩; have HB7 := Aside0.mk (HB6.out.trans (hb7.mono HB6.out.size)); have HV7 := Aside0.mk hV7; clear hb7 hV7) | (go_at_call 51; (with_reducible refine (HF.out _ A7 c7 HV7.out h7).mono ?_); rintro e w8 ⟨ad8, u8, c8, rfl, h8, x8, hU8, hb8⟩; have HB8 := Aside0.mk (HB7.out.trans (hb8.mono HB7.out.size)); have HU8 := Aside0.mk hU8; clear hb8 hU8))
        go_ret
        exact ⟨_, rfl, HU8.out, HB8.out⟩
    · by_cases h0 : 0 < at_
      · obtain ⟨b, hat⟩ : ∃ b, at_ = b + 1 := ⟨at_ - 1, by omega⟩
        rw [dk2 hs2 hat hlt] at hK4 hKa ⊢
        obtain ⟨ad', ub, had, hxb, hUb⟩ := VRow.at_ HC.out (k := b) (by omega)
        obtain rfl : ad = ad' := Option.some.inj had
        have hbs := (hall ks[b] (List.getElem_mem (by omega)))
        have HJ := Aside0.mk (fun W (hW : Below w.heap.size w W) u' (hu : RepU W h q u') => joined_calls h ks[b] q ub u' W (RepU.below hW h _ _ hUb) hu (by omega) (by rw [ND.all_flat, ND.flat_app, List.length_append]; omega))
        have hjl : (ND.hvT h (ND.appT h ks[b] q)).length ≤ 1000000 := by
          have := hK4
          rw [List.length_append, List.length_append] at this
          omega
        generalize ND.hvT h (ND.appT h ks[b] q) = J at *
        have HW := Aside0.mk (fun W A2 c2 (hW : Below w.heap.size w W) h2 hc2 => with_calls h (some ad) c ks (allT (h + 1) ks : Nat) b 2 A2 c2 J W (VRow.below HC.out hW) hc h2 hc2 (by omega) (by omega) hjl)
        rw [show ((2 : Nat) : Int) = 2 from rfl] at HW
        have HF := Aside0.mk (forks_one h _ hK4 hKa)
        have hd2 : decide ((2 : Int) ≤ ((sizeT h q : Nat) : Int)) = false := decide_eq_false (by omega)
        have hd3 : decide ((0 : Int) < ((at_ : Nat) : Int)) = true := decide_eq_true (by omega)
        have hwb : IntKind.i64.wrap ((at_ : Int) - 1) = (b : Int) := by rw [i64_w]; unfold wrap64; omega
        have hn4 : (0 : Int) ≤ (b : Int) := by omega
        have hn5 : (b : Int) < ((ks.length : Nat) : Int) := by omega
        rw [show b + 2 = at_ + 1 by omega] at HW
        generalize ks.take b ++ (J ++ ks.drop (at_ + 1)) = X at *
        generalize ((allT (h + 1) ks : Nat) : Int) = m at *
        generalize sizeT h q = sz at *
        clear hall hK4 hKa hq4 hql HC hlt h4 h2 hs2 hbs hjl hat hUb had
        generalize ks.length = n at *
        cases h with
        | zero =>
          replace hxb : w.cell? (ad.add b) = some (.iface 71 ub) := hxb
          replace HJ : Aside0 (∀ W, Below w.heap.size w W → ∀ u', RepU W _ q u' → Calls Try.prog 90 #[.iface 71 ub, .iface 71 u'] W fun e w' => ∃ A' c', e = .returned (.slice A' J.length c') ∧ J.length ≤ c' ∧ VRow w' _ A' J ∧ Below W.heap.size W w') := HJ
          replace HIH : Aside0 (∀ W, Below w.heap.size w W → Calls Try.prog 76 #[u, .agg #[.string k.f0, .int .i64 k.f1]] W fun e w' => ∃ u', e = .returned (.iface 71 u') ∧ RepU w' _ q u' ∧ Below W.heap.size W w') := HIH
          replace HSz : Aside0 (∀ W u', RepU W _ q u' → Calls Try.prog 98 #[u'] W fun e w' => e = .returned (.int .i64 (sz : Nat)) ∧ Below W.heap.size W w') := HSz
          go_enter Try.func83, Try.ntmps83
          go_wp2_with (first | (go_at_call 88; (with_reducible refine HBl.out.mono ?_); rintro e w3 ⟨rfl, hb3⟩; have HB3 := Aside0.mk (HB.out.trans (hb3.mono HB.out.size)); have HS3 := Aside0.mk (cells5 hb3 HS.out); clear hb3))
          go_region_held3 (fun W => W.cell? ⟨w.heap.size, 0, none⟩ = some (.slice (some ad) n c) ∧ W.cell? ⟨w.heap.size, 1, none⟩ = some (.int .i64 m) ∧ W.cell? ⟨w.heap.size + 1, 0, none⟩ = some (.string k.f0) ∧ W.cell? ⟨w.heap.size + 1, 1, none⟩ = some (.int .i64 k.f1) ∧ W.cell? (ad.add at_) = some (.iface 71 u)) (first | exact HS4.out | exact cells5 (below_drew (Below.refl _ _)) HS3.out) (first | (go_at_call 76; (with_reducible refine (HIH.out _ (below_drew HB3.out)).mono ?_); rintro e w4 ⟨u4, rfl, hu4, hb4⟩; have hb4' := below_step (below_drew (Below.refl _ _)) hb4; have HB4 := Aside0.mk (HB3.out.trans (hb4'.mono HB3.out.size)); have HS4 := Aside0.mk (cells5 hb4' HS3.out); have HU4 := Aside0.mk hu4; clear hb4 hb4' hu4))
          have q0 := HS4.out.1
          have q1 := HS4.out.2.1
          have xb := pw_cell_below HB4.out hxb
          go_wp2_with (first | (go_at_call 98; (with_reducible refine (HSz.out _ u4 HU4.out).mono ?_); rintro e w5 ⟨rfl, hb5⟩; have HB5 := Aside0.mk (HB4.out.trans (hb5.mono HB4.out.size)); have HU5 := Aside0.mk (RepU.below hb5 _ _ _ HU4.out); have r0 := pw_cell_below hb5 q0; have r1 := pw_cell_below hb5 q1; clear hb5; have r2 := pw_cell_below HB5.out hxb))
          go_region_with (first | (go_at_call 90; (with_reducible refine (HJ.out _ (below_drew HB5.out) u4 (RepU.below (below_drew (Below.refl _ _)) _ _ _ HU5.out)).mono ?_); rintro e w6 ⟨A6, c6, rfl, h6, hV6, hb6⟩; have hb6' := below_step (below_drew (Below.refl _ _)) hb6; have HB6 := Aside0.mk (HB5.out.trans (hb6'.mono HB5.out.size)); have t0 := pw_cell_below hb6' r0; have t1 := pw_cell_below hb6' r1; have HV6 := Aside0.mk hV6; clear hb6 hb6' hV6) | (go_at_call 89; (with_reducible refine (HW.out _ A6 c6 HB6.out HV6.out h6).mono ?_); rintro e w7 ⟨A7, c7, rfl, h7, hV7, hb7⟩; have HB7 := Aside0.mk (HB6.out.trans (hb7.mono HB6.out.size)); have HV7 := Aside0.mk hV7; clear hb7 hV7) | (go_at_call 51; (with_reducible refine (HF.out _ A7 c7 HV7.out h7).mono ?_); rintro e w8 ⟨ad8, u8, c8, rfl, h8, x8, hU8, hb8⟩; have HB8 := Aside0.mk (HB7.out.trans (hb8.mono HB7.out.size)); have HU8 := Aside0.mk hU8; clear hb8 hU8))
          all_goals go_wp2
          all_goals go_ret
          all_goals exact ⟨_, rfl, HU8.out, HB8.out⟩
        | succ h =>
          replace hxb : w.cell? (ad.add b) = some (.iface 84 ub) := hxb
          replace HJ : Aside0 (∀ W, Below w.heap.size w W → ∀ u', RepU W _ q u' → Calls Try.prog 90 #[.iface 84 ub, .iface 84 u'] W fun e w' => ∃ A' c', e = .returned (.slice A' J.length c') ∧ J.length ≤ c' ∧ VRow w' _ A' J ∧ Below W.heap.size W w') := HJ
          replace HIH : Aside0 (∀ W, Below w.heap.size w W → Calls Try.prog 83 #[u, .agg #[.string k.f0, .int .i64 k.f1]] W fun e w' => ∃ u', e = .returned (.iface 84 u') ∧ RepU w' _ q u' ∧ Below W.heap.size W w') := HIH
          replace HSz : Aside0 (∀ W u', RepU W _ q u' → Calls Try.prog 87 #[u'] W fun e w' => e = .returned (.int .i64 (sz : Nat)) ∧ Below W.heap.size W w') := HSz
          go_enter Try.func83, Try.ntmps83
          go_wp2_with (first | (go_at_call 88; (with_reducible refine HBl.out.mono ?_); rintro e w3 ⟨rfl, hb3⟩; have HB3 := Aside0.mk (HB.out.trans (hb3.mono HB.out.size)); have HS3 := Aside0.mk (cells5 hb3 HS.out); clear hb3))
          go_region_held3 (fun W => W.cell? ⟨w.heap.size, 0, none⟩ = some (.slice (some ad) n c) ∧ W.cell? ⟨w.heap.size, 1, none⟩ = some (.int .i64 m) ∧ W.cell? ⟨w.heap.size + 1, 0, none⟩ = some (.string k.f0) ∧ W.cell? ⟨w.heap.size + 1, 1, none⟩ = some (.int .i64 k.f1) ∧ W.cell? (ad.add at_) = some (.iface 84 u)) (first | exact HS4.out | exact cells5 (below_drew (Below.refl _ _)) HS3.out) (first | (go_at_call 83; (with_reducible refine (HIH.out _ (below_drew HB3.out)).mono ?_); rintro e w4 ⟨u4, rfl, hu4, hb4⟩; have hb4' := below_step (below_drew (Below.refl _ _)) hb4; have HB4 := Aside0.mk (HB3.out.trans (hb4'.mono HB3.out.size)); have HS4 := Aside0.mk (cells5 hb4' HS3.out); have HU4 := Aside0.mk hu4; clear hb4 hb4' hu4))
          have q0 := HS4.out.1
          have q1 := HS4.out.2.1
          have xb := pw_cell_below HB4.out hxb
          go_wp2_with (first | (go_at_call 87; (with_reducible refine (HSz.out _ u4 HU4.out).mono ?_); rintro e w5 ⟨rfl, hb5⟩; have HB5 := Aside0.mk (HB4.out.trans (hb5.mono HB4.out.size)); have HU5 := Aside0.mk (RepU.below hb5 _ _ _ HU4.out); have r0 := pw_cell_below hb5 q0; have r1 := pw_cell_below hb5 q1; clear hb5; have r2 := pw_cell_below HB5.out hxb))
          go_region_with (first | (go_at_call 90; (with_reducible refine (HJ.out _ (below_drew HB5.out) u4 (RepU.below (below_drew (Below.refl _ _)) _ _ _ HU5.out)).mono ?_); rintro e w6 ⟨A6, c6, rfl, h6, hV6, hb6⟩; have hb6' := below_step (below_drew (Below.refl _ _)) hb6; have HB6 := Aside0.mk (HB5.out.trans (hb6'.mono HB5.out.size)); have t0 := pw_cell_below hb6' r0; have t1 := pw_cell_below hb6' r1; have HV6 := Aside0.mk hV6; clear hb6 hb6' hV6) | (go_at_call 89; (with_reducible refine (HW.out _ A6 c6 HB6.out HV6.out h6).mono ?_); rintro e w7 ⟨A7, c7, rfl, h7, hV7, hb7⟩; have HB7 := Aside0.mk (HB6.out.trans (hb7.mono HB6.out.size)); have HV7 := Aside0.mk hV7; clear hb7 hV7) | (go_at_call 51; (with_reducible refine (HF.out _ A7 c7 HV7.out h7).mono ?_); rintro e w8 ⟨ad8, u8, c8, rfl, h8, x8, hU8, hb8⟩; have HB8 := Aside0.mk (HB7.out.trans (hb8.mono HB7.out.size)); have HU8 := Aside0.mk hU8; clear hb8 hU8))
          all_goals go_wp2
          all_goals go_ret
          all_goals exact ⟨_, rfl, HU8.out, HB8.out⟩
      · have hat : at_ = 0 := by omega
        rw [dk3 hs2 hat (by omega)] at hK4 hKa ⊢
        obtain ⟨ad', ub, had, hxb, hUb⟩ := VRow.at_ HC.out (k := 1) (by omega)
        obtain rfl : ad = ad' := Option.some.inj had
        have hbs := (hall ks[1] (List.getElem_mem (by omega)))
        have HJ := Aside0.mk (fun W (hW : Below w.heap.size w W) u' (hu : RepU W h q u') => joined_calls h q ks[1] u' ub W hu (RepU.below hW h _ _ hUb) (by omega) (by rw [ND.all_flat, ND.flat_app, List.length_append]; omega))
        have hjl : (ND.hvT h (ND.appT h q ks[1])).length ≤ 1000000 := by
          have := hK4
          rw [List.length_append, List.length_append] at this
          omega
        generalize ND.hvT h (ND.appT h q ks[1]) = J at *
        have HW := Aside0.mk (fun W A2 c2 (hW : Below w.heap.size w W) h2 hc2 => with_calls h (some ad) c ks (allT (h + 1) ks : Nat) 0 2 A2 c2 J W (VRow.below HC.out hW) hc h2 hc2 (by omega) (by omega) hjl)
        rw [show ((2 : Nat) : Int) = 2 from rfl, show ((0 : Nat) : Int) = 0 from rfl] at HW
        have HF := Aside0.mk (forks_one h _ hK4 hKa)
        have hd2 : decide ((2 : Int) ≤ ((sizeT h q : Nat) : Int)) = false := decide_eq_false (by omega)
        have hn6 : (1 : Int) < ((ks.length : Nat) : Int) := by omega
        generalize ks.take 0 ++ (J ++ ks.drop (0 + 2)) = X at *
        generalize ((allT (h + 1) ks : Nat) : Int) = m at *
        generalize sizeT h q = sz at *
        clear hall hK4 hKa hq4 hql HC hlt h4 h2 hs2 hbs hjl hat hUb had
        generalize ks.length = n at *
        cases h with
        | zero =>
          replace hxb : w.cell? (ad.add 1) = some (.iface 71 ub) := hxb
          replace HJ : Aside0 (∀ W, Below w.heap.size w W → ∀ u', RepU W _ q u' → Calls Try.prog 90 #[.iface 71 u', .iface 71 ub] W fun e w' => ∃ A' c', e = .returned (.slice A' J.length c') ∧ J.length ≤ c' ∧ VRow w' _ A' J ∧ Below W.heap.size W w') := HJ
          replace HIH : Aside0 (∀ W, Below w.heap.size w W → Calls Try.prog 76 #[u, .agg #[.string k.f0, .int .i64 k.f1]] W fun e w' => ∃ u', e = .returned (.iface 71 u') ∧ RepU w' _ q u' ∧ Below W.heap.size W w') := HIH
          replace HSz : Aside0 (∀ W u', RepU W _ q u' → Calls Try.prog 98 #[u'] W fun e w' => e = .returned (.int .i64 (sz : Nat)) ∧ Below W.heap.size W w') := HSz
          go_enter Try.func83, Try.ntmps83
          go_wp2_with (first | (go_at_call 88; (with_reducible refine HBl.out.mono ?_); rintro e w3 ⟨rfl, hb3⟩; have HB3 := Aside0.mk (HB.out.trans (hb3.mono HB.out.size)); have HS3 := Aside0.mk (cells5 hb3 HS.out); clear hb3))
          go_region_held3 (fun W => W.cell? ⟨w.heap.size, 0, none⟩ = some (.slice (some ad) n c) ∧ W.cell? ⟨w.heap.size, 1, none⟩ = some (.int .i64 m) ∧ W.cell? ⟨w.heap.size + 1, 0, none⟩ = some (.string k.f0) ∧ W.cell? ⟨w.heap.size + 1, 1, none⟩ = some (.int .i64 k.f1) ∧ W.cell? (ad.add at_) = some (.iface 71 u)) (first | exact HS4.out | exact cells5 (below_drew (Below.refl _ _)) HS3.out) (first | (go_at_call 76; (with_reducible refine (HIH.out _ (below_drew HB3.out)).mono ?_); rintro e w4 ⟨u4, rfl, hu4, hb4⟩; have hb4' := below_step (below_drew (Below.refl _ _)) hb4; have HB4 := Aside0.mk (HB3.out.trans (hb4'.mono HB3.out.size)); have HS4 := Aside0.mk (cells5 hb4' HS3.out); have HU4 := Aside0.mk hu4; clear hb4 hb4' hu4))
          have q0 := HS4.out.1
          have q1 := HS4.out.2.1
          have xb := pw_cell_below HB4.out hxb
          go_wp2_with (first | (go_at_call 98; (with_reducible refine (HSz.out _ u4 HU4.out).mono ?_); rintro e w5 ⟨rfl, hb5⟩; have HB5 := Aside0.mk (HB4.out.trans (hb5.mono HB4.out.size)); have HU5 := Aside0.mk (RepU.below hb5 _ _ _ HU4.out); have r0 := pw_cell_below hb5 q0; have r1 := pw_cell_below hb5 q1; clear hb5; have r2 : w5.cell? ⟨ad.block, ad.off + 1, none⟩ = _ := pw_cell_below HB5.out hxb))
          go_region_with (first | (go_at_call 90; (with_reducible refine (HJ.out _ (below_drew HB5.out) u4 (RepU.below (below_drew (Below.refl _ _)) _ _ _ HU5.out)).mono ?_); rintro e w6 ⟨A6, c6, rfl, h6, hV6, hb6⟩; have hb6' := below_step (below_drew (Below.refl _ _)) hb6; have HB6 := Aside0.mk (HB5.out.trans (hb6'.mono HB5.out.size)); have t0 := pw_cell_below hb6' r0; have t1 := pw_cell_below hb6' r1; have HV6 := Aside0.mk hV6; clear hb6 hb6' hV6) | (go_at_call 89; (with_reducible refine (HW.out _ A6 c6 HB6.out HV6.out h6).mono ?_); rintro e w7 ⟨A7, c7, rfl, h7, hV7, hb7⟩; have HB7 := Aside0.mk (HB6.out.trans (hb7.mono HB6.out.size)); have HV7 := Aside0.mk hV7; clear hb7 hV7) | (go_at_call 51; (with_reducible refine (HF.out _ A7 c7 HV7.out h7).mono ?_); rintro e w8 ⟨ad8, u8, c8, rfl, h8, x8, hU8, hb8⟩; have HB8 := Aside0.mk (HB7.out.trans (hb8.mono HB7.out.size)); have HU8 := Aside0.mk hU8; clear hb8 hU8))
          all_goals go_wp2
          all_goals go_ret
          all_goals exact ⟨_, rfl, HU8.out, HB8.out⟩
        | succ h =>
          replace hxb : w.cell? (ad.add 1) = some (.iface 84 ub) := hxb
          replace HJ : Aside0 (∀ W, Below w.heap.size w W → ∀ u', RepU W _ q u' → Calls Try.prog 90 #[.iface 84 u', .iface 84 ub] W fun e w' => ∃ A' c', e = .returned (.slice A' J.length c') ∧ J.length ≤ c' ∧ VRow w' _ A' J ∧ Below W.heap.size W w') := HJ
          replace HIH : Aside0 (∀ W, Below w.heap.size w W → Calls Try.prog 83 #[u, .agg #[.string k.f0, .int .i64 k.f1]] W fun e w' => ∃ u', e = .returned (.iface 84 u') ∧ RepU w' _ q u' ∧ Below W.heap.size W w') := HIH
          replace HSz : Aside0 (∀ W u', RepU W _ q u' → Calls Try.prog 87 #[u'] W fun e w' => e = .returned (.int .i64 (sz : Nat)) ∧ Below W.heap.size W w') := HSz
          go_enter Try.func83, Try.ntmps83
          go_wp2_with (first | (go_at_call 88; (with_reducible refine HBl.out.mono ?_); rintro e w3 ⟨rfl, hb3⟩; have HB3 := Aside0.mk (HB.out.trans (hb3.mono HB.out.size)); have HS3 := Aside0.mk (cells5 hb3 HS.out); clear hb3))
          go_region_held3 (fun W => W.cell? ⟨w.heap.size, 0, none⟩ = some (.slice (some ad) n c) ∧ W.cell? ⟨w.heap.size, 1, none⟩ = some (.int .i64 m) ∧ W.cell? ⟨w.heap.size + 1, 0, none⟩ = some (.string k.f0) ∧ W.cell? ⟨w.heap.size + 1, 1, none⟩ = some (.int .i64 k.f1) ∧ W.cell? (ad.add at_) = some (.iface 84 u)) (first | exact HS4.out | exact cells5 (below_drew (Below.refl _ _)) HS3.out) (first | (go_at_call 83; (with_reducible refine (HIH.out _ (below_drew HB3.out)).mono ?_); rintro e w4 ⟨u4, rfl, hu4, hb4⟩; have hb4' := below_step (below_drew (Below.refl _ _)) hb4; have HB4 := Aside0.mk (HB3.out.trans (hb4'.mono HB3.out.size)); have HS4 := Aside0.mk (cells5 hb4' HS3.out); have HU4 := Aside0.mk hu4; clear hb4 hb4' hu4))
          have q0 := HS4.out.1
          have q1 := HS4.out.2.1
          have xb := pw_cell_below HB4.out hxb
          go_wp2_with (first | (go_at_call 87; (with_reducible refine (HSz.out _ u4 HU4.out).mono ?_); rintro e w5 ⟨rfl, hb5⟩; have HB5 := Aside0.mk (HB4.out.trans (hb5.mono HB4.out.size)); have HU5 := Aside0.mk (RepU.below hb5 _ _ _ HU4.out); have r0 := pw_cell_below hb5 q0; have r1 := pw_cell_below hb5 q1; clear hb5; have r2 : w5.cell? ⟨ad.block, ad.off + 1, none⟩ = _ := pw_cell_below HB5.out hxb))
          go_region_with (first | (go_at_call 90; (with_reducible refine (HJ.out _ (below_drew HB5.out) u4 (RepU.below (below_drew (Below.refl _ _)) _ _ _ HU5.out)).mono ?_); rintro e w6 ⟨A6, c6, rfl, h6, hV6, hb6⟩; have hb6' := below_step (below_drew (Below.refl _ _)) hb6; have HB6 := Aside0.mk (HB5.out.trans (hb6'.mono HB5.out.size)); have t0 := pw_cell_below hb6' r0; have t1 := pw_cell_below hb6' r1; have HV6 := Aside0.mk hV6; clear hb6 hb6' hV6) | (go_at_call 89; (with_reducible refine (HW.out _ A6 c6 HB6.out HV6.out h6).mono ?_); rintro e w7 ⟨A7, c7, rfl, h7, hV7, hb7⟩; have HB7 := Aside0.mk (HB6.out.trans (hb7.mono HB6.out.size)); have HV7 := Aside0.mk hV7; clear hb7 hV7) | (go_at_call 51; (with_reducible refine (HF.out _ A7 c7 HV7.out h7).mono ?_); rintro e w8 ⟨ad8, u8, c8, rfl, h8, x8, hU8, hb8⟩; have HB8 := Aside0.mk (HB7.out.trans (hb8.mono HB7.out.size)); have HU8 := Aside0.mk hU8; clear hb8 hU8))
          all_goals go_wp2
          all_goals go_ret
          all_goals exact ⟨_, rfl, HU8.out, HB8.out⟩
end Go.Proofs.Ytoiohlmiofplcaa.P
/-
  Trees (chapter 10): New, top, Len.
-/
namespace Go.Proofs.Ytoiohlmiofplcaa.P
open Go.RowKit Go.Shelf Go.Proofs.YtoiohlmiofplcaaW.PrintWords Go.Proofs.YtoiohlmiofplcaaW.PrintLast Go.Proofs.YtoiohlmiofplcaaW.PrintMore Go.Proofs.Plain

/-- A root: a leaf of at most four pairs, or a fork of two to four vertices; its pairs rise. -/
def Root (h : Nat) (t : T h) : Prop := ND.Part h t ∧ (h = 0 ∨ 2 ≤ sizeT h t) ∧ sizeT h t ≤ 4 ∧ ND.Ris (ND.flatT h t)
/-- The pointer tells a tree with the root t. -/
def TreeRep (w : World) (h : Nat) (t : T h) (v : Value) : Prop := (v = .pointer none ∧ h = 0 ∧ sizeT h t = 0) ∨ (∃ b u, v = .pointer (some ⟨b, 0, none⟩) ∧ w.cell? ⟨b, 0, none⟩ = some (.iface (ty h) u) ∧ RepU w h t u)
theorem TreeRep.below {w w1 : World} {h : Nat} {t : T h} {v : Value} (hr : TreeRep w h t v) (hb : Below w.heap.size w w1) : TreeRep w1 h t v := by
  rcases hr with hr | ⟨b, u, e, hc, hu⟩
  · exact .inl hr
  · exact .inr ⟨b, u, e, pw_cell_below hb hc, RepU.below hb h t u hu⟩
/-- The pointer tells a tree with the pairs l. -/
def TreeOf (w : World) (l : List S26) (v : Value) : Prop := ∃ (h : Nat) (t : T h), TreeRep w h t v ∧ Root h t ∧ ND.flatT h t = l
theorem TreeOf.below {w w1 : World} {l : List S26} {v : Value} (hr : TreeOf w l v) (hb : Below w.heap.size w w1) : TreeOf w1 l v := by
  obtain ⟨h, t, h1, h2, h3⟩ := hr
  exact ⟨h, t, h1.below hb, h2, h3⟩
theorem TreeOf.nil (w : World) : TreeOf w [] (.pointer none) := ⟨0, ([] : List S26), .inl ⟨rfl, rfl, rfl⟩, ⟨trivial, .inl rfl, Nat.zero_le _, List.Pairwise.nil⟩, rfl⟩

theorem new_calls (w : World) : Calls Try.prog 31 #[] w fun e w' => ∃ v, e = .returned v ∧ TreeOf w' [] v ∧ Below w.heap.size w w' := by
  have hb := (Below.refl w.heap.size w).alloc (Nat.le_refl _) (.cells #[.iface 71 (.slice none 0 0)] 75)
  have HB := Aside0.mk hb
  have HT := Aside0.mk (show TreeOf (w.alloc (.cells #[.iface 71 (.slice none 0 0)] 75)) [] (.pointer (some ⟨w.heap.size, 0, none⟩)) from
    ⟨0, ([] : List S26), .inr ⟨_, .slice none 0 0, rfl, (blk_cell (blk_new w _) 0).trans rfl, none, 0, rfl, Nat.le_refl _, Kd.C_nil k26 _⟩, ⟨trivial, .inl rfl, Nat.zero_le _, List.Pairwise.nil⟩, rfl⟩)
  clear hb
  go_enter Try.func31, Try.ntmps31
  go_wp2
  go_ret
  exact ⟨_, rfl, HT.out, HB.out⟩
set_option maxHeartbeats 4000000 in
theorem top_calls (h : Nat) (t : T h) (v : Value) (w : World) (hr : TreeRep w h t v) : Calls Try.prog 50 #[v] w fun e w' => ∃ u, e = .returned (.iface (ty h) u) ∧ RepU w' h t u ∧ Below w.heap.size w w' := by
  rcases hr with ⟨rfl, rfl, h0⟩ | ⟨b, u, rfl, hc, hu⟩
  · obtain rfl : t = ([] : List S26) := List.eq_nil_of_length_eq_zero h0
    have HT := Aside0.mk (show RepU w 0 ([] : List S26) (.slice none 0 0) from ⟨none, 0, rfl, Nat.le_refl _, Kd.C_nil k26 _⟩)
    clear h0
    show Calls Try.prog 50 _ w fun e w' => ∃ u, e = .returned (.iface 71 u) ∧ _ ∧ _
    go_enter Try.func50, Try.ntmps50
    go_wp2
    go_ret
    exact ⟨_, rfl, HT.out, Below.refl _ _⟩
  · have HU := Aside0.mk hu
    clear hu
    cases h with
    | zero =>
      replace hc : w.cell? ⟨b, 0, none⟩ = some (.iface 71 u) := hc
      show Calls Try.prog 50 _ w fun e w' => ∃ u, e = .returned (.iface 71 u) ∧ _ ∧ _
      go_enter Try.func50, Try.ntmps50
      go_wp2
      go_ret
      exact ⟨_, rfl, HU.out, Below.refl _ _⟩
    | succ h =>
      replace hc : w.cell? ⟨b, 0, none⟩ = some (.iface 84 u) := hc
      show Calls Try.prog 50 _ w fun e w' => ∃ u, e = .returned (.iface 84 u) ∧ _ ∧ _
      go_enter Try.func50, Try.ntmps50
      go_wp2
      go_ret
      exact ⟨_, rfl, HU.out, Below.refl _ _⟩
set_option maxHeartbeats 4000000 in
theorem len_calls (l : List S26) (v : Value) (w : World) (hr : TreeOf w l v) : Calls Try.prog 36 #[v] w fun e w' => e = .returned (.int .i64 (l.length : Nat)) ∧ Below w.heap.size w w' := by
  obtain ⟨h, t, hT, _, rfl⟩ := hr
  rw [← ND.all_flat]
  have HC := Aside0.mk (top_calls h t v w hT)
  have HA := Aside0.mk (fun u W hu => all_calls h t u W hu)
  generalize allT h t = n at *
  clear hT
  cases h with
  | zero =>
    replace HC : Aside0 (Calls Try.prog 50 #[v] w fun e w' => ∃ u, e = .returned (.iface 71 u) ∧ RepU w' 0 t u ∧ Below w.heap.size w w') := HC
    replace HA : Aside0 (∀ u W, RepU W 0 t u → Calls Try.prog 75 #[u] W fun e w' => e = .returned (.int .i64 (n : Nat)) ∧ Below W.heap.size W w') := HA
    go_enter Try.func36, Try.ntmps36
    go_wp2_with (first | (go_at_call 50; (with_reducible refine HC.out.mono ?_); rintro e w3 ⟨u, rfl, hu, hb3⟩; have HU := Aside0.mk hu; have HB3 := Aside0.mk hb3; clear hu hb3) | (go_at_call 75; (with_reducible refine (HA.out u _ HU.out).mono ?_); rintro e w4 ⟨rfl, hb4⟩; have HB4 := Aside0.mk (HB3.out.trans (hb4.mono HB3.out.size)); clear hb4))
    go_ret
    exact ⟨rfl, HB4.out⟩
  | succ h =>
    replace HC : Aside0 (Calls Try.prog 50 #[v] w fun e w' => ∃ u, e = .returned (.iface 84 u) ∧ RepU w' (h + 1) t u ∧ Below w.heap.size w w') := HC
    replace HA : Aside0 (∀ u W, RepU W (h + 1) t u → Calls Try.prog 82 #[u] W fun e w' => e = .returned (.int .i64 (n : Nat)) ∧ Below W.heap.size W w') := HA
    go_enter Try.func36, Try.ntmps36
    go_wp2_with (first | (go_at_call 50; (with_reducible refine HC.out.mono ?_); rintro e w3 ⟨u, rfl, hu, hb3⟩; have HU := Aside0.mk hu; have HB3 := Aside0.mk hb3; clear hu hb3) | (go_at_call 82; (with_reducible refine (HA.out u _ HU.out).mono ?_); rintro e w4 ⟨rfl, hb4⟩; have HB4 := Aside0.mk (HB3.out.trans (hb4.mono HB3.out.size)); clear hb4))
    go_ret
    exact ⟨rfl, HB4.out⟩
end Go.Proofs.Ytoiohlmiofplcaa.P
/-
  (*Tree).Put (chapter 10).
-/
namespace Go.Proofs.Ytoiohlmiofplcaa.P
open Go.RowKit Go.Shelf Go.Proofs.YtoiohlmiofplcaaW.PrintWords Go.Proofs.YtoiohlmiofplcaaW.PrintLast Go.Proofs.YtoiohlmiofplcaaW.PrintMore Go.Proofs.Plain

theorem putL_ris {l : List S26} {p : S26} (hr : ND.Ris l) (hl : l.length ≤ 100000) : ND.Ris (ND.putL l p) := by
  obtain ⟨A, M, C, h⟩ := ND.dec_exists l p.f0
  rw [ND.putL_dec h hl]
  exact ND.ris_put hr h p.f1
theorem dropL_ris {l : List S26} {k : S24} (hr : ND.Ris l) (hl : l.length ≤ 100000) : ND.Ris (ND.dropL l k) := by
  obtain ⟨A, M, C, h⟩ := ND.dec_exists l k
  rw [ND.dropL_dec h hl]
  exact ND.ris_drop hr h
theorem root_putOk {h : Nat} {t : T h} (hr : Root h t) (hl : (ND.flatT h t).length ≤ 100000) : PutOk h t := ⟨hr.1, hr.2.1.imp id (fun h => by omega), hr.2.2.1, hr.2.2.2, hl⟩
theorem root_dropOk {h : Nat} {t : T h} (hr : Root h t) (hl : (ND.flatT h t).length ≤ 100000) : DropOk h t := ⟨hr.1, hr.2.1, hr.2.2.1, hr.2.2.2, hl⟩
/-- What a put makes of a root. -/
theorem root_put {h : Nat} {t : T h} {p : S26} (hr : Root h t) (hl : (ND.flatT h t).length ≤ 100000) :
    (∃ x, ND.putT h t p = [x] ∧ Root h x ∧ ND.flatT h x = ND.putL (ND.flatT h t) p) ∨ (∃ x y, ND.putT h t p = [x, y] ∧ Root (h + 1) ([x, y] : List (T h)) ∧ ND.flatT (h + 1) ([x, y] : List (T h)) = ND.putL (ND.flatT h t) p) := by
  have ho := root_putOk hr hl
  have hf := ND.put_flat (p := p) ho.1 ho.2.1 ho.2.2.2.1 hl
  have hri := putL_ris (p := p) hr.2.2.2 hl
  rcases ND.put_all (p := p) ho.1 ho.2.1 ho.2.2.1 ho.2.2.2.1 hl with ⟨x, e, h1, h2, h3, h4⟩ | ⟨x, y, e, h1, h2⟩
  · rw [e, ND.flat_cons, ND.flat_nil, List.append_nil] at hf
    exact .inl ⟨x, e, ⟨h1, hr.2.1.imp id (fun h => by omega), h2, by rw [hf]; exact hri⟩, hf⟩
  · rw [e] at hf
    refine .inr ⟨x, y, e, ⟨ND.part_cons.2 ⟨h1, ND.part_cons.2 ⟨h2, fun _ hk => by cases hk⟩⟩, .inr ?_, ?_, by rw [hf]; exact hri⟩, hf⟩
    · show 2 ≤ [x, y].length
      simp
    · show [x, y].length ≤ 4
      simp
theorem tree_new {w : World} {h : Nat} {t : T h} {u : Value} {l : List S26} (hu : RepU w h t u) (hr : Root h t) (hf : ND.flatT h t = l) (e : TypeId) : TreeOf (w.alloc (.cells #[.iface (ty h) u] e)) l (.pointer (some ⟨w.heap.size, 0, none⟩)) :=
  ⟨h, t, .inr ⟨_, u, rfl, (blk_cell (blk_new w (.cells #[.iface (ty h) u] e)) 0).trans rfl, RepU.below ((Below.refl _ _).alloc (Nat.le_refl _) _) h t u hu⟩, hr, hf⟩
set_option maxHeartbeats 8000000 in
theorem tree_put_calls (l : List S26) (v : Value) (p : S26) (w : World) (hr : TreeOf w l v) (hl : l.length ≤ 10000) :
    Calls Try.prog 41 #[v, .agg #[.string p.f0.f0, .int .i64 p.f0.f1, .string p.f1]] w fun e w' => ∃ v', e = .returned v' ∧ TreeOf w' (ND.putL l p) v' ∧ Below w.heap.size w w' := by
  obtain ⟨h, t, hT, hR, rfl⟩ := hr
  have hb0 := (Below.refl w.heap.size w).alloc (Nat.le_refl _) (.cells #[.string p.f0.f0, .int .i64 p.f0.f1, .string p.f1] 26)
  have HB := Aside0.mk hb0
  obtain ⟨w1, hw1⟩ : ∃ w1, w1 = w.alloc (.cells #[.string p.f0.f0, .int .i64 p.f0.f1, .string p.f1] 26) := ⟨_, rfl⟩
  have g0 := blk_new w (.cells #[.string p.f0.f0, .int .i64 p.f0.f1, .string p.f1] 26)
  rw [← hw1] at HB g0
  have HS := Aside0.mk (show w1.cell? ⟨w.heap.size, 0, none⟩ = some (.string p.f0.f0) ∧ w1.cell? ⟨w.heap.size, 1, none⟩ = some (.int .i64 p.f0.f1) ∧ w1.cell? ⟨w.heap.size, 2, none⟩ = some (.string p.f1) from ⟨blk_cell g0 0, blk_cell g0 1, blk_cell g0 2⟩)
  have HTop := Aside0.mk (fun W (hW : Below w.heap.size w W) => top_calls h t v W (hT.below hW))
  have HPut := Aside0.mk (fun u W hu => put_calls h t u p W (root_putOk hR (by omega)) hu)
  have hcases := root_put (p := p) hR (by omega)
  have hpl := ND.putL_len (ND.flatT h t) p (by omega)
  have hpl2 : (ND.putL (ND.flatT h t) p).length ≤ 100000 := by omega
  clear hT hb0 g0 hR hl hpl
  generalize ND.putL (ND.flatT h t) p = l2 at *
  unfold encPair at HPut
  rcases hcases with ⟨x, e, hx, hfx⟩ | ⟨x, y, e, hx, hfx⟩
  · rw [e] at HPut
    simp only [List.length_singleton] at HPut
    have HX := Aside0.mk (And.intro hx hfx)
    clear hx hfx e hpl2
    cases h with
    | zero =>
      replace HTop : Aside0 (∀ W, Below w.heap.size w W → Calls Try.prog 50 #[v] W fun e w' => ∃ u, e = .returned (.iface 71 u) ∧ RepU w' _ t u ∧ Below W.heap.size W w') := HTop
      replace HPut : Aside0 (∀ u W, RepU W _ t u → Calls Try.prog 79 #[u, .agg #[.string p.f0.f0, .int .i64 p.f0.f1, .string p.f1]] W fun e w' => ∃ A' c', e = .returned (.slice A' 1 c') ∧ 1 ≤ c' ∧ VRow w' _ A' [x] ∧ Below W.heap.size W w') := HPut
      go_enter Try.func41, Try.ntmps41
      go_wp2
      rw [← hw1]
      clear hw1
      go_region_held3 (fun W => W.cell? ⟨w.heap.size, 0, none⟩ = some (.string p.f0.f0) ∧ W.cell? ⟨w.heap.size, 1, none⟩ = some (.int .i64 p.f0.f1) ∧ W.cell? ⟨w.heap.size, 2, none⟩ = some (.string p.f1)) (first | exact HS4.out | exact HS3.out | exact cells3 (below_drew (Below.refl _ _)) HS.out) (first | (go_at_call 50; (with_reducible refine (HTop.out _ (below_drew HB.out)).mono ?_); rintro e w3 ⟨u3, rfl, hu3, hb3⟩; have hb3' := below_step (below_drew (Below.refl _ _)) hb3; have HB3 := Aside0.mk (HB.out.trans (hb3'.mono HB.out.size)); have HS3 := Aside0.mk (cells3 hb3' HS.out); have HU3 := Aside0.mk hu3; clear hb3 hb3' hu3) | (go_at_call 79; (with_reducible refine (HPut.out u3 _ HU3.out).mono ?_); rintro e w4 ⟨A4, c4, rfl, h4, hV4, hb4⟩; have HB4 := Aside0.mk (HB3.out.trans (hb4.mono HB3.out.size)); have HS4 := Aside0.mk (cells3 hb4 HS3.out); have HV4 := Aside0.mk hV4; clear hb4 hV4))
      obtain ⟨ad, u4, hA4, hx4, hU4⟩ := VRow.at_ HV4.out (k := 0) (by simp)
      subst hA4
      replace hx4 : w4.cell? ad = some (.iface 71 u4) := by rw [Addr.add_zero'] at hx4; exact hx4
      have HTr := Aside0.mk (tree_new (h := 0) (t := x) hU4 HX.out.1 HX.out.2 75)
      replace HTr : Aside0 (TreeOf (w4.alloc (.cells #[.iface 71 u4] 75)) l2 (.pointer (some ⟨w4.heap.size, 0, none⟩))) := HTr
      have HBr := Aside0.mk (HB4.out.alloc HB4.out.size (.cells #[.iface 71 u4] 75))
      clear hU4
      go_wp2
      go_ret
      exact ⟨_, rfl, HTr.out, HBr.out⟩
    | succ h =>
      replace HTop : Aside0 (∀ W, Below w.heap.size w W → Calls Try.prog 50 #[v] W fun e w' => ∃ u, e = .returned (.iface 84 u) ∧ RepU w' _ t u ∧ Below W.heap.size W w') := HTop
      replace HPut : Aside0 (∀ u W, RepU W _ t u → Calls Try.prog 86 #[u, .agg #[.string p.f0.f0, .int .i64 p.f0.f1, .string p.f1]] W fun e w' => ∃ A' c', e = .returned (.slice A' 1 c') ∧ 1 ≤ c' ∧ VRow w' _ A' [x] ∧ Below W.heap.size W w') := HPut
      go_enter Try.func41, Try.ntmps41
      go_wp2
      rw [← hw1]
      clear hw1
      go_region_held3 (fun W => W.cell? ⟨w.heap.size, 0, none⟩ = some (.string p.f0.f0) ∧ W.cell? ⟨w.heap.size, 1, none⟩ = some (.int .i64 p.f0.f1) ∧ W.cell? ⟨w.heap.size, 2, none⟩ = some (.string p.f1)) (first | exact HS4.out | exact HS3.out | exact cells3 (below_drew (Below.refl _ _)) HS.out) (first | (go_at_call 50; (with_reducible refine (HTop.out _ (below_drew HB.out)).mono ?_); rintro e w3 ⟨u3, rfl, hu3, hb3⟩; have hb3' := below_step (below_drew (Below.refl _ _)) hb3; have HB3 := Aside0.mk (HB.out.trans (hb3'.mono HB.out.size)); have HS3 := Aside0.mk (cells3 hb3' HS.out); have HU3 := Aside0.mk hu3; clear hb3 hb3' hu3) | (go_at_call 86; (with_reducible refine (HPut.out u3 _ HU3.out).mono ?_); rintro e w4 ⟨A4, c4, rfl, h4, hV4, hb4⟩; have HB4 := Aside0.mk (HB3.out.trans (hb4.mono HB3.out.size)); have HS4 := Aside0.mk (cells3 hb4 HS3.out); have HV4 := Aside0.mk hV4; clear hb4 hV4))
      obtain ⟨ad, u4, hA4, hx4, hU4⟩ := VRow.at_ HV4.out (k := 0) (by simp)
      subst hA4
      replace hx4 : w4.cell? ad = some (.iface 84 u4) := by rw [Addr.add_zero'] at hx4; exact hx4
      have HTr := Aside0.mk (tree_new (h := h + 1) (t := x) hU4 HX.out.1 HX.out.2 75)
      replace HTr : Aside0 (TreeOf (w4.alloc (.cells #[.iface 84 u4] 75)) l2 (.pointer (some ⟨w4.heap.size, 0, none⟩))) := HTr
      have HBr := Aside0.mk (HB4.out.alloc HB4.out.size (.cells #[.iface 84 u4] 75))
      clear hU4
      go_wp2
      go_ret
      exact ⟨_, rfl, HTr.out, HBr.out⟩
  · rw [e] at HPut
    rw [show ([x, y] : List (T h)).length = 2 from rfl] at HPut
    have hxa : allT (h + 1) ([x, y] : List (T h)) ≤ 1000000000 := by
      rw [ND.all_flat, hfx]; omega
    have HF := Aside0.mk (forks_one h [x, y] (by simp) hxa)
    replace HF : Aside0 (∀ (W : World) (A2 : Option Addr) (c2 : Nat), VRow W h A2 [x, y] → 2 ≤ c2 → Calls Try.prog 51 #[.slice A2 2 c2] W fun e w' => ∃ ad u c', e = .returned (.slice (some ad) 1 c') ∧ 1 ≤ c' ∧ w'.cell? ad = some (.iface 84 u) ∧ RepU w' (h + 1) ([x, y] : List (T h)) u ∧ Below W.heap.size W w') := HF
    have HX := Aside0.mk (And.intro hx hfx)
    clear hx hfx e hxa hpl2
    cases h with
    | zero =>
      replace HTop : Aside0 (∀ W, Below w.heap.size w W → Calls Try.prog 50 #[v] W fun e w' => ∃ u, e = .returned (.iface 71 u) ∧ RepU w' _ t u ∧ Below W.heap.size W w') := HTop
      replace HPut : Aside0 (∀ u W, RepU W _ t u → Calls Try.prog 79 #[u, .agg #[.string p.f0.f0, .int .i64 p.f0.f1, .string p.f1]] W fun e w' => ∃ A' c', e = .returned (.slice A' 2 c') ∧ 2 ≤ c' ∧ VRow w' _ A' [x, y] ∧ Below W.heap.size W w') := HPut
      go_enter Try.func41, Try.ntmps41
      go_wp2
      rw [← hw1]
      clear hw1
      go_region_held3 (fun W => W.cell? ⟨w.heap.size, 0, none⟩ = some (.string p.f0.f0) ∧ W.cell? ⟨w.heap.size, 1, none⟩ = some (.int .i64 p.f0.f1) ∧ W.cell? ⟨w.heap.size, 2, none⟩ = some (.string p.f1)) (first | exact HS4.out | exact HS3.out | exact cells3 (below_drew (Below.refl _ _)) HS.out) (first | (go_at_call 50; (with_reducible refine (HTop.out _ (below_drew HB.out)).mono ?_); rintro e w3 ⟨u3, rfl, hu3, hb3⟩; have hb3' := below_step (below_drew (Below.refl _ _)) hb3; have HB3 := Aside0.mk (HB.out.trans (hb3'.mono HB.out.size)); have HS3 := Aside0.mk (cells3 hb3' HS.out); have HU3 := Aside0.mk hu3; clear hb3 hb3' hu3) | (go_at_call 79; (with_reducible refine (HPut.out u3 _ HU3.out).mono ?_); rintro e w4 ⟨A4, c4, rfl, h4, hV4, hb4⟩; have HB4 := Aside0.mk (HB3.out.trans (hb4.mono HB3.out.size)); have HS4 := Aside0.mk (cells3 hb4 HS3.out); have HV4 := Aside0.mk hV4; clear hb4 hV4))
      go_wp2_with (first | (go_at_call 51; (with_reducible refine (HF.out _ A4 c4 HV4.out h4).mono ?_); rintro e w8 ⟨ad8, u8, c8, rfl, h8, x8, hU8, hb8⟩; have HB8 := Aside0.mk (HB4.out.trans (hb8.mono HB4.out.size)); have HTr := Aside0.mk (tree_new (h := 0 + 1) (t := ([x, y] : List (T (0)))) hU8 HX.out.1 HX.out.2 75); have HBr := Aside0.mk (HB8.out.alloc HB8.out.size (.cells #[.iface 84 u8] 75)); clear hb8 hU8))
      go_ret
      exact ⟨_, rfl, HTr.out, HBr.out⟩
    | succ h =>
      replace HTop : Aside0 (∀ W, Below w.heap.size w W → Calls Try.prog 50 #[v] W fun e w' => ∃ u, e = .returned (.iface 84 u) ∧ RepU w' _ t u ∧ Below W.heap.size W w') := HTop
      replace HPut : Aside0 (∀ u W, RepU W _ t u → Calls Try.prog 86 #[u, .agg #[.string p.f0.f0, .int .i64 p.f0.f1, .string p.f1]] W fun e w' => ∃ A' c', e = .returned (.slice A' 2 c') ∧ 2 ≤ c' ∧ VRow w' _ A' [x, y] ∧ Below W.heap.size W w') := HPut
      go_enter Try.func41, Try.ntmps41
      go_wp2
      rw [← hw1]
      clear hw1
      go_region_held3 (fun W => W.cell? ⟨w.heap.size, 0, none⟩ = some (.string p.f0.f0) ∧ W.cell? ⟨w.heap.size, 1, none⟩ = some (.int .i64 p.f0.f1) ∧ W.cell? ⟨w.heap.size, 2, none⟩ = some (.string p.f1)) (first | exact HS4.out | exact HS3.out | exact cells3 (below_drew (Below.refl _ _)) HS.out) (first | (go_at_call 50; (with_reducible refine (HTop.out _ (below_drew HB.out)).mono ?_); rintro e w3 ⟨u3, rfl, hu3, hb3⟩; have hb3' := below_step (below_drew (Below.refl _ _)) hb3; have HB3 := Aside0.mk (HB.out.trans (hb3'.mono HB.out.size)); have HS3 := Aside0.mk (cells3 hb3' HS.out); have HU3 := Aside0.mk hu3; clear hb3 hb3' hu3) | (go_at_call 86; (with_reducible refine (HPut.out u3 _ HU3.out).mono ?_); rintro e w4 ⟨A4, c4, rfl, h4, hV4, hb4⟩; have HB4 := Aside0.mk (HB3.out.trans (hb4.mono HB3.out.size)); have HS4 := Aside0.mk (cells3 hb4 HS3.out); have HV4 := Aside0.mk hV4; clear hb4 hV4))
      go_wp2_with (first | (go_at_call 51; (with_reducible refine (HF.out _ A4 c4 HV4.out h4).mono ?_); rintro e w8 ⟨ad8, u8, c8, rfl, h8, x8, hU8, hb8⟩; have HB8 := Aside0.mk (HB4.out.trans (hb8.mono HB4.out.size)); have HTr := Aside0.mk (tree_new (h := h + 1 + 1) (t := ([x, y] : List (T (h + 1)))) hU8 HX.out.1 HX.out.2 75); have HBr := Aside0.mk (HB8.out.alloc HB8.out.size (.cells #[.iface 84 u8] 75)); clear hb8 hU8))
      go_ret
      exact ⟨_, rfl, HTr.out, HBr.out⟩
end Go.Proofs.Ytoiohlmiofplcaa.P
/-
  (*Tree).Drop (chapter 10).
-/
namespace Go.Proofs.Ytoiohlmiofplcaa.P
open Go.RowKit Go.Shelf Go.Proofs.YtoiohlmiofplcaaW.PrintWords Go.Proofs.YtoiohlmiofplcaaW.PrintLast Go.Proofs.YtoiohlmiofplcaaW.PrintMore Go.Proofs.Plain
attribute [local go_sem] as71_71 as84_71 as71_84 as84_84

/-- 1 at a fork of one kid. -/
def mu (s : Value) : Nat := match s with
  | .iface 84 (.agg xs) => match xs.toList with
    | [.slice _ 1 _, _] => 1
    | _ => 0
  | _ => 0
/-- What the loop of Drop goes down through. -/
def Thin (l : List S26) (w : World) (s : Value) : Prop := ∃ (h : Nat) (t : T h) (u : Value), s = .iface (ty h) u ∧ RepU w h t u ∧ ND.Part h t ∧ sizeT h t ≤ 4 ∧ (h = 0 ∨ 1 ≤ sizeT h t) ∧ ND.Ris (ND.flatT h t) ∧ ND.flatT h t = l
theorem mu_good {h : Nat} {t : T h} {u : Value} {w : World} (hr : RepU w h t u) (hs : 2 ≤ sizeT h t) : mu (.iface (ty h) u) = 0 := by
  cases h with
  | zero => rfl
  | succ h =>
    obtain ⟨A, c, rfl, hc, hC⟩ := RepU.fork hr
    have : ∃ m, (t : List (T h)).length = m + 2 := ⟨(t : List (T h)).length - 2, by have : 2 ≤ (t : List (T h)).length := hs; omega⟩
    obtain ⟨m, hm⟩ := this
    rw [hm]
    rfl
theorem thin_drop {h : Nat} {t : T h} {k : S24} {u : Value} {w : World} (hR : Root h t) (hl : (ND.flatT h t).length ≤ 100000) (hu : RepU w h (ND.dropT h t k) u) : Thin (ND.dropL (ND.flatT h t) k) w (.iface (ty h) u) := by
  have ho := root_dropOk hR hl
  obtain ⟨h1, h2, h3, h4⟩ := ND.drop_all (k := k) ho.1 ho.2.1 ho.2.2.1 ho.2.2.2.1 hl
  refine ⟨h, _, u, rfl, hu, h2, h4, ho.2.1.imp id (fun h => by omega), ?_, h1⟩
  rw [h1]
  exact dropL_ris hR.2.2.2 hl
theorem cells2 {w W : World} (hb : Below w.heap.size w W) {a1 a2 : Addr} {v1 v2 : Value} (h : w.cell? a1 = some v1 ∧ w.cell? a2 = some v2) : W.cell? a1 = some v1 ∧ W.cell? a2 = some v2 :=
  ⟨pw_cell_below hb h.1, pw_cell_below hb h.2⟩
set_option maxHeartbeats 8000000 in
set_option maxRecDepth 100000 in
theorem tree_drop_calls (l : List S26) (v : Value) (k : S24) (w : World) (hr : TreeOf w l v) (hl : l.length ≤ 10000) :
    Calls Try.prog 42 #[v, .agg #[.string k.f0, .int .i64 k.f1]] w fun e w' => ∃ v', e = .returned v' ∧ TreeOf w' (ND.dropL l k) v' ∧ Below w.heap.size w w' := by
  obtain ⟨h, t, hT, hR, rfl⟩ := hr
  have hb0 := (Below.refl w.heap.size w).alloc (Nat.le_refl _) (.cells #[.string k.f0, .int .i64 k.f1] 24)
  have HB := Aside0.mk hb0
  obtain ⟨w1, hw1⟩ : ∃ w1, w1 = w.alloc (.cells #[.string k.f0, .int .i64 k.f1] 24) := ⟨_, rfl⟩
  have g0 := blk_new w (.cells #[.string k.f0, .int .i64 k.f1] 24)
  rw [← hw1] at HB g0
  have HS := Aside0.mk (show w1.cell? ⟨w.heap.size, 0, none⟩ = some (.string k.f0) ∧ w1.cell? ⟨w.heap.size, 1, none⟩ = some (.int .i64 k.f1) from ⟨blk_cell g0 0, blk_cell g0 1⟩)
  have HTop := Aside0.mk (fun W (hW : Below w.heap.size w W) => top_calls h t v W (hT.below hW))
  have HDr := Aside0.mk (fun u W hu => drop_calls h t u k W (root_dropOk hR (by omega)) hu)
  have HTh := Aside0.mk (fun u W hu => thin_drop (k := k) (u := u) (w := W) hR (by omega) hu)
  clear hT hb0 g0 hR hl
  generalize ND.dropL (ND.flatT h t) k = l2 at *
  cases h with
  | zero =>
    replace HTop : Aside0 (∀ W, Below w.heap.size w W → Calls Try.prog 50 #[v] W fun e w' => ∃ u, e = .returned (.iface 71 u) ∧ RepU w' _ t u ∧ Below W.heap.size W w') := HTop
    replace HDr : Aside0 (∀ u W, RepU W _ t u → Calls Try.prog 76 #[u, .agg #[.string k.f0, .int .i64 k.f1]] W fun e w' => ∃ u', e = .returned (.iface 71 u') ∧ RepU w' _ _ u' ∧ Below W.heap.size W w') := HDr
    replace HTh : Aside0 (∀ u W, RepU W _ (ND.dropT _ t k) u → Thin l2 W (.iface 71 u)) := HTh
    go_enter Try.func42, Try.ntmps42
    go_wp2
    rw [← hw1]
    clear hw1
    go_region_held3 (fun W => W.cell? ⟨w.heap.size, 0, none⟩ = some (.string k.f0) ∧ W.cell? ⟨w.heap.size, 1, none⟩ = some (.int .i64 k.f1)) (first | exact HS4.out | exact HS3.out | exact cells2 (below_drew (Below.refl _ _)) HS.out) (first | (go_at_call 50; (with_reducible refine (HTop.out _ (below_drew HB.out)).mono ?_); rintro e w3 ⟨u3, rfl, hu3, hb3⟩; have hb3' := below_step (below_drew (Below.refl _ _)) hb3; have HB3 := Aside0.mk (HB.out.trans (hb3'.mono HB.out.size)); have HS3 := Aside0.mk (cells2 hb3' HS.out); have HU3 := Aside0.mk hu3; clear hb3 hb3' hu3) | (go_at_call 76; (with_reducible refine (HDr.out u3 _ HU3.out).mono ?_); rintro e w4 ⟨u4, rfl, hu4, hb4⟩; have HB4 := Aside0.mk (HB3.out.trans (hb4.mono HB3.out.size)); have HS4 := Aside0.mk (cells2 hb4 HS3.out); have HT4 := Aside0.mk (HTh.out u4 _ hu4); clear hb4 hu4))
    go_wp2
    go_loopw [5] (fun s wr => Aside0 (Thin l2 wr s) ∧ Aside0 (Below w.heap.size w wr)) (fun s _ => mu s)
    case atStart => exact ⟨HT4, HB4⟩
    case round =>
      clear HB4 HT4 HS4 HS3 HB3 HU3 HDr HTh HTop HS HB
      obtain ⟨HT, HBr⟩ := hrel
      obtain ⟨h', t', u', e, hu, hp, h4, hs, hri, hf⟩ := HT.out
      clear HT
      cases h' with
      | zero =>
        replace e : u5 = .iface 71 u' := e
        subst e
        have hb1 := HBr.out.alloc HBr.out.size (.cells #[.slice none 0 0, .int .i64 0] 84)
        have HTr := Aside0.mk (tree_new (w := wr.alloc (.cells #[.slice none 0 0, .int .i64 0] 84)) (RepU.below ((Below.refl _ _).alloc (Nat.le_refl _) _) _ _ _ hu) ⟨hp, .inl rfl, h4, hri⟩ hf 75)
        replace HTr : Aside0 (TreeOf ((wr.alloc (.cells #[.slice none 0 0, .int .i64 0] 84)).alloc (.cells #[.iface 71 u'] 75)) l2 (.pointer (some ⟨(wr.alloc (.cells #[.slice none 0 0, .int .i64 0] 84)).heap.size, 0, none⟩))) := HTr
        rw [World.size_alloc] at HTr
        have HB1 := Aside0.mk (hb1.alloc hb1.size (.cells #[.iface 71 u'] 75))
        clear hu hp h4 hs hri hf hb1
        go_wp2
        go_ret
        exact ⟨_, rfl, HTr.out, HB1.out⟩
      | succ h' =>
        replace e : u5 = .iface 84 u' := e
        subst e
        obtain ⟨A, c, e, hc, hC⟩ := RepU.fork hu
        by_cases h2 : 2 ≤ (t' : List (T h')).length
        · subst e
          have hb1 := HBr.out.alloc HBr.out.size (.cells #[.slice A (List.length (α := T h') t') c, .int .i64 (allT (h' + 1) t' : Nat)] 84)
          have HTr := Aside0.mk (tree_new (w := wr.alloc (.cells #[.slice A (List.length (α := T h') t') c, .int .i64 (allT (h' + 1) t' : Nat)] 84)) (RepU.below ((Below.refl _ _).alloc (Nat.le_refl _) _) _ _ _ hu) ⟨hp, .inr h2, h4, hri⟩ hf 75)
          replace HTr : Aside0 (TreeOf ((wr.alloc (.cells #[.slice A (List.length (α := T h') t') c, .int .i64 (allT (h' + 1) t' : Nat)] 84)).alloc (.cells #[.iface 84 (.agg #[.slice A (List.length (α := T h') t') c, .int .i64 (allT (h' + 1) t' : Nat)])] 75)) l2 (.pointer (some ⟨(wr.alloc (.cells #[.slice A (List.length (α := T h') t') c, .int .i64 (allT (h' + 1) t' : Nat)] 84)).heap.size, 0, none⟩))) := HTr
          rw [World.size_alloc] at HTr
          have HB1 := Aside0.mk (hb1.alloc hb1.size (.cells #[.iface 84 (.agg #[.slice A (List.length (α := T h') t') c, .int .i64 (allT (h' + 1) t' : Nat)])] 75))
          have hn1 : (1 : Int) < ((List.length (α := T h') t' : Nat) : Int) := by omega
          clear hu hp h4 hs hri hf hb1 hC hc h2
          generalize List.length (α := T h') t' = nn at *
          generalize allT (h' + 1) t' = mm at *
          go_wp2
          go_ret
          exact ⟨_, rfl, HTr.out, HB1.out⟩
        · have h1 : (t' : List (T h')).length = 1 := by
            have := hs.resolve_left (by omega)
            have : 1 ≤ (t' : List (T h')).length := this
            omega
          obtain ⟨y, rfl⟩ : ∃ y : T h', t' = ([y] : List (T h')) := List.length_eq_one_iff.1 h1
          obtain ⟨ad, uy, hA, hx, hU⟩ := VRow.at_ hC (k := 0) (by simp)
          subst hA
          rw [Addr.add_zero'] at hx
          have hy := (ND.part_cons.1 hp).1
          have e2 : u' = .agg #[.slice (some ad) 1 c, .int .i64 (allT (h' + 1) ([y] : List (T h')) : Nat)] := e
          have hfy : ND.flatT h' y = l2 := by rw [← hf, ND.flat_cons, ND.flat_nil, List.append_nil]
          have hb1 := HBr.out.alloc HBr.out.size (.cells #[.slice (some ad) 1 c, .int .i64 (allT (h' + 1) ([y] : List (T h')) : Nat)] 84)
          have HB1 := Aside0.mk hb1
          have HT1 := Aside0.mk (show Thin l2 (wr.alloc (.cells #[.slice (some ad) 1 c, .int .i64 (allT (h' + 1) ([y] : List (T h')) : Nat)] 84)) (.iface (ty h') uy) from
            ⟨h', y, uy, rfl, RepU.below ((Below.refl _ _).alloc (Nat.le_refl _) _) _ _ _ hU, hy.1, hy.2.2, .inr (by have := hy.2.1; omega), by rw [hfy, ← hf]; exact hri, hfy⟩)
          have HMu := Aside0.mk (mu_good hU hy.2.1)
          clear e hu hp h4 hs hri hf hC h1 h2 hU hy hfy hb1
          subst e2
          have hmu1 : ∀ b : Nat, mu (.iface 84 (.agg #[.slice (some ad) 1 c, .int .i64 (b : Nat)])) = 1 := fun _ => rfl
          generalize allT (h' + 1) ([y] : List (T h')) = mm at *
          have HMu1 := Aside0.mk (hmu1 mm)
          clear hmu1
          cases h' with
          | zero =>
            replace hx : (wr.alloc (.cells #[.slice (some ad) 1 c, .int .i64 (mm : Nat)] 84)).cell? ad = some (.iface 71 uy) := pw_cell_below ((Below.refl _ _).alloc (Nat.le_refl _) _) hx
            replace HMu : Aside0 (mu (.iface 71 uy) = 0) := HMu
            replace HT1 : Aside0 (Thin l2 _ (.iface 71 uy)) := HT1
            go_wp2
            go_roundw
            case rel => exact ⟨HT1, HB1⟩
            case measure => exact (by rw [HMu.out, HMu1.out]; omega)
          | succ h' =>
            replace hx : (wr.alloc (.cells #[.slice (some ad) 1 c, .int .i64 (mm : Nat)] 84)).cell? ad = some (.iface 84 uy) := pw_cell_below ((Below.refl _ _).alloc (Nat.le_refl _) _) hx
            replace HMu : Aside0 (mu (.iface 84 uy) = 0) := HMu
            replace HT1 : Aside0 (Thin l2 _ (.iface 84 uy)) := HT1
            go_wp2
            go_roundw
            case rel => exact ⟨HT1, HB1⟩
            case measure => exact (by rw [HMu.out, HMu1.out]; omega)
  | succ h =>
    replace HTop : Aside0 (∀ W, Below w.heap.size w W → Calls Try.prog 50 #[v] W fun e w' => ∃ u, e = .returned (.iface 84 u) ∧ RepU w' _ t u ∧ Below W.heap.size W w') := HTop
    replace HDr : Aside0 (∀ u W, RepU W _ t u → Calls Try.prog 83 #[u, .agg #[.string k.f0, .int .i64 k.f1]] W fun e w' => ∃ u', e = .returned (.iface 84 u') ∧ RepU w' _ _ u' ∧ Below W.heap.size W w') := HDr
    replace HTh : Aside0 (∀ u W, RepU W _ (ND.dropT _ t k) u → Thin l2 W (.iface 84 u)) := HTh
    go_enter Try.func42, Try.ntmps42
    go_wp2
    rw [← hw1]
    clear hw1
    go_region_held3 (fun W => W.cell? ⟨w.heap.size, 0, none⟩ = some (.string k.f0) ∧ W.cell? ⟨w.heap.size, 1, none⟩ = some (.int .i64 k.f1)) (first | exact HS4.out | exact HS3.out | exact cells2 (below_drew (Below.refl _ _)) HS.out) (first | (go_at_call 50; (with_reducible refine (HTop.out _ (below_drew HB.out)).mono ?_); rintro e w3 ⟨u3, rfl, hu3, hb3⟩; have hb3' := below_step (below_drew (Below.refl _ _)) hb3; have HB3 := Aside0.mk (HB.out.trans (hb3'.mono HB.out.size)); have HS3 := Aside0.mk (cells2 hb3' HS.out); have HU3 := Aside0.mk hu3; clear hb3 hb3' hu3) | (go_at_call 83; (with_reducible refine (HDr.out u3 _ HU3.out).mono ?_); rintro e w4 ⟨u4, rfl, hu4, hb4⟩; have HB4 := Aside0.mk (HB3.out.trans (hb4.mono HB3.out.size)); have HS4 := Aside0.mk (cells2 hb4 HS3.out); have HT4 := Aside0.mk (HTh.out u4 _ hu4); clear hb4 hu4))
    go_wp2
    go_loopw [5] (fun s wr => Aside0 (Thin l2 wr s) ∧ Aside0 (Below w.heap.size w wr)) (fun s _ => mu s)
    case atStart => exact ⟨HT4, HB4⟩
    case round =>
      clear HB4 HT4 HS4 HS3 HB3 HU3 HDr HTh HTop HS HB
      obtain ⟨HT, HBr⟩ := hrel
      obtain ⟨h', t', u', e, hu, hp, h4, hs, hri, hf⟩ := HT.out
      clear HT
      cases h' with
      | zero =>
        replace e : u5 = .iface 71 u' := e
        subst e
        have hb1 := HBr.out.alloc HBr.out.size (.cells #[.slice none 0 0, .int .i64 0] 84)
        have HTr := Aside0.mk (tree_new (w := wr.alloc (.cells #[.slice none 0 0, .int .i64 0] 84)) (RepU.below ((Below.refl _ _).alloc (Nat.le_refl _) _) _ _ _ hu) ⟨hp, .inl rfl, h4, hri⟩ hf 75)
        replace HTr : Aside0 (TreeOf ((wr.alloc (.cells #[.slice none 0 0, .int .i64 0] 84)).alloc (.cells #[.iface 71 u'] 75)) l2 (.pointer (some ⟨(wr.alloc (.cells #[.slice none 0 0, .int .i64 0] 84)).heap.size, 0, none⟩))) := HTr
        rw [World.size_alloc] at HTr
        have HB1 := Aside0.mk (hb1.alloc hb1.size (.cells #[.iface 71 u'] 75))
        clear hu hp h4 hs hri hf hb1
        go_wp2
        go_ret
        exact ⟨_, rfl, HTr.out, HB1.out⟩
      | succ h' =>
        replace e : u5 = .iface 84 u' := e
        subst e
        obtain ⟨A, c, e, hc, hC⟩ := RepU.fork hu
        by_cases h2 : 2 ≤ (t' : List (T h')).length
        · subst e
          have hb1 := HBr.out.alloc HBr.out.size (.cells #[.slice A (List.length (α := T h') t') c, .int .i64 (allT (h' + 1) t' : Nat)] 84)
          have HTr := Aside0.mk (tree_new (w := wr.alloc (.cells #[.slice A (List.length (α := T h') t') c, .int .i64 (allT (h' + 1) t' : Nat)] 84)) (RepU.below ((Below.refl _ _).alloc (Nat.le_refl _) _) _ _ _ hu) ⟨hp, .inr h2, h4, hri⟩ hf 75)
          replace HTr : Aside0 (TreeOf ((wr.alloc (.cells #[.slice A (List.length (α := T h') t') c, .int .i64 (allT (h' + 1) t' : Nat)] 84)).alloc (.cells #[.iface 84 (.agg #[.slice A (List.length (α := T h') t') c, .int .i64 (allT (h' + 1) t' : Nat)])] 75)) l2 (.pointer (some ⟨(wr.alloc (.cells #[.slice A (List.length (α := T h') t') c, .int .i64 (allT (h' + 1) t' : Nat)] 84)).heap.size, 0, none⟩))) := HTr
          rw [World.size_alloc] at HTr
          have HB1 := Aside0.mk (hb1.alloc hb1.size (.cells #[.iface 84 (.agg #[.slice A (List.length (α := T h') t') c, .int .i64 (allT (h' + 1) t' : Nat)])] 75))
          have hn1 : (1 : Int) < ((List.length (α := T h') t' : Nat) : Int) := by omega
          clear hu hp h4 hs hri hf hb1 hC hc h2
          generalize List.length (α := T h') t' = nn at *
          generalize allT (h' + 1) t' = mm at *
          go_wp2
          go_ret
          exact ⟨_, rfl, HTr.out, HB1.out⟩
        · have h1 : (t' : List (T h')).length = 1 := by
            have := hs.resolve_left (by omega)
            have : 1 ≤ (t' : List (T h')).length := this
            omega
          obtain ⟨y, rfl⟩ : ∃ y : T h', t' = ([y] : List (T h')) := List.length_eq_one_iff.1 h1
          obtain ⟨ad, uy, hA, hx, hU⟩ := VRow.at_ hC (k := 0) (by simp)
          subst hA
          rw [Addr.add_zero'] at hx
          have hy := (ND.part_cons.1 hp).1
          have e2 : u' = .agg #[.slice (some ad) 1 c, .int .i64 (allT (h' + 1) ([y] : List (T h')) : Nat)] := e
          have hfy : ND.flatT h' y = l2 := by rw [← hf, ND.flat_cons, ND.flat_nil, List.append_nil]
          have hb1 := HBr.out.alloc HBr.out.size (.cells #[.slice (some ad) 1 c, .int .i64 (allT (h' + 1) ([y] : List (T h')) : Nat)] 84)
          have HB1 := Aside0.mk hb1
          have HT1 := Aside0.mk (show Thin l2 (wr.alloc (.cells #[.slice (some ad) 1 c, .int .i64 (allT (h' + 1) ([y] : List (T h')) : Nat)] 84)) (.iface (ty h') uy) from
            ⟨h', y, uy, rfl, RepU.below ((Below.refl _ _).alloc (Nat.le_refl _) _) _ _ _ hU, hy.1, hy.2.2, .inr (by have := hy.2.1; omega), by rw [hfy, ← hf]; exact hri, hfy⟩)
          have HMu := Aside0.mk (mu_good hU hy.2.1)
          clear e hu hp h4 hs hri hf hC h1 h2 hU hy hfy hb1
          subst e2
          have hmu1 : ∀ b : Nat, mu (.iface 84 (.agg #[.slice (some ad) 1 c, .int .i64 (b : Nat)])) = 1 := fun _ => rfl
          generalize allT (h' + 1) ([y] : List (T h')) = mm at *
          have HMu1 := Aside0.mk (hmu1 mm)
          clear hmu1
          cases h' with
          | zero =>
            replace hx : (wr.alloc (.cells #[.slice (some ad) 1 c, .int .i64 (mm : Nat)] 84)).cell? ad = some (.iface 71 uy) := pw_cell_below ((Below.refl _ _).alloc (Nat.le_refl _) _) hx
            replace HMu : Aside0 (mu (.iface 71 uy) = 0) := HMu
            replace HT1 : Aside0 (Thin l2 _ (.iface 71 uy)) := HT1
            go_wp2
            go_roundw
            case rel => exact ⟨HT1, HB1⟩
            case measure => exact (by rw [HMu.out, HMu1.out]; omega)
          | succ h' =>
            replace hx : (wr.alloc (.cells #[.slice (some ad) 1 c, .int .i64 (mm : Nat)] 84)).cell? ad = some (.iface 84 uy) := pw_cell_below ((Below.refl _ _).alloc (Nat.le_refl _) _) hx
            replace HMu : Aside0 (mu (.iface 84 uy) = 0) := HMu
            replace HT1 : Aside0 (Thin l2 _ (.iface 84 uy)) := HT1
            go_wp2
            go_roundw
            case rel => exact ⟨HT1, HB1⟩
            case measure => exact (by rw [HMu.out, HMu1.out]; omega)
end Go.Proofs.Ytoiohlmiofplcaa.P
/-
  (*Tree).From (chapter 10).
-/
namespace Go.Proofs.Ytoiohlmiofplcaa.P
open Go.RowKit Go.Shelf Go.Proofs.YtoiohlmiofplcaaW.PrintWords Go.Proofs.YtoiohlmiofplcaaW.PrintLast Go.Proofs.YtoiohlmiofplcaaW.PrintMore Go.Proofs.Plain

theorem top_at (h : Nat) (t : T h) (v : Value) (w : World) (hr : TreeRep w h t v) (W : World) (hW : Below w.heap.size w W) : Calls Try.prog 50 #[v] W fun e w' => ∃ u, e = .returned (.iface (ty h) u) ∧ RepU w h t u ∧ Below W.heap.size W w' := by
  rcases hr with ⟨rfl, rfl, h0⟩ | ⟨b, u, rfl, hc, hu⟩
  · obtain rfl : t = ([] : List S26) := List.eq_nil_of_length_eq_zero h0
    have HT := Aside0.mk (show RepU w 0 ([] : List S26) (.slice none 0 0) from ⟨none, 0, rfl, Nat.le_refl _, Kd.C_nil k26 _⟩)
    clear h0
    show Calls Try.prog 50 _ W fun e w' => ∃ u, e = .returned (.iface 71 u) ∧ _ ∧ _
    go_enter Try.func50, Try.ntmps50
    go_wp2
    go_ret
    exact ⟨_, rfl, HT.out, Below.refl _ _⟩
  · have HU := Aside0.mk hu
    have hc := pw_cell_below hW hc
    clear hu
    cases h with
    | zero =>
      replace hc : W.cell? ⟨b, 0, none⟩ = some (.iface 71 u) := hc
      show Calls Try.prog 50 _ W fun e w' => ∃ u, e = .returned (.iface 71 u) ∧ _ ∧ _
      go_enter Try.func50, Try.ntmps50
      go_wp2
      go_ret
      exact ⟨_, rfl, HU.out, Below.refl _ _⟩
    | succ h =>
      replace hc : W.cell? ⟨b, 0, none⟩ = some (.iface 84 u) := hc
      show Calls Try.prog 50 _ W fun e w' => ∃ u, e = .returned (.iface 84 u) ∧ _ ∧ _
      go_enter Try.func50, Try.ntmps50
      go_wp2
      go_ret
      exact ⟨_, rfl, HU.out, Below.refl _ _⟩
/-- The first n pairs from a key on. -/
def fromV (l : List S26) (k : S24) (n : Int) : List S26 := (ND.fromL l k).take n.toNat
theorem root_ne {h : Nat} {t : T h} (hR : Root h t) : h = 0 ∨ NE h t := hR.2.1.imp id (fun h => ND.ne_of hR.1 (by omega))
theorem from_root {h : Nat} {t : T h} {k : S24} {n : Int} {r : Nat} (hR : Root h t) (hr : (r : Int) = min (max n 0) (((ND.flatT h t).length : Nat) : Int)) : ND.fromT h t k [] r = fromV (ND.flatT h t) k n := by
  have h1 : ND.fromT h t k [] r = [] ++ (ND.fromL (ND.flatT h t) k).take (r - ([] : List S26).length) := by
    rcases root_ne hR with h0 | hne
    · subst h0; rfl
    · exact ND.from_flat hne hR.2.2.2
  rw [h1, List.nil_append]
  unfold fromV
  have hlen : (ND.fromL (ND.flatT h t) k).length ≤ (ND.flatT h t).length := (List.dropWhile_sublist _).length_le
  rw [show r - ([] : List S26).length = r from rfl]
  by_cases hc : n.toNat ≤ (ND.flatT h t).length
  · rw [show r = n.toNat by omega]
  · rw [List.take_of_length_le (by omega), List.take_of_length_le (by omega)]
theorem na71 (u : Value) (W : World) : (nilAhead 227 71 u "sexton/tree.from").run Try.prog W = .ok (some false) W := by kernel_rfl
theorem na84 (u : Value) (W : World) : (nilAhead 227 84 u "sexton/tree.from").run Try.prog W = .ok (some false) W := by kernel_rfl
theorem blk2 {W : World} {g : Nat} {a : ByteArray} {b : Int} (h : W.heap[g]? = some (.cells #[.string a, .int .i64 b] 24 (0, 0))) : W.cell? ⟨g, 0, none⟩ = some (.string a) ∧ W.cell? ⟨g, 1, none⟩ = some (.int .i64 b) := ⟨blk_cell h 0, blk_cell h 1⟩
attribute [local go_sem] na71 na84
attribute [local go_sem] max2_int min2_int max_two min_two
set_option maxHeartbeats 8000000 in
set_option maxRecDepth 100000 in
theorem tree_from_calls (l : List S26) (v : Value) (k : S24) (n : Int) (w : World) (hr : TreeOf w l v) (hl : l.length ≤ 10000) :
    Calls Try.prog 39 #[v, .agg #[.string k.f0, .int .i64 k.f1], .int .i64 n] w fun e w' => ∃ v', e = .returned v' ∧ Kd.R k26 26 w' w.heap.size (fun _ => True) v' (fromV l k n) ∧ Below w.heap.size w w' := by
  have hTO := hr
  obtain ⟨h, t, hT, hR, rfl⟩ := hr
  have hb0 := (Below.refl w.heap.size w).alloc (Nat.le_refl _) (.cells #[.string k.f0, .int .i64 k.f1] 24)
  have HB := Aside0.mk hb0
  obtain ⟨w1, hw1⟩ : ∃ w1, w1 = w.alloc (.cells #[.string k.f0, .int .i64 k.f1] 24) := ⟨_, rfl⟩
  have g0 := blk_new w (.cells #[.string k.f0, .int .i64 k.f1] 24)
  rw [← hw1] at HB g0
  have HS := Aside0.mk (show w1.cell? ⟨w.heap.size, 0, none⟩ = some (.string k.f0) ∧ w1.cell? ⟨w.heap.size, 1, none⟩ = some (.int .i64 k.f1) from ⟨blk_cell g0 0, blk_cell g0 1⟩)
  obtain ⟨L, hL⟩ : ∃ L, L = (ND.flatT h t).length := ⟨_, rfl⟩
  obtain ⟨n2, hn2⟩ : ∃ n2, n2 = max n 0 := ⟨_, rfl⟩
  obtain ⟨r, hr⟩ : ∃ r : Nat, (r : Int) = min n2 (L : Int) := ⟨(min n2 (L : Int)).toNat, by omega⟩
  have hmx : (if n < 0 then 0 else n) = n2 := by rw [hn2]; split <;> omega
  have hmn : (if (L : Int) < n2 then (L : Int) else n2) = (r : Int) := by rw [hr]; split <;> omega
  have HRes := Aside0.mk (from_root (k := k) (n := n) (r := r) hR (by rw [hr, hn2, hL]))
  have HTop := Aside0.mk (fun W (hW : Below w.heap.size w W) => top_at h t v w hT W hW)
  have HLen := Aside0.mk (fun W (hW : Below w.heap.size w W) => len_calls (ND.flatT h t) v W (hTO.below hW))
  rw [← hL] at HLen
  have HFr := Aside0.mk (fun u (hu : RepU w h t u) => from_calls h t u k r w.heap.size w (root_ne hR) hu (Nat.le_refl _) (by omega))
  have hfl : ([] : List S26).length + (ND.flatT h t).length ≤ 1000000 := by simp; omega
  have HCl := Aside0.mk (fun u W (hu : RepU w h t u) (hW : Below w.heap.size w W) => HFr.out u hu W (.slice none 0 0) [] hW hW.size (Kd.R_nil _ _ _ _ _) hfl)
  rw [HRes.out] at HCl
  have HG := Aside0.mk g0
  clear hT hb0 g0 hR hl hL hn2 hr HRes HFr hTO hfl
  generalize fromV (ND.flatT h t) k n = res at *
  cases h with
  | zero =>
    replace HTop : Aside0 (∀ W, Below w.heap.size w W → Calls Try.prog 50 #[v] W fun e w' => ∃ u, e = .returned (.iface 71 u) ∧ RepU w _ t u ∧ Below W.heap.size W w') := HTop
    replace HCl : Aside0 (∀ u W, RepU w _ t u → Below w.heap.size w W → Calls Try.prog 78 #[u, .agg #[.string k.f0, .int .i64 k.f1], .slice none 0 0, .int .i64 (r : Nat)] W fun e w' => ∃ v', e = .returned v' ∧ Kd.R k26 26 w' w.heap.size (fun _ => True) v' res ∧ Below w.heap.size W w' ∧ Keeps (.slice none 0 0) W w' ∧ OwnAt W (.slice none 0 0) v') := HCl
    go_enter Try.func39, Try.ntmps39
    go_wp2
    rw [← hw1]
    clear hw1
    go_region_held3 (fun W => W.cell? ⟨w.heap.size, 0, none⟩ = some (.string k.f0) ∧ W.cell? ⟨w.heap.size, 1, none⟩ = some (.int .i64 k.f1)) (first | exact HSf.out | exact HSa.out | exact HSb.out | exact cells2 (below_drew (Below.refl _ _)) HS.out) (first
      | (go_at_call 50; (with_reducible refine (HTop.out _ (by first | exact HBb.out | exact below_drew HB.out)).mono ?_); rintro e w3 ⟨u3, rfl, hu3, hb3⟩; have HBa := Aside0.mk (show Below w.heap.size w w3 from by first | exact HBb.out.trans (hb3.mono HBb.out.size) | exact (below_drew HB.out).trans (hb3.mono HB.out.size)); have HSa := Aside0.mk (show w3.cell? ⟨w.heap.size, 0, none⟩ = some (.string k.f0) ∧ w3.cell? ⟨w.heap.size, 1, none⟩ = some (.int .i64 k.f1) from by first | exact cells2 hb3 HSb.out | exact cells2 hb3 (cells2 (below_drew (Below.refl _ _)) HS.out)); have HGa := Aside0.mk (show w3.heap[w.heap.size]? = some (.cells #[.string k.f0, .int .i64 k.f1] 24 (0, 0)) from by first | exact blk_below HGb.out hb3 | exact blk_below (blk_drew HG.out) hb3); have HU3 := Aside0.mk hu3; clear hb3 hu3)
      | (go_at_call 36; (with_reducible refine (HLen.out _ (by first | exact HBa.out | exact below_drew HB.out)).mono ?_); rintro e w4 ⟨rfl, hb4⟩; have HBb := Aside0.mk (show Below w.heap.size w w4 from by first | exact HBa.out.trans (hb4.mono HBa.out.size) | exact (below_drew HB.out).trans (hb4.mono HB.out.size)); have HSb := Aside0.mk (show w4.cell? ⟨w.heap.size, 0, none⟩ = some (.string k.f0) ∧ w4.cell? ⟨w.heap.size, 1, none⟩ = some (.int .i64 k.f1) from by first | exact cells2 hb4 HSa.out | exact cells2 hb4 (cells2 (below_drew (Below.refl _ _)) HS.out)); have HGb := Aside0.mk (show w4.heap[w.heap.size]? = some (.cells #[.string k.f0, .int .i64 k.f1] 24 (0, 0)) from by first | exact blk_below HGa.out hb4 | exact blk_below (blk_drew HG.out) hb4); clear hb4)
      | (go_at_call 78; (with_reducible refine (HCl.out u3 _ HU3.out (by first | exact HBb.out | exact HBa.out)).mono ?_); rintro e w5 ⟨v5, rfl, ho5, hb5, hk5, ha5⟩; have HBf := Aside0.mk (show Below w.heap.size w w5 from by first | exact HBb.out.trans hb5 | exact HBa.out.trans hb5); have HSf := Aside0.mk (show w5.cell? ⟨w.heap.size, 0, none⟩ = some (.string k.f0) ∧ w5.cell? ⟨w.heap.size, 1, none⟩ = some (.int .i64 k.f1) from by first | exact blk2 (hk5.2 _ _ HGb.out (by simp [Value.ownBlock])) | exact blk2 (hk5.2 _ _ HGa.out (by simp [Value.ownBlock]))); have HO5 := Aside0.mk ho5; clear ho5 hb5 hk5 ha5))
    all_goals go_wp2
    all_goals go_ret
    all_goals exact ⟨_, rfl, HO5.out, HBf.out⟩
  | succ h =>
    replace HTop : Aside0 (∀ W, Below w.heap.size w W → Calls Try.prog 50 #[v] W fun e w' => ∃ u, e = .returned (.iface 84 u) ∧ RepU w _ t u ∧ Below W.heap.size W w') := HTop
    replace HCl : Aside0 (∀ u W, RepU w _ t u → Below w.heap.size w W → Calls Try.prog 85 #[u, .agg #[.string k.f0, .int .i64 k.f1], .slice none 0 0, .int .i64 (r : Nat)] W fun e w' => ∃ v', e = .returned v' ∧ Kd.R k26 26 w' w.heap.size (fun _ => True) v' res ∧ Below w.heap.size W w' ∧ Keeps (.slice none 0 0) W w' ∧ OwnAt W (.slice none 0 0) v') := HCl
    go_enter Try.func39, Try.ntmps39
    go_wp2
    rw [← hw1]
    clear hw1
    go_region_held3 (fun W => W.cell? ⟨w.heap.size, 0, none⟩ = some (.string k.f0) ∧ W.cell? ⟨w.heap.size, 1, none⟩ = some (.int .i64 k.f1)) (first | exact HSf.out | exact HSa.out | exact HSb.out | exact cells2 (below_drew (Below.refl _ _)) HS.out) (first
      | (go_at_call 50; (with_reducible refine (HTop.out _ (by first | exact HBb.out | exact below_drew HB.out)).mono ?_); rintro e w3 ⟨u3, rfl, hu3, hb3⟩; have HBa := Aside0.mk (show Below w.heap.size w w3 from by first | exact HBb.out.trans (hb3.mono HBb.out.size) | exact (below_drew HB.out).trans (hb3.mono HB.out.size)); have HSa := Aside0.mk (show w3.cell? ⟨w.heap.size, 0, none⟩ = some (.string k.f0) ∧ w3.cell? ⟨w.heap.size, 1, none⟩ = some (.int .i64 k.f1) from by first | exact cells2 hb3 HSb.out | exact cells2 hb3 (cells2 (below_drew (Below.refl _ _)) HS.out)); have HGa := Aside0.mk (show w3.heap[w.heap.size]? = some (.cells #[.string k.f0, .int .i64 k.f1] 24 (0, 0)) from by first | exact blk_below HGb.out hb3 | exact blk_below (blk_drew HG.out) hb3); have HU3 := Aside0.mk hu3; clear hb3 hu3)
      | (go_at_call 36; (with_reducible refine (HLen.out _ (by first | exact HBa.out | exact below_drew HB.out)).mono ?_); rintro e w4 ⟨rfl, hb4⟩; have HBb := Aside0.mk (show Below w.heap.size w w4 from by first | exact HBa.out.trans (hb4.mono HBa.out.size) | exact (below_drew HB.out).trans (hb4.mono HB.out.size)); have HSb := Aside0.mk (show w4.cell? ⟨w.heap.size, 0, none⟩ = some (.string k.f0) ∧ w4.cell? ⟨w.heap.size, 1, none⟩ = some (.int .i64 k.f1) from by first | exact cells2 hb4 HSa.out | exact cells2 hb4 (cells2 (below_drew (Below.refl _ _)) HS.out)); have HGb := Aside0.mk (show w4.heap[w.heap.size]? = some (.cells #[.string k.f0, .int .i64 k.f1] 24 (0, 0)) from by first | exact blk_below HGa.out hb4 | exact blk_below (blk_drew HG.out) hb4); clear hb4)
      | (go_at_call 85; (with_reducible refine (HCl.out u3 _ HU3.out (by first | exact HBb.out | exact HBa.out)).mono ?_); rintro e w5 ⟨v5, rfl, ho5, hb5, hk5, ha5⟩; have HBf := Aside0.mk (show Below w.heap.size w w5 from by first | exact HBb.out.trans hb5 | exact HBa.out.trans hb5); have HSf := Aside0.mk (show w5.cell? ⟨w.heap.size, 0, none⟩ = some (.string k.f0) ∧ w5.cell? ⟨w.heap.size, 1, none⟩ = some (.int .i64 k.f1) from by first | exact blk2 (hk5.2 _ _ HGb.out (by simp [Value.ownBlock])) | exact blk2 (hk5.2 _ _ HGa.out (by simp [Value.ownBlock]))); have HO5 := Aside0.mk ho5; clear ho5 hb5 hk5 ha5))
    all_goals go_wp2
    all_goals go_ret
    all_goals exact ⟨_, rfl, HO5.out, HBf.out⟩
end Go.Proofs.Ytoiohlmiofplcaa.P
