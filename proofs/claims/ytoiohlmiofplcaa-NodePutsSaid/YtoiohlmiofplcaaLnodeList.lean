/-
  Pairs that rise, told plainly: the order of keys, where a key stands, and what Find, Put, Drop, Split, Level, Is and Same make of a row.
-/
import Derived.Lib.Strings
import Derived.Test.YtoiohlmiofplcaaWMore
import Derived.Test.YtoiohlmiofplcaaHnodeFind
import Derived.Test.YtoiohlmiofplcaaFnodePut
import Derived.Test.YtoiohlmiofplcaaFnodeDrop
import Derived.Test.YtoiohlmiofplcaaFnodeLevel
import Derived.Test.YtoiohlmiofplcaaFnodeIs
import Derived.Test.YtoiohlmiofplcaaFsextonref09Same
namespace Go.Proofs.Ytoiohlmiofplcaa.ND
open Go.RowKit Go.Proofs.YtoiohlmiofplcaaW.PrintWords Go.Proofs.YtoiohlmiofplcaaW.PrintLast Go.Proofs.Ytoiohlmiofplcaa.P Go.Proofs.Plain

abbrev KV := S26
abbrev KY := S24
theorem bl_irrefl : ∀ x : List UInt8, Op.bytesLess x x = false
  | [] => rfl
  | a :: x => by simp [Op.bytesLess, bl_irrefl x]
theorem bl_trans : ∀ {x y z : List UInt8}, Op.bytesLess x y = true → Op.bytesLess y z = true → Op.bytesLess x z = true
  | _, _, [], _, h => by cases ‹List UInt8› <;> simp [Op.bytesLess] at h
  | _, [], _ :: _, h, _ => by cases ‹List UInt8› <;> simp [Op.bytesLess] at h
  | [], _ :: _, _ :: _, _, _ => rfl
  | a :: x, b :: y, c :: z, h1, h2 => by
    simp only [Op.bytesLess, Bool.or_eq_true, Bool.and_eq_true, decide_eq_true_eq, beq_iff_eq] at h1 h2 ⊢
    rcases h1 with h1 | ⟨rfl, h1⟩
    · rcases h2 with h2 | ⟨rfl, h2⟩
      · exact .inl (UInt8.lt_trans h1 h2)
      · exact .inl h1
    · rcases h2 with h2 | ⟨rfl, h2⟩
      · exact .inl h2
      · exact .inr ⟨rfl, bl_trans h1 h2⟩
theorem bl_total : ∀ {x y : List UInt8}, Op.bytesLess x y = false → Op.bytesLess y x = false → x = y
  | [], [], _, _ => rfl
  | [], _ :: _, h, _ => by simp [Op.bytesLess] at h
  | _ :: _, [], _, h => by simp [Op.bytesLess] at h
  | a :: x, b :: y, h1, h2 => by
    simp only [Op.bytesLess, Bool.or_eq_false_iff, Bool.and_eq_false_iff, decide_eq_false_iff_not, beq_eq_false_iff_ne] at h1 h2
    have hab : a = b := by
      have e1 := h1.1
      have e2 := h2.1
      exact UInt8.le_antisymm (UInt8.not_lt.1 e2) (UInt8.not_lt.1 e1)
    subst hab
    rcases h1.2 with h | h
    · exact absurd rfl h
    · rcases h2.2 with h' | h'
      · exact absurd rfl h'
      · rw [bl_total h h']
theorem tl_inj {a b : ByteArray} (h : a.toList = b.toList) : a = b := by
  rw [ByteArray.toList_eq, ByteArray.toList_eq] at h
  cases a; cases b
  congr
  exact Array.toList_inj.1 h

/-- Whether a key is ahead of another one. -/
def lt (x y : KY) : Bool := lessK x.f0 x.f1 y.f0 y.f1
theorem lt_iff (x y : KY) : lt x y = true ↔ (Op.bytesLess x.f0.toList y.f0.toList = true ∨ (x.f0.toList = y.f0.toList ∧ y.f1 < x.f1)) := by
  unfold lt lessK
  by_cases h : Op.bytesLess x.f0.toList y.f0.toList = true
  · simp [h]
  · rw [if_neg h]
    by_cases h2 : x.f0.toList = y.f0.toList
    · rw [if_pos h2]; simp [h2, h]
      intro h3; rw [h2, bl_irrefl] at *; simp at *
    · rw [if_neg h2]; simp [h, h2]
theorem lt_irrefl (x : KY) : lt x x = false := by
  rw [Bool.eq_false_iff]
  intro h
  rcases (lt_iff x x).1 h with h | h
  · rw [bl_irrefl] at h; cases h
  · omega
theorem lt_trans {x y z : KY} (h1 : lt x y = true) (h2 : lt y z = true) : lt x z = true := by
  rw [lt_iff] at *
  rcases h1 with h1 | ⟨e1, h1⟩
  · rcases h2 with h2 | ⟨e2, h2⟩
    · exact .inl (bl_trans h1 h2)
    · exact .inl (by rw [← e2]; exact h1)
  · rcases h2 with h2 | ⟨e2, h2⟩
    · exact .inl (by rw [e1]; exact h2)
    · exact .inr ⟨by rw [e1, e2], by omega⟩
theorem lt_total {x y : KY} (h1 : lt x y = false) (h2 : lt y x = false) : x = y := by
  have n1 : ¬ (lt x y = true) := by rw [h1]; decide
  have n2 : ¬ (lt y x = true) := by rw [h2]; decide
  rw [lt_iff] at n1 n2
  have e1 : Op.bytesLess x.f0.toList y.f0.toList = false := by
    rw [Bool.eq_false_iff]; exact fun h => n1 (.inl h)
  have e2 : Op.bytesLess y.f0.toList x.f0.toList = false := by
    rw [Bool.eq_false_iff]; exact fun h => n2 (.inl h)
  have e := bl_total e1 e2
  have h3 : ¬ y.f1 < x.f1 := fun h => n1 (.inr ⟨e, h⟩)
  have h4 : ¬ x.f1 < y.f1 := fun h => n2 (.inr ⟨e.symm, h⟩)
  cases x; cases y
  simp only at *
  rw [tl_inj e, show _ = _ from Int.le_antisymm (Int.not_lt.1 h3) (Int.not_lt.1 h4)]
theorem lt_ne {x y : KY} (h : lt x y = true) : x ≠ y := by
  rintro rfl; rw [lt_irrefl] at h; cases h
theorem lt_asymm {x y : KY} (h : lt x y = true) : lt y x = false := by
  rw [Bool.eq_false_iff]; intro h2; have := lt_trans h h2; rw [lt_irrefl] at this; cases this
theorem lt_of_not {x y : KY} (h : lt x y = false) (hn : x ≠ y) : lt y x = true := by
  cases h2 : lt y x with
  | true => rfl
  | false => exact absurd (lt_total h h2) hn
theorem eqK_iff (x : KV) (k : KY) : eqK x k.f0 k.f1 = true ↔ x.f0 = k := by
  unfold eqK
  simp only [Bool.and_eq_true, beq_iff_eq]
  obtain ⟨⟨p, a⟩, v⟩ := x
  obtain ⟨q, b⟩ := k
  simp only [S24.mk.injEq]
  exact ⟨fun h => ⟨tl_inj h.1, h.2⟩, fun h => ⟨by rw [h.1], h.2⟩⟩
theorem eqK_no {x : KV} {k : KY} (h : x.f0 ≠ k) : eqK x k.f0 k.f1 = false := by
  rw [Bool.eq_false_iff]; exact fun e => h ((eqK_iff x k).1 e)

/-- A row taken apart at a key: what is ahead, the pair of that key (or none), what is behind. -/
structure Dec (l : List KV) (k : KY) (A M C : List KV) : Prop where
  eq : l = A ++ (M ++ C)
  ahead : ∀ x ∈ A, lt x.f0 k = true
  mid : M = [] ∨ ∃ m, M = [m] ∧ m.f0 = k
  behind : M = [] → ∀ x C', C = x :: C' → lt x.f0 k = false ∧ x.f0 ≠ k

theorem dec_exists (l : List KV) (k : KY) : ∃ A M C, Dec l k A M C := by
  have h1 : l = l.takeWhile (fun x => lt x.f0 k) ++ l.dropWhile (fun x => lt x.f0 k) := (List.takeWhile_append_dropWhile).symm
  have h2 : ∀ x ∈ l.takeWhile (fun x => lt x.f0 k), lt x.f0 k = true := fun x hx => by
    have := List.all_takeWhile (p := fun x : KV => lt x.f0 k) (l := l)
    exact List.all_eq_true.1 this x hx
  have h3 : ∀ x B, l.dropWhile (fun x => lt x.f0 k) = x :: B → lt x.f0 k = false := by
    clear h1 h2
    induction l with
    | nil => intro x B h; simp at h
    | cons y l ih =>
      intro x B h
      simp only [List.dropWhile] at h
      cases hy : lt y.f0 k with
      | true => rw [hy] at h; exact ih x B h
      | false => rw [hy] at h; simp at h; rw [← h.1]; exact hy
  cases hB : l.dropWhile (fun x => lt x.f0 k) with
  | nil => exact ⟨_, [], [], ⟨by rw [hB] at h1; simpa using h1, h2, .inl rfl, fun _ x C' h => by cases h⟩⟩
  | cons b B =>
    rw [hB] at h1
    by_cases hk : b.f0 = k
    · exact ⟨_, [b], B, ⟨h1, h2, .inr ⟨b, rfl, hk⟩, fun h => by cases h⟩⟩
    · exact ⟨_, [], b :: B, ⟨h1, h2, .inl rfl, fun _ x C' h => by injection h with h _; subst h; exact ⟨h3 _ _ hB, hk⟩⟩⟩

theorem rd_at (l : List KV) (i : Nat) (h : i < l.length) : rd_T26 l (i : Int) = l[i] := by
  simp [rd_T26, List.getD_eq_getElem?_getD, h]
theorem rd_some {l : List KV} {i : Nat} {x : KV} (h : l[i]? = some x) : rd_T26 l (i : Int) = x := by
  simp [rd_T26, List.getD_eq_getElem?_getD, h]

theorem find_dec {l : List KV} {k : KY} {A M C : List KV} (h : Dec l k A M C) : findV l k.f0 k.f1 = ((A.length : Int), !M.isEmpty) := by
  have hb : ∀ x ∈ A, behindP k.f0 k.f1 x = false := fun x hx => by
    have := h.ahead x hx
    unfold behindP; unfold lt at this; rw [this]; rfl
  have step : ∀ (m : KV) (D : List KV), M ++ C = m :: D → lt m.f0 k = false → idx (behindP k.f0 k.f1) l = (A.length : Int) ∧ rd_T26 l (A.length : Int) = m := by
    intro m D e hm
    have hl : l = A ++ m :: D := by rw [h.eq, e]
    have hlt : A.length < l.length := by rw [hl]; simp
    have hget : l[A.length] = m := by simp [hl]
    refine ⟨idx_at hlt (fun x hx => ?_) ?_, ?_⟩
    · rw [hl, List.take_left'] at hx
      · exact hb x hx
      · rfl
    · rw [hget]; unfold behindP; unfold lt at hm; rw [hm]; rfl
    · rw [rd_at l _ hlt, hget]
  unfold findV
  rcases h.mid with rfl | ⟨m, rfl, hm⟩
  · cases C with
    | nil =>
      have hl : l = A := by simpa using h.eq
      have : idx (behindP k.f0 k.f1) l = -1 := idx_none (fun x hx => hb x (by rw [← hl]; exact hx))
      rw [this, if_pos (by omega), hl]; rfl
    | cons c C' =>
      obtain ⟨h1, h2⟩ := h.behind rfl c C' rfl
      obtain ⟨e1, e2⟩ := step c C' rfl h1
      rw [e1, if_neg (by omega), e2, eqK_no h2]; rfl
  · obtain ⟨e1, e2⟩ := step m C rfl (by rw [hm]; exact lt_irrefl k)
    rw [e1, if_neg (by omega), e2, (eqK_iff m k).2 hm]; rfl
theorem findf_dec {l : List KV} {k : KY} {A M C : List KV} (h : Dec l k A M C) : node_Find.f l k.f0 k.f1 = some ((A.length : Int), !M.isEmpty) := by
  unfold node_Find.f; rw [find_dec h]

/-- Rows, one behind the other. -/
theorem joined_from (k : Nat) (rows : List (List KV)) (n : Nat) (hn : (rows.flatten).length ≤ 1000000) (hr : rows.length ≤ 1000) :
    ∀ (i : Nat) (acc : List KV), i + n = rows.length → n < k → acc = (rows.take i).flatten → api_Pair.l0 k acc rows (rows.length : Int) (i : Int) = some rows.flatten := by
  induction n generalizing k with
  | zero =>
    intro i acc hi hk ha
    obtain ⟨k, rfl⟩ : ∃ m, k = m + 1 := ⟨k - 1, by omega⟩
    simp only [api_Pair.l0]
    rw [if_neg (by omega), ha, List.take_of_length_le (by omega)]
  | succ n ih =>
    intro i acc hi hk ha
    obtain ⟨k, rfl⟩ : ∃ m, k = m + 1 := ⟨k - 1, by omega⟩
    have hlt : i < rows.length := by omega
    have hrd : rd_L4 rows (i : Int) = rows[i] := by simp [rd_L4, List.getD_eq_getElem?_getD, hlt]
    have hnext : acc ++ rows[i] = (rows.take (i + 1)).flatten := by
      rw [List.take_succ_eq_append_getElem hlt, List.flatten_append, ha]; simp
    have hlen : (acc ++ rows[i]).length ≤ rows.flatten.length := by
      rw [hnext]
      conv => rhs; rw [← List.take_append_drop (i + 1) rows, List.flatten_append, List.length_append]
      omega
    rw [List.length_append] at hlen
    simp only [api_Pair.l0]
    rw [if_pos (by omega), if_pos (by omega), if_pos (by omega), hrd, if_pos (by omega)]
    have := ih k (i + 1) (acc ++ rows[i]) (by omega) (by omega) hnext
    rw [show wrap64 ((i : Int) + 1) = ((i + 1 : Nat) : Int) by unfold wrap64; omega]
    exact this
theorem joined_f (k : Nat) (rows : List (List KV)) (hn : (rows.flatten).length ≤ 1000000) (hr : rows.length ≤ 1000) (hk : rows.length < k) : api_Pair.f k rows = some rows.flatten := by
  unfold api_Pair.f
  exact joined_from k rows rows.length hn hr 0 [] (by omega) hk rfl

theorem put_dec {l : List KV} {k : KY} {v : ByteArray} {A M C : List KV} (h : Dec l k A M C) (hl : l.length ≤ 100000) (n : Nat) (hn : 4 ≤ n) : node_Put.f n l k.f0 k.f1 v = some (A ++ ⟨k, v⟩ :: C) := by
  have hlen : l.length = A.length + (M.length + C.length) := by rw [h.eq]; simp
  have hd : l.drop A.length = M ++ C := by rw [h.eq]; simp
  have ht : l.take A.length = A := by rw [h.eq]; simp
  unfold node_Put.f
  rw [findf_dec h]
  simp only [Option.bind_some, Int.toNat_natCast]
  rw [if_pos (by omega), if_pos (by omega), hd, ht]
  rcases h.mid with rfl | ⟨m, rfl, hm⟩
  · rw [if_neg (by decide)]
    simp only [List.nil_append]
    rw [joined_f n _ (by simp at hlen ⊢; omega) (by simp) (by simp; omega)]
    simp
  · rw [if_pos (show (![m].isEmpty) = true from rfl), if_pos (by simp; omega)]
    rw [joined_f n _ (by simp at hlen ⊢; omega) (by simp) (by simp; omega)]
    simp
theorem drop_dec {l : List KV} {k : KY} {A M C : List KV} (h : Dec l k A M C) (hl : l.length ≤ 100000) (n : Nat) (hn : 4 ≤ n) : node_Drop.f n l k.f0 k.f1 = some (A ++ C) := by
  have hlen : l.length = A.length + (M.length + C.length) := by rw [h.eq]; simp
  have ht : l.take A.length = A := by rw [h.eq]; simp
  unfold node_Drop.f
  rw [findf_dec h]
  simp only [Option.bind_some, Int.toNat_natCast]
  rcases h.mid with rfl | ⟨m, rfl, hm⟩
  · rw [if_neg (by decide)]
    rw [joined_f n _ (by simp; omega) (by simp) (by simp; omega)]
    have := h.eq
    simp at this ⊢
    exact this
  · simp only [List.length_cons, List.length_nil] at hlen
    have hw : wrap64 ((A.length : Int) + 1) = ((A.length + 1 : Nat) : Int) := by unfold wrap64; omega
    have hd : l.drop (A.length + 1) = C := by
      rw [h.eq, show A.length + 1 = A.length + 1 from rfl, ← List.drop_drop]; simp
    rw [if_pos (show (![m].isEmpty) = true from rfl), if_pos (by omega), if_pos (by omega), hw, if_pos (by omega), if_pos (by omega), Int.toNat_natCast, ht, hd]
    rw [joined_f n _ (by simp; omega) (by simp) (by simp; omega)]
    simp
theorem split_f (l : List KV) (hl : l.length ≤ 100000) (n : Nat) (hn : 4 ≤ n) : node_Split.f n l = some (l.take (l.length / 2), l.drop (l.length / 2)) := by
  have hw : wrap64 ((l.length : Int) / 2) = ((l.length / 2 : Nat) : Int) := by unfold wrap64; omega
  unfold node_Split.f
  rw [hw, Int.toNat_natCast, if_pos (by omega), if_pos (by omega)]
  rw [joined_f n _ (by simp; omega) (by simp) (by simp; omega), joined_f n _ (by simp; omega) (by simp) (by simp; omega)]
  simp
/-- What Level makes of two rows. -/
def levelV (a b : List KV) (most : Int) : List KV × List KV × Int :=
  if most < 1 then ([], [], 1) else if ((a ++ b).length : Int) ≤ most then (a ++ b, [], 0) else ((a ++ b).take ((a ++ b).length / 2), (a ++ b).drop ((a ++ b).length / 2), 0)
theorem level_f (a b : List KV) (most : Int) (ha : a.length ≤ 10000) (hb : b.length ≤ 10000) (n : Nat) (hn : 4 ≤ n) : node_Level.f n a b most = some (levelV a b most) := by
  unfold node_Level.f levelV
  by_cases h : most < 1
  · rw [if_pos h, if_pos h]
  · rw [if_neg h, if_neg h, joined_f n _ (by simp; omega) (by simp) (by simp; omega)]
    simp only [Option.bind_some, List.flatten_cons, List.flatten_nil, List.append_nil]
    by_cases h2 : ((a ++ b).length : Int) ≤ most
    · rw [if_pos h2, if_pos h2]
    · rw [if_neg h2, if_neg h2, split_f _ (by simp; omega) n hn]; rfl

/-- Whether pairs rise. -/
def risB : List KV → Bool
  | [] => true
  | [_] => true
  | x :: y :: l => lt x.f0 y.f0 && risB (y :: l)
def Ris (l : List KV) : Prop := l.Pairwise (fun x y => lt x.f0 y.f0 = true)
theorem risB_iff : ∀ l : List KV, risB l = true ↔ Ris l
  | [] => by simp [risB, Ris]
  | [x] => by simp [risB, Ris]
  | x :: y :: l => by
    have ih := risB_iff (y :: l)
    simp only [risB, Bool.and_eq_true]
    rw [ih]
    unfold Ris
    rw [List.pairwise_cons (a := x)]
    refine ⟨fun ⟨h1, h2⟩ => ⟨fun z hz => ?_, h2⟩, fun ⟨h1, h2⟩ => ⟨h1 y List.mem_cons_self, h2⟩⟩
    rcases List.mem_cons.1 hz with rfl | hz
    · exact h1
    · exact lt_trans h1 ((List.pairwise_cons.1 h2).1 z hz)
theorem is_from (l : List KV) (hl : l.length ≤ 100000) (n : Nat) : ∀ (k i : Nat), 1 ≤ i → i + n = max l.length 1 → n < k → node_Is.l0 k l (i : Int) = some (risB (l.drop (i - 1))) := by
  induction n with
  | zero =>
    intro k i h1 hi hk
    obtain ⟨k, rfl⟩ : ∃ m, k = m + 1 := ⟨k - 1, by omega⟩
    simp only [node_Is.l0]
    rw [if_neg (by omega)]
    have : (l.drop (i - 1)).length ≤ 1 := by rw [List.length_drop]; omega
    match h : l.drop (i - 1), this with
    | [], _ => rfl
    | [_], _ => rfl
  | succ n ih =>
    intro k i h1 hi hk
    obtain ⟨k, rfl⟩ : ∃ m, k = m + 1 := ⟨k - 1, by omega⟩
    have hlt : i < l.length := by omega
    obtain ⟨j, rfl⟩ : ∃ j, i = j + 1 := ⟨i - 1, by omega⟩
    have e1 : wrap64 (((j + 1 : Nat) : Int) - 1) = (j : Int) := by unfold wrap64; omega
    have e2 : wrap64 (((j + 1 : Nat) : Int) + 1) = ((j + 1 + 1 : Nat) : Int) := by unfold wrap64; omega
    have hd : l.drop j = l[j] :: l[j + 1] :: l.drop (j + 1 + 1) := by
      rw [List.getElem_cons_drop, List.getElem_cons_drop]
    simp only [node_Is.l0]
    rw [if_pos (by omega), e1, if_pos (by omega), if_pos (by omega), if_pos (by omega), rd_at l j (by omega), rd_at l (j + 1) hlt, e2]
    unfold key_Less.f
    simp only [Option.bind_some, Nat.add_sub_cancel]
    rw [hd]
    simp only [risB]
    cases hc : lt l[j].f0 l[j + 1].f0 with
    | true =>
      unfold lt at hc
      rw [hc, if_pos rfl, ih k (j + 1 + 1) (by omega) (by omega) (by omega)]
      simp only [Nat.add_sub_cancel, Bool.true_and]
      rw [List.getElem_cons_drop]
    | false =>
      unfold lt at hc
      rw [hc, if_neg (by decide)]
      rfl
theorem is_f (l : List KV) (hl : l.length ≤ 100000) (k : Nat) (hk : l.length + 1 < k) : node_Is.f k l = some (risB l) := by
  unfold node_Is.f
  have := is_from l hl (max l.length 1 - 1) k 1 (by omega) (by omega) (by omega)
  simpa using this

theorem ne_test (x y : KV) : ((!(x.f0.f0.toList == y.f0.f0.toList) || (!(x.f0.f1 == y.f0.f1))) || (!(x.f1.toList == y.f1.toList))) = true ↔ x ≠ y := by
  obtain ⟨⟨p, a⟩, v⟩ := x
  obtain ⟨⟨q, b⟩, u⟩ := y
  simp only [Bool.or_eq_true, Bool.not_eq_true', beq_eq_false_iff_ne]
  constructor
  · rintro ((h | h) | h) e
    · injection e with e _; injection e with e _; exact h (by rw [e])
    · injection e with e _; injection e with _ e; exact h e
    · injection e with _ e; exact h (by rw [e])
  · intro h
    apply Classical.byContradiction
    intro hn
    have h1 : p.toList = q.toList := Classical.byContradiction fun e => hn (.inl (.inl e))
    have h2 : a = b := Classical.byContradiction fun e => hn (.inl (.inr e))
    have h3 : v.toList = u.toList := Classical.byContradiction fun e => hn (.inr e)
    exact h (by rw [tl_inj h1, h2, tl_inj h3])
/-- Rows that are the same are found the same. -/
theorem same_from (l : List KV) (hl : l.length ≤ 100000) (n : Nat) : ∀ (k i : Nat), i + n = l.length → n < k → sextonref09_Same.l0 k l l (i : Int) = some true := by
  induction n with
  | zero =>
    intro k i hi hk
    obtain ⟨k, rfl⟩ : ∃ m, k = m + 1 := ⟨k - 1, by omega⟩
    simp only [sextonref09_Same.l0]
    rw [if_neg (by omega)]
  | succ n ih =>
    intro k i hi hk
    obtain ⟨k, rfl⟩ : ∃ m, k = m + 1 := ⟨k - 1, by omega⟩
    simp only [sextonref09_Same.l0]
    rw [if_pos (by omega), if_pos (by omega), if_pos (by omega), if_neg (by rw [ne_test]; simp), show wrap64 ((i : Int) + 1) = ((i + 1 : Nat) : Int) by unfold wrap64; omega]
    exact ih k (i + 1) (by omega) (by omega)
theorem same_f (l : List KV) (hl : l.length ≤ 100000) (k : Nat) (hk : l.length < k) : sextonref09_Same.f k l l = some true := by
  unfold sextonref09_Same.f
  rw [if_pos rfl]
  exact same_from l hl l.length k 0 (by omega) hk
end Go.Proofs.Ytoiohlmiofplcaa.ND
