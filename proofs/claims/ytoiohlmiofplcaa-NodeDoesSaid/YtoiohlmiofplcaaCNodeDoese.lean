/-
  Texts of the claim NodeDoes, joined.
-/
import Derived.WalkKit
import Derived.ProofKit
import Derived.OpenShut
import Derived.ShutString
import Derived.ChangeOld
import Derived.Below
import Derived.SizedLaws
import Derived.ChangeArms
import Derived.Test.YtoiohlmiofplcaaWWords
import Derived.Test.YtoiohlmiofplcaaCNodeDoesd
/-
  What can be read as data reads as a value of its kind: kind by kind, for the rows of the statements.
-/
namespace Go.Proofs.Ytoiohlmiofplcaa.Opens
open Go.ChangeShapes Go.WideShapes Go.ChangeAt Go.RowKit Go.Proofs.YtoiohlmiofplcaaW.PrintWords

def Opens (P : Program) {α : Type} (kd : Kd α) (ok : α → Prop) (t : TypeId) : Prop :=
  ∀ {H : Type} (enc : TypeId × Value → H) (W : World) (base : Nat) (spare : Nat → Bool) (held : Bool) (fuel : Nat) (cs : List Value) (x : DataW H × List MemPlace),
    DataW.trod enc P W base spare held fuel t cs = some x → ∃ a, kd.K W a cs ∧ ok a
def OkInt (k : IntKind) (n : Int) : Prop := (Lit.int k n).wf = true
def OkStr (s : ByteArray) : Prop := s.size ≤ maxLen
def OkList {α : Type} (ok : α → Prop) (l : List α) : Prop := l.length ≤ maxLen ∧ ∀ a ∈ l, ok a
def OkTrue {α : Type} (_ : α) : Prop := True
def OkPair {α β : Type} (p : α → Prop) (q : β → Prop) (x : α × β) : Prop := p x.1 ∧ q x.2

section
variable {P : Program} {t e : TypeId}
theorem opens_int {k : IntKind} (ht : P.underlying t = some (.int k)) : Opens P (Kd.int k) (OkInt k) t := by
  intro H enc W base spare held fuel cs x h
  obtain ⟨n, rfl, _, hw⟩ := DataW.trod_int ht h
  exact ⟨n, rfl, hw⟩
theorem opens_bool (ht : P.underlying t = some .bool) : Opens P Kd.bool OkTrue t := by
  intro H enc W base spare held fuel cs x h
  obtain ⟨b, rfl, _⟩ := DataW.trod_bool ht h
  exact ⟨b, rfl, trivial⟩
theorem opens_string (ht : P.underlying t = some .string) : Opens P Kd.string OkStr t := by
  intro H enc W base spare held fuel cs x h
  obtain ⟨s, rfl, _, hs⟩ := DataW.trod_string ht h
  exact ⟨s, rfl, hs⟩
theorem addr_add (a : Addr) (x i : Nat) : a.add (x + i) = (a.add x).add i := by
  unfold Addr.add
  by_cases h1 : x = 0 <;> by_cases h2 : i = 0 <;> simp [h1, h2, Nat.add_assoc]
theorem opens_slice {α : Type} {kd : Kd α} {ok : α → Prop} (ht : P.underlying t = some (.slice e)) (hc : P.cellsOf e = kd.sz) (he : Opens P kd ok e) : Opens P (Kd.slice e kd) (OkList ok) t := by
  intro H enc W base spare held fuel cs x h
  rcases DataW.trod_slice ht h with ⟨rfl, _⟩ | ⟨a, len, cap, elems, rest, n, _, rfl, _, hb, hl, hm, hlen, hel, _, _⟩
  · exact ⟨[], ⟨none, 0, rfl, Nat.le_refl _, rfl, by simp, fun h0 => absurd h0 (Nat.lt_irrefl 0)⟩, by simp [maxLen], by simp⟩
  · have each : ∀ i, i < len → ∃ (y : α) (c : List Value), c.length = kd.sz ∧ kd.K W y c ∧ ok y ∧ ∀ j u, c[j]? = some u → W.cell? ((a.add (i * kd.sz)).add j) = some u := by
      intro i hi
      have h1 := hel i hi
      rw [hc, List.getElem?_eq_getElem (by omega), Option.bind_eq_some_iff] at h1
      obtain ⟨c, hcs, hy⟩ := h1
      obtain ⟨y, hK, hok⟩ := he enc W base spare held n c _ hy
      obtain ⟨_, hcl, hcell⟩ := World.cells?_some hcs
      refine ⟨y, c, kd.K_len hK, hK, hok, fun j u hj => ?_⟩
      have hjl : j < kd.sz := by have := (List.getElem?_eq_some_iff.1 hj).1; rw [kd.K_len hK] at this; exact this
      rw [hcell j hjl, hj]
    have pick : ∃ l : List α, l.length = len ∧ ∀ i y, l[i]? = some y → ∃ c : List Value, c.length = kd.sz ∧ kd.K W y c ∧ ok y ∧ ∀ j u, c[j]? = some u → W.cell? ((a.add (i * kd.sz)).add j) = some u := by
      have key : ∀ m, m ≤ len → ∃ l : List α, l.length = m ∧ ∀ i y, l[i]? = some y → ∃ c : List Value, c.length = kd.sz ∧ kd.K W y c ∧ ok y ∧ ∀ j u, c[j]? = some u → W.cell? ((a.add (i * kd.sz)).add j) = some u := by
        intro m
        induction m with
        | zero => intro _; exact ⟨[], rfl, fun i y h => by simp at h⟩
        | succ m ih =>
          intro hm
          obtain ⟨l, hl1, hl2⟩ := ih (by omega)
          obtain ⟨y, c, h1, h2, h3, h4⟩ := each m (by omega)
          refine ⟨l ++ [y], by simp [hl1], fun i z hz => ?_⟩
          rcases Nat.lt_or_ge i l.length with hi | hi
          · rw [List.getElem?_append_left hi] at hz
            exact hl2 i z hz
          · have : i = l.length := by
              have := (List.getElem?_eq_some_iff.1 hz).1
              rw [List.length_append, List.length_singleton] at this
              omega
            subst this
            have hz' : y = z := by simpa using hz
            subst hz'
            exact ⟨c, h1, h2, h3, by rw [hl1]; exact h4⟩
      exact key len (Nat.le_refl _)
    obtain ⟨l, hl1, hl2⟩ := pick
    subst hl1
    refine ⟨l, ⟨some a, cap, rfl, hl, rfl, by unfold maxLen at hm; omega, fun _ => ⟨a, rfl, fun j p hj => ?_⟩⟩, by omega, fun y hy => ?_⟩
    · obtain ⟨c, h1, h2, _, h4⟩ := hl2 j p hj
      refine ⟨c, h1, h2, fun i u hu => ?_⟩
      rw [← h4 i u hu, addr_add]
    · obtain ⟨i, hi⟩ := List.getElem?_of_mem hy
      obtain ⟨_, _, _, h3, _⟩ := hl2 i y hi
      exact h3

/-- The same of fields in line, from one place of the cells on. -/
def OpensF (P : Program) {α : Type} (kd : Kd α) (ok : α → Prop) (fs : List Field) (off len : Nat) : Prop :=
  ∀ {H : Type} (enc : TypeId × Value → H) (W : World) (base : Nat) (spare : Nat → Bool) (held : Bool) (n : Nat) (cs : List Value),
    (∀ f ∈ fs, ∃ y, DataW.trod enc P W base spare held n f.type ((cs.drop f.offset).take (P.cellsOf f.type)) = some y) → off + len ≤ cs.length → ∃ a, kd.K W a ((cs.drop off).take len) ∧ ok a
theorem opensF_one {α : Type} {kd : Kd α} {ok : α → Prop} {f : Field} {t off len : Nat} (h : Opens P kd ok t) (ht : f.type = t) (ho : f.offset = off) (hl : P.cellsOf t = len) : OpensF P kd ok [f] off len := by
  intro H enc W base spare held n cs hf _
  obtain ⟨y, hy⟩ := hf f List.mem_cons_self
  subst ht ho hl
  exact h enc W base spare held n _ y hy
theorem opensF_pair {α β : Type} {kd : Kd α} {kd' : Kd β} {ok : α → Prop} {ok' : β → Prop} {f : Field} {fs : List Field} {t off len len' : Nat} (h : Opens P kd ok t) (ht : f.type = t) (ho : f.offset = off) (hl : P.cellsOf t = len)
    (h' : OpensF P kd' ok' fs (off + len) len') : OpensF P (Kd.pair kd kd') (OkPair ok ok') (f :: fs) off (len + len') := by
  intro H enc W base spare held n cs hf hle
  obtain ⟨y, hy⟩ := hf f List.mem_cons_self
  subst ht ho hl
  obtain ⟨a, ha, hoka⟩ := h enc W base spare held n _ y hy
  obtain ⟨b, hb, hokb⟩ := h' enc W base spare held n cs (fun g hg => hf g (List.mem_cons_of_mem _ hg)) (by omega)
  refine ⟨(a, b), ⟨_, _, ?_, ha, hb⟩, hoka, hokb⟩
  rw [List.take_add, List.drop_drop]
theorem opens_struct {α β : Type} {kd : Kd α} {ok : α → Prop} {fs : Array Field} {len : Nat} (ht : P.underlying t = some (.struct fs)) (hc : P.cellsOf t = len) (h : OpensF P kd ok fs.toList 0 len) (f : β → α) (g : α → β) (hg : ∀ a, f (g a) = a) :
    Opens P (Kd.iso kd f) (fun b => ok (f b)) t := by
  intro H enc W base spare held fuel cs x hx
  obtain ⟨xs, n, _, _, hl, hlen, hf⟩ := DataW.trod_struct ht hx
  obtain ⟨a, ha, hok⟩ := h enc W base spare held n cs (fun fd hfd => by
    obtain ⟨i, hi⟩ := List.getElem?_of_mem hfd
    have h1 := hf i fd (by simpa using hi)
    have hi2 : i < xs.length := by
      have := (List.getElem?_eq_some_iff.1 hi).1
      rw [hlen]; simpa using this
    rw [List.getElem?_eq_getElem hi2] at h1
    exact ⟨_, h1⟩) (by omega)
  refine ⟨g a, ?_, by show ok (f (g a)); rw [hg]; exact hok⟩
  show kd.K W (f (g a)) cs
  rw [hg]
  have : (cs.drop 0).take len = cs := by rw [List.drop_zero]; exact List.take_of_length_le (by omega)
  rw [this] at ha
  exact ha
theorem opens_struct_id {α : Type} {kd : Kd α} {ok : α → Prop} {fs : Array Field} {len : Nat} (ht : P.underlying t = some (.struct fs)) (hc : P.cellsOf t = len) (h : OpensF P kd ok fs.toList 0 len) : Opens P kd ok t :=
  opens_struct ht hc h id id (fun _ => rfl)

/-! ### a parameter, opened -/
variable {H : Type} {enc : TypeId × Value → H} {W : World} {base : Nat} {spare : Nat → Bool} {held : Bool} {r : Reach} {b0 : Nat} {v : Value} {d : DataW H} {ps : List MemPlace}
theorem param_slice {α : Type} {kd : Kd α} {ok : List α → Prop} (ht : P.underlying t = some (.slice e)) (h : Opens P (Kd.slice e kd) ok t) (hval : Value.okWide P W r b0 t v) (hd : DataW.Trod enc P W base spare held t v d ps) :
    ∃ A c l, v = .slice A l.length c ∧ l.length ≤ c ∧ Kd.C kd W A l.length l ∧ ok l := by
  obtain ⟨a, len, cap, rfl⟩ := okWide_slice ht hval
  obtain ⟨fuel, hf⟩ := hd
  obtain ⟨l, ⟨A, c, hcs, hl, hC⟩, hok⟩ := h enc W base spare held fuel _ _ hf
  have : Value.slice a len cap = Value.slice A l.length c := by simpa [Value.cells] using hcs
  exact ⟨A, c, l, this, hl, hC, hok⟩
theorem param_struct {α : Type} {kd : Kd α} {ok : α → Prop} {fs : Array Field} (ht : P.underlying t = some (.struct fs)) (h : Opens P kd ok t) (hval : Value.okWide P W r b0 t v) (hd : DataW.Trod enc P W base spare held t v d ps) :
    ∃ cs a, v = .agg cs ∧ kd.K W a cs.toList ∧ ok a := by
  obtain ⟨cs, rfl, hsz⟩ := okWide_struct ht hval
  obtain ⟨fuel, hf⟩ := hd
  obtain ⟨a, hK, hok⟩ := h enc W base spare held fuel _ _ hf
  exact ⟨cs, a, rfl, hK, hok⟩
theorem agg_eq {cs : Array Value} {l : List Value} (h : cs.toList = l) : cs = l.toArray := by rw [← h]
end
end Go.Proofs.Ytoiohlmiofplcaa.Opens
/-
  The plain statement of NodeDoes: of any pairs just this is found, put, dropped, split and levelled.
-/
namespace Go.Proofs.Ytoiohlmiofplcaa.Pure
open Go.RowKit Go.Proofs.YtoiohlmiofplcaaW.PrintWords Go.Proofs.YtoiohlmiofplcaaW.PrintLast Go.Proofs.Ytoiohlmiofplcaa.P Go.Proofs.Ytoiohlmiofplcaa.ND Go.Proofs.Ytoiohlmiofplcaa.Opens

theorem smudge_from (n : Nat) : ∀ (l : List KV) (k i : Nat), i + n = l.length → l.length ≤ 100000 → n < k → ∃ m, sextonlaw09_smudge.l0 k l (i : Int) = some m := by
  induction n with
  | zero =>
    intro l k i hi hl hk
    obtain ⟨k, rfl⟩ : ∃ m, k = m + 1 := ⟨k - 1, by omega⟩
    simp only [sextonlaw09_smudge.l0]
    rw [if_neg (by omega)]
    exact ⟨_, rfl⟩
  | succ n ih =>
    intro l k i hi hl hk
    obtain ⟨k, rfl⟩ : ∃ m, k = m + 1 := ⟨k - 1, by omega⟩
    simp only [sextonlaw09_smudge.l0]
    rw [if_pos (by omega), if_pos (by omega), show wrap64 ((i : Int) + 1) = ((i + 1 : Nat) : Int) by unfold wrap64; omega]
    exact ih _ k (i + 1) (by rw [List.length_set]; omega) (by rw [List.length_set]; omega) (by omega)
theorem smudge_f (l : List KV) (hl : l.length ≤ 100000) (k : Nat) (hk : l.length < k) : ∃ m, sextonlaw09_smudge.f k l = some m := by
  unfold sextonlaw09_smudge.f
  exact smudge_from l.length l k 0 (by omega) hl hk
theorem does_out (k : Nat) (l m : List KV) (most : Int) (p : ByteArray) (a : Int) (v : ByteArray) : sextonlaw09_NodeDoes.j0 (k + 1) l m most true p a v = some true := by
  simp only [sextonlaw09_NodeDoes.j0]
  rw [if_pos trivial]
theorem does_j1 (k : Nat) (hk : 200 < k) (l c e x y g : List KV) (hl : l.length ≤ 80) (hc : c.length ≤ 170) (he : e.length ≤ 170) (hx : x.length ≤ 170) (hy : y.length ≤ 170) (hg : g.length ≤ 170) : sextonlaw09_NodeDoes.j1 (k + 1) l l c e x y g true = some true := by
  obtain ⟨m1, e1⟩ := smudge_f c (by omega) k (by omega)
  obtain ⟨m2, e2⟩ := smudge_f e (by omega) k (by omega)
  obtain ⟨m3, e3⟩ := smudge_f x (by omega) k (by omega)
  obtain ⟨m4, e4⟩ := smudge_f y (by omega) k (by omega)
  obtain ⟨m5, e5⟩ := smudge_f g (by omega) k (by omega)
  simp only [sextonlaw09_NodeDoes.j1]
  rw [e1, Option.bind_some, e2, Option.bind_some, e3, Option.bind_some, e4, Option.bind_some, e5, Option.bind_some]
  simp only [sextonlaw09_nodes.f]
  rw [Option.bind_some, if_pos rfl, if_pos trivial, same_f l (by omega) k (by omega), Option.bind_some]
theorem does_in (k : Nat) (hk : 300 < k) (l m : List KV) (most : Int) (x : KV) (hl : l.length ≤ 80) (hm : m.length ≤ 80) : sextonlaw09_NodeDoes.j0 (k + 1) l m most false x.f0.f0 x.f0.f1 x.f1 = some true := by
  obtain ⟨A, M, C, hd⟩ := dec_exists l x.f0
  have hlen : l.length = A.length + (M.length + C.length) := by rw [hd.eq]; simp
  have hp : (A ++ x :: C).length = A.length + C.length + 1 := by simp; omega
  have hq : (A ++ C).length = A.length + C.length := by simp
  have ht : (l.take (l.length / 2)).length ≤ 80 := by rw [List.length_take]; omega
  have hdr : (l.drop (l.length / 2)).length ≤ 80 := by rw [List.length_drop]; omega
  have hlv : (levelV l m most).1.length ≤ 160 ∧ (levelV l m most).2.1.length ≤ 160 := by
    unfold levelV
    by_cases h1 : most < 1
    · rw [if_pos h1]; exact ⟨Nat.zero_le _, Nat.zero_le _⟩
    · rw [if_neg h1]
      by_cases h2 : ((l ++ m).length : Int) ≤ most
      · rw [if_pos h2]; exact ⟨by simp; omega, Nat.zero_le _⟩
      · rw [if_neg h2]; exact ⟨by simp; omega, by simp; omega⟩
  have hx : (⟨x.f0, x.f1⟩ : KV) = x := rfl
  simp only [sextonlaw09_NodeDoes.j0]
  rw [if_neg (by decide), refOwn_f l (by omega), Option.bind_some, findf_dec hd, Option.bind_some, refFind_dec hd (by omega) k (by omega), Option.bind_some, put_dec hd (by omega) k (by omega), Option.bind_some, refPut_dec hd (by omega) k (by omega), Option.bind_some, drop_dec hd (by omega) k (by omega), Option.bind_some, refDrop_dec hd (by omega) k (by omega), Option.bind_some, split_f l (by omega) k (by omega), Option.bind_some, refSplit_f l (by omega), Option.bind_some, level_f l m most (by omega) (by omega) k (by omega), Option.bind_some, refLevel_f l m most (by omega) (by omega), Option.bind_some]
  rw [if_pos rfl, if_pos (by simp), hx]
  generalize levelV l m most = lv at *
  rw [same_f _ (by first | omega | (dsimp only; omega)) k (by first | omega | (dsimp only; omega)), Option.bind_some, if_pos rfl, same_f _ (by first | omega | (dsimp only; omega)) k (by first | omega | (dsimp only; omega)), Option.bind_some, if_pos rfl, same_f _ (by first | omega | (dsimp only; omega)) k (by first | omega | (dsimp only; omega)), Option.bind_some, if_pos rfl, same_f _ (by first | omega | (dsimp only; omega)) k (by first | omega | (dsimp only; omega)), Option.bind_some, if_pos rfl, same_f _ (by first | omega | (dsimp only; omega)) k (by first | omega | (dsimp only; omega)), Option.bind_some, if_pos rfl, same_f _ (by first | omega | (dsimp only; omega)) k (by first | omega | (dsimp only; omega)), Option.bind_some, if_pos rfl, if_pos rfl, is_f l (by omega) k (by omega), Option.bind_some, refIs_f l (by omega) k (by omega), Option.bind_some, show (risB l == risB l) = true by simp]
  obtain ⟨k, rfl⟩ : ∃ m, k = m + 1 := ⟨k - 1, by omega⟩
  exact does_j1 k (by omega) l _ _ _ _ _ hl (by omega) (by omega) (by dsimp only; omega) (by dsimp only; omega) (by omega)
theorem NodeDoes {ok ok' : KV → Prop} (l0 l1 : List KV) (a2_0 : ByteArray) (a2_1 : Int) (a2_2 : ByteArray) (a3 : Int) {okp : Prop} (h0 : OkList ok l0) (h1 : OkList ok' l1) (h2 : okp) (h3 : OkInt .i64 a3) : ∃ k, sextonlaw09_NodeDoes.f k l0 l1 a2_0 a2_1 a2_2 a3 = some true := by
  obtain ⟨r, hb, h80⟩ := big_f l0
  obtain ⟨r', hb', h80'⟩ := big_f l1
  obtain ⟨r'', hb'', _⟩ := big_f [⟨⟨a2_0, a2_1⟩, a2_2⟩]
  refine ⟨400, ?_⟩
  unfold sextonlaw09_NodeDoes.f
  rw [hb 400 (by omega), Option.bind_some]
  cases r with
  | true => rw [if_pos rfl]; exact does_out 399 _ _ _ _ _ _
  | false =>
    rw [if_neg (by decide), hb' 400 (by omega), Option.bind_some]
    cases r' with
    | true => rw [if_pos rfl]; exact does_out 399 _ _ _ _ _ _
    | false =>
      rw [if_neg (by decide), hb'' 400 (by omega), Option.bind_some]
      cases r'' with
      | true => exact does_out 399 _ _ _ _ _ _
      | false => exact does_in 399 (by omega) l0 l1 a3 ⟨⟨a2_0, a2_1⟩, a2_2⟩ (h80 rfl) (h80' rfl)
end Go.Proofs.Ytoiohlmiofplcaa.Pure
