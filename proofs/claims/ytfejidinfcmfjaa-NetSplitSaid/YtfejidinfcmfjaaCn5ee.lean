/-
  Texts that the claims of this chapter share, joined.
-/
import Derived.Laws.BytesArg
import Derived.Test.YtfejidinfcmfjaaWMore
import Derived.Test.YtfejidinfcmfjaaWNEv
import Derived.Test.YtfejidinfcmfjaaPx0
import Derived.Test.YtfejidinfcmfjaaCn5ea
import Derived.WalkKit
import Derived.ProofKit
import Derived.OpenShut
import Derived.ShutString
import Derived.ChangeOld
import Derived.Below
import Derived.SizedLaws
import Derived.ChangeArms
import Derived.Test.YtfejidinfcmfjaaWWords
set_option linter.unusedVariables false
set_option linter.unusedSimpArgs false
/-
  Plain laws on a number's bytes, highest first, without the leading zeros: no program in sight.
-/
namespace Go.Proofs.CodecPlain

theorem size_append (a b : ByteArray) : (a ++ b).size = a.size + b.size := ByteArray.size_append
end Go.Proofs.CodecPlain
/-
  Plain laws on reading a number's bytes: no program in sight.
-/
namespace Go.Proofs.CodecPlain

/-- The first byte of bytes. -/
def hd (s : ByteArray) : Nat := if h : 0 < s.size then (s[0]'h).toNat else 0

end Go.Proofs.CodecPlain
/-
  Plain laws on reading texts and rows: no program in sight.
-/
namespace Go.Proofs.CodecPlain

end Go.Proofs.CodecPlain
/-
  Plain laws on numbers', texts' and rows' bytes: what is laid is read, what is read is laid. No program in sight.
-/
namespace Go.Proofs.CodecPlain

theorem ba_ext {a b : ByteArray} (h : a.data.toList = b.data.toList) : a = b := by
  cases a; cases b
  rename_i x y
  have : x = y := by cases x; cases y; simpa using h
  rw [this]
/-! ### a number's bytes -/
/-! ### texts -/
/-! ### rows -/
end Go.Proofs.CodecPlain
/-
  Words for the references, told plainly.
-/
namespace Go.Proofs.Ytfejidinfcmfjaa.P
open Go.RowKit Go.Proofs.CodecPlain Go.Proofs.YtfejidinfcmfjaaW.PrintWords Go.Proofs.YtfejidinfcmfjaaW.PrintLast

theorem toList_inj {a b : ByteArray} (h : a.toList = b.toList) : a = b := by
  rw [ByteArray.toList_eq, ByteArray.toList_eq] at h; exact ba_ext h

theorem wrap_id {x : Int} (h0 : -9223372036854775808 ≤ x) (h1 : x ≤ 9223372036854775807) : wrap64 x = x := by unfold wrap64; omega

theorem rd_str (l : List ByteArray) (k : Nat) (h : k < l.length) : rdOf ByteArray.empty l (k : Int) = l[k] := by
  simp [rdOf, List.getD_eq_getElem?_getD, h]
end Go.Proofs.Ytfejidinfcmfjaa.P
/-
  sextonref01.Texts, told plainly.
-/
namespace Go.Proofs.Ytfejidinfcmfjaa.P
open Go.RowKit Go.Proofs.CodecPlain Go.Proofs.YtfejidinfcmfjaaW.PrintWords Go.Proofs.YtfejidinfcmfjaaW.PrintLast

theorem refTexts_l0 (a b : List ByteArray) (hl : a.length = b.length) (hm : a.length ≤ 9223372036854775806) (d : Nat) : ∀ k : Nat, k + d = a.length → Ev (fun r => sextonref01_Texts.l0 r a b (k : Int)) (decide (a.drop k = b.drop k)) := by
  induction d with
  | zero =>
    intro k hk
    have h1 : a.drop k = [] := List.drop_of_length_le (by omega)
    have h2 : b.drop k = [] := List.drop_of_length_le (by omega)
    rw [h1, h2]
    exact Ev.step (f := fun _ => some true) (fun r => by simp only [sextonref01_Texts.l0]; rw [if_neg (by omega)]) (Ev.now _)
  | succ d ih =>
    intro k hk
    have ha : k < a.length := by omega
    have hb : k < b.length := by omega
    have e1 : a.drop k = a[k] :: a.drop (k + 1) := List.drop_eq_getElem_cons ha
    have e2 : b.drop k = b[k] :: b.drop (k + 1) := List.drop_eq_getElem_cons hb
    by_cases he : a[k] = b[k]
    · refine Ev.step (f := fun r => sextonref01_Texts.l0 r a b ((k + 1 : Nat) : Int)) (fun r => ?_) ?_
      · simp only [sextonref01_Texts.l0]
        rw [if_pos (by omega), if_pos (by omega), if_pos (by omega), rd_str a k ha, rd_str b k hb, if_pos (by rw [he]), wrap_id (by omega) (by omega)]
        rfl
      · have := ih (k + 1) (by omega)
        rw [e1, e2, he]
        simp only [List.cons.injEq, true_and]
        exact this
    · refine Ev.step (f := fun _ => some false) (fun r => ?_) ?_
      · simp only [sextonref01_Texts.l0]
        rw [if_pos (by omega), if_pos (by omega), if_pos (by omega), rd_str a k ha, rd_str b k hb, if_neg (fun h => he (toList_inj h))]
      · rw [e1, e2, decide_eq_false (fun h => he (List.cons.inj h).1)]
        exact Ev.now _

theorem refTexts (a b : List ByteArray) (hm : a.length ≤ 9223372036854775806) : Ev (fun r => sextonref01_Texts.f r a b) (decide (a = b)) := by
  by_cases hl : a.length = b.length
  · refine Ev.congr (f := fun r => sextonref01_Texts.l0 r a b 0) (fun r => by unfold sextonref01_Texts.f; rw [if_pos (by omega)]) ?_
    have := refTexts_l0 a b hl hm a.length 0 (by omega)
    simpa using this
  · rw [decide_eq_false (fun h => hl (by rw [h]))]
    exact Ev.congr (f := fun _ => some false) (fun r => by unfold sextonref01_Texts.f; rw [if_neg (by omega)]) (Ev.now _)
end Go.Proofs.Ytfejidinfcmfjaa.P
/-
  Chapter 25's reference, told plainly: Big, SameRow.
-/
namespace Go.Proofs.Ytfejidinfcmfjaa.P
open Go.RowKit Go.Proofs.CodecPlain Go.Proofs.YtfejidinfcmfjaaW.PrintWords Go.Proofs.YtfejidinfcmfjaaW.PrintLast

theorem same_ev (a0 a1 a2 a3 a4 a5 a6 : Int) (l : List ByteArray) (b0 b1 b2 b3 b4 b5 b6 : Int) (m : List ByteArray) (hl : l.length ≤ 100000) :
    Ev (fun k => sextonref23_Same.f k a0 a1 a2 a3 a4 a5 a6 l b0 b1 b2 b3 b4 b5 b6 m) (decide (a0 = b0 ∧ a1 = b1 ∧ a2 = b2 ∧ a3 = b3 ∧ a4 = b4 ∧ a5 = b5 ∧ a6 = b6 ∧ l = m)) := by
  obtain ⟨K, e⟩ := refTexts l m (by omega)
  simp only at e
  refine ⟨K, fun k hk => ?_⟩
  show sextonref23_Same.f k a0 a1 a2 a3 a4 a5 a6 l b0 b1 b2 b3 b4 b5 b6 m = _
  unfold sextonref23_Same.f
  rw [e k hk]
  by_cases h0 : a0 = b0
  · by_cases h1 : a1 = b1
    · by_cases h2 : a2 = b2
      · by_cases h3 : a3 = b3
        · by_cases h4 : a4 = b4
          · by_cases h5 : a5 = b5
            · by_cases h6 : a6 = b6
              · simp [h0, h1, h2, h3, h4, h5, h6]
              · simp [h6]
            · simp [h5]
          · simp [h4]
        · simp [h3]
      · simp [h2]
    · simp [h1]
  · simp [h0]
/-- Big answers for every message; where it says no there are at most 80 texts. -/
theorem big_f (n0 n1 n2 n3 n4 n5 n6 : Int) (l : List ByteArray) : ∃ r, (∀ k, 200 < k → sextonref23_Big.f k n0 n1 n2 n3 n4 n5 n6 l = some r) ∧ (r = false → l.length ≤ 80) := by
  unfold sextonref23_Big.f
  by_cases h80 : l.length ≤ 80
  · have : ∀ i : Nat, i ≤ l.length → ∃ r, ∀ k, 2 * (l.length - i) + 2 < k → sextonref23_Big.l0 k (i : Int) n0 n1 n2 n3 n4 n5 n6 l = some r := by
      intro i
      induction hd : l.length - i generalizing i with
      | zero =>
        intro hi
        refine ⟨decide ((l.length : Int) > 80), fun k hk => ?_⟩
        obtain ⟨k, rfl⟩ : ∃ m, k = m + 2 := ⟨k - 2, by omega⟩
        simp only [sextonref23_Big.l0]
        rw [if_neg (by omega)]
        simp only [sextonref23_Big.j1]
        rw [if_neg (by decide)]
      | succ d ih =>
        intro hi
        obtain ⟨r, hr⟩ := ih (i + 1) (by omega) (by omega)
        have step : ∀ k, 2 * (d + 1) + 2 < k → sextonref23_Big.l0 k (i : Int) n0 n1 n2 n3 n4 n5 n6 l = if ((rdOf ByteArray.empty l (i : Int)).size : Int) > 400 then some true else some r := by
          intro k hk
          obtain ⟨k, rfl⟩ : ∃ m, k = m + 2 := ⟨k - 2, by omega⟩
          simp only [sextonref23_Big.l0]
          rw [if_pos (by omega), decide_eq_true (by omega)]
          simp only [sextonref23_Big.j1]
          rw [if_pos trivial, if_pos (by omega), if_pos (by omega), show wrap64 ((i : Int) + 1) = ((i + 1 : Nat) : Int) by unfold wrap64; omega, hr k (by omega)]
        by_cases h1 : ((rdOf ByteArray.empty l (i : Int)).size : Int) > 400
        · exact ⟨true, fun k hk => by rw [step k hk, if_pos h1]⟩
        · exact ⟨r, fun k hk => by rw [step k hk, if_neg h1]⟩
    obtain ⟨r, hr⟩ := this 0 (by omega)
    exact ⟨r, fun k hk => hr k (by omega), fun _ => h80⟩
  · refine ⟨true, fun k hk => ?_, fun h => by cases h⟩
    obtain ⟨k, rfl⟩ : ∃ m, k = m + 2 := ⟨k - 2, by omega⟩
    simp only [sextonref23_Big.l0]
    rw [if_pos (by omega), decide_eq_false (by omega)]
    simp only [sextonref23_Big.j1]
    rw [if_neg (by decide), decide_eq_true (by omega)]

theorem same_yes (x : S29) (hl : x.f7.length ≤ 100000) : Ev (fun k => sextonref23_Same.f k x.f0 x.f1 x.f2 x.f3 x.f4 x.f5 x.f6 x.f7 x.f0 x.f1 x.f2 x.f3 x.f4 x.f5 x.f6 x.f7) true := by
  have := same_ev x.f0 x.f1 x.f2 x.f3 x.f4 x.f5 x.f6 x.f7 x.f0 x.f1 x.f2 x.f3 x.f4 x.f5 x.f6 x.f7 hl
  rwa [decide_eq_true ⟨rfl, rfl, rfl, rfl, rfl, rfl, rfl, rfl⟩] at this
theorem row_l0 (l : List S29) (hl : l.length ≤ 100000) (hx : ∀ x ∈ l, x.f7.length ≤ 100000) (d : Nat) : ∀ k : Nat, k + d = l.length → Ev (fun r => sextonref23_SameRow.l0 r l l (k : Int)) true := by
  induction d with
  | zero =>
    intro k hk
    exact Ev.step (f := fun _ => some true) (fun r => by simp only [sextonref23_SameRow.l0]; rw [if_neg (by omega)]) (Ev.now _)
  | succ d ih =>
    intro k hk
    have hlt : k < l.length := by omega
    refine Ev.step (f := fun r => (sextonref23_Same.f r l[k].f0 l[k].f1 l[k].f2 l[k].f3 l[k].f4 l[k].f5 l[k].f6 l[k].f7 l[k].f0 l[k].f1 l[k].f2 l[k].f3 l[k].f4 l[k].f5 l[k].f6 l[k].f7).bind fun t => if t = true then sextonref23_SameRow.l0 r l l ((k + 1 : Nat) : Int) else some false) (fun r => ?_) ?_
    · simp only [sextonref23_SameRow.l0]
      rw [if_pos (by omega), if_pos (by omega), if_pos (by omega), rd_msg l k hlt, wrap_id (by omega) (by omega)]
      rfl
    · refine Ev.bind (same_yes l[k] (hx _ (List.getElem_mem hlt))) ?_
      exact Ev.congr (fun r => by rw [if_pos rfl]) (ih (k + 1) (by omega))
theorem row_yes (l : List S29) (hl : l.length ≤ 100000) (hx : ∀ x ∈ l, x.f7.length ≤ 100000) : Ev (fun r => sextonref23_SameRow.f r l l) true := by
  refine Ev.congr (f := fun r => sextonref23_SameRow.l0 r l l 0) (fun r => by unfold sextonref23_SameRow.f; rw [if_pos rfl]) ?_
  exact row_l0 l hl hx l.length 0 (by omega)
theorem big25_l0 (l : List S29) (h260 : l.length ≤ 260) (d : Nat) : ∀ k : Nat, k + d = l.length → ∃ b, Ev (fun r => sextonref25_Big.l0 r l (k : Int)) b ∧ (b = false → ∀ x ∈ l.drop k, x.f7.length ≤ 80) := by
  induction d with
  | zero =>
    intro k hk
    refine ⟨false, ?_, fun _ x hx => ?_⟩
    · refine Ev.step (f := fun r => sextonref25_Big.j1 r l (k : Int) false) (fun r => by simp only [sextonref25_Big.l0]; rw [if_neg (by omega)]) ?_
      exact Ev.step (f := fun _ => some false) (fun r => by simp only [sextonref25_Big.j1]; rw [if_neg (by decide), decide_eq_false (by omega)]) (Ev.now _)
    · rw [List.drop_of_length_le (by omega)] at hx
      cases hx
  | succ d ih =>
    intro k hk
    have hlt : k < l.length := by omega
    obtain ⟨b, hb, hs⟩ := ih (k + 1) (by omega)
    obtain ⟨r1, hr1, hr2⟩ := big_f l[k].f0 l[k].f1 l[k].f2 l[k].f3 l[k].f4 l[k].f5 l[k].f6 l[k].f7
    have e : Ev (fun r => sextonref25_Big.l0 r l (k : Int)) (if r1 = true then true else b) := by
      refine Ev.step (f := fun r => sextonref25_Big.j1 r l (k : Int) true) (fun r => by simp only [sextonref25_Big.l0]; rw [if_pos (by omega), decide_eq_true (by omega)]) ?_
      refine Ev.step (f := fun r => (sextonref23_Big.f r l[k].f0 l[k].f1 l[k].f2 l[k].f3 l[k].f4 l[k].f5 l[k].f6 l[k].f7).bind fun t => if t = true then some true else sextonref25_Big.l0 r l ((k + 1 : Nat) : Int)) (fun r => ?_) ?_
      · simp only [sextonref25_Big.j1]
        rw [if_pos trivial, if_pos (by omega), if_pos (by omega), rd_msg l k hlt, wrap_id (by omega) (by omega)]
        rfl
      · refine Ev.bind (show Ev (fun r => sextonref23_Big.f r l[k].f0 l[k].f1 l[k].f2 l[k].f3 l[k].f4 l[k].f5 l[k].f6 l[k].f7) r1 from ⟨201, fun k hk => hr1 k (by omega)⟩) ?_
        cases r1
        · exact Ev.congr (fun r => by rw [if_neg (by decide)]) hb
        · exact Ev.congr (f := fun _ => some true) (fun r => by rw [if_pos rfl]) (Ev.now _)
    refine ⟨_, e, fun h x hx => ?_⟩
    rw [List.drop_eq_getElem_cons hlt] at hx
    cases r1
    · rcases List.mem_cons.1 hx with rfl | hx
      · exact hr2 rfl
      · exact hs (by simpa using h) x hx
    · simp at h
/-- Big answers; where it says no there are at most 260 messages with at most 80 texts each. -/
theorem big25 (l : List S29) : ∃ b, Ev (fun r => sextonref25_Big.f r l) b ∧ (b = false → l.length ≤ 260 ∧ ∀ x ∈ l, x.f7.length ≤ 80) := by
  unfold sextonref25_Big.f
  by_cases h : l.length ≤ 260
  · obtain ⟨b, hb, hs⟩ := big25_l0 l h l.length 0 (by omega)
    exact ⟨b, hb, fun hf => ⟨h, hs hf⟩⟩
  · refine ⟨true, ?_, fun hf => by cases hf⟩
    have hj : Ev (fun r => sextonref25_Big.j1 r l 0 false) true := Ev.step (f := fun _ => some true) (fun r => by simp only [sextonref25_Big.j1]; rw [if_neg (by decide), decide_eq_true (by omega)]) (Ev.now _)
    refine Ev.step (f := fun r => sextonref25_Big.j1 r l 0 false) (fun r => ?_) hj
    simp only [sextonref25_Big.l0]
    rw [if_pos (by omega), decide_eq_false (by omega)]
end Go.Proofs.Ytfejidinfcmfjaa.P
/-
  What can be read as data reads as a value of its kind: kind by kind, for the rows of the statements.
-/
namespace Go.Proofs.Ytfejidinfcmfjaa.Opens
open Go.ChangeShapes Go.WideShapes Go.ChangeAt Go.RowKit Go.Proofs.YtfejidinfcmfjaaW.PrintWords

def Opens (P : Program) {α : Type} (kd : Kd α) (ok : α → Prop) (t : TypeId) : Prop :=
  ∀ {H : Type} (enc : TypeId × Value → H) (W : World) (base : Nat) (spare : Nat → Bool) (held : Bool) (fuel : Nat) (cs : List Value) (x : DataW H × List MemPlace),
    DataW.trod enc P W base spare held fuel t cs = some x → ∃ a, kd.K W a cs ∧ ok a
def OkInt (k : IntKind) (n : Int) : Prop := (Lit.int k n).wf = true
def OkStr (s : ByteArray) : Prop := s.size ≤ maxLen
def OkList {α : Type} (ok : α → Prop) (l : List α) : Prop := l.length ≤ maxLen ∧ ∀ a ∈ l, ok a
def OkPair {α β : Type} (p : α → Prop) (q : β → Prop) (x : α × β) : Prop := p x.1 ∧ q x.2

section
variable {P : Program} {t e : TypeId}
theorem opens_int {k : IntKind} (ht : P.underlying t = some (.int k)) : Opens P (Kd.int k) (OkInt k) t := by
  intro H enc W base spare held fuel cs x h
  obtain ⟨n, rfl, _, hw⟩ := DataW.trod_int ht h
  exact ⟨n, rfl, hw⟩
theorem opens_string (ht : P.underlying t = some .string) : Opens P Kd.string OkStr t := by
  intro H enc W base spare held fuel cs x h
  obtain ⟨s, rfl, _, hs⟩ := DataW.trod_string ht h
  exact ⟨s, rfl, hs⟩
theorem addr_add (a : Addr) (x i : Nat) : a.add (x + i) = (a.add x).add i := by
  unfold Addr.add
  by_cases h1 : x = 0 <;> by_cases h2 : i = 0 <;> simp [h1, h2, Nat.add_assoc]
theorem opens_slice {α : Type} {kd : Kd α} {ok : α → Prop} (ht : P.underlying t = some (.slice e)) (hc : P.cellsOf e = kd.sz) (he : Opens P kd ok e) : Opens P (Kd.slice e kd) (OkList ok) t := by
  intro H enc W base spare held fuel cs x h
  rcases DataW.trod_slice ht h with ⟨rfl, _⟩ | ⟨a, len, cap, elems, rest, n, _, rfl, _, hb, hl, hm, hlen, hel, _, _⟩
  · exact ⟨[], ⟨none, 0, rfl, Nat.le_refl _, rfl, by simp, fun h0 => absurd h0 (Nat.lt_irrefl 0)⟩, by simp [maxLen], by simp⟩
  · have each : ∀ i, i < len → ∃ (y : α) (c : List Value), c.length = kd.sz ∧ kd.K W y c ∧ ok y ∧ ∀ j u, c[j]? = some u → W.cell? ((a.add (i * kd.sz)).add j) = some u := by
      intro i hi
      have h1 := hel i hi
      rw [hc, List.getElem?_eq_getElem (by omega), Option.bind_eq_some_iff] at h1
      obtain ⟨c, hcs, hy⟩ := h1
      obtain ⟨y, hK, hok⟩ := he enc W base spare held n c _ hy
      obtain ⟨_, hcl, hcell⟩ := World.cells?_some hcs
      refine ⟨y, c, kd.K_len hK, hK, hok, fun j u hj => ?_⟩
      have hjl : j < kd.sz := by have := (List.getElem?_eq_some_iff.1 hj).1; rw [kd.K_len hK] at this; exact this
      rw [hcell j hjl, hj]
    have pick : ∃ l : List α, l.length = len ∧ ∀ i y, l[i]? = some y → ∃ c : List Value, c.length = kd.sz ∧ kd.K W y c ∧ ok y ∧ ∀ j u, c[j]? = some u → W.cell? ((a.add (i * kd.sz)).add j) = some u := by
      have key : ∀ m, m ≤ len → ∃ l : List α, l.length = m ∧ ∀ i y, l[i]? = some y → ∃ c : List Value, c.length = kd.sz ∧ kd.K W y c ∧ ok y ∧ ∀ j u, c[j]? = some u → W.cell? ((a.add (i * kd.sz)).add j) = some u := by
        intro m
        induction m with
        | zero => intro _; exact ⟨[], rfl, fun i y h => by simp at h⟩
        | succ m ih =>
          intro hm
          obtain ⟨l, hl1, hl2⟩ := ih (by omega)
          obtain ⟨y, c, h1, h2, h3, h4⟩ := each m (by omega)
          refine ⟨l ++ [y], by simp [hl1], fun i z hz => ?_⟩
          rcases Nat.lt_or_ge i l.length with hi | hi
          · rw [List.getElem?_append_left hi] at hz
            exact hl2 i z hz
          · have : i = l.length := by
              have := (List.getElem?_eq_some_iff.1 hz).1
              rw [List.length_append, List.length_singleton] at this
              omega
            subst this
            have hz' : y = z := by simpa using hz
            subst hz'
            exact ⟨c, h1, h2, h3, by rw [hl1]; exact h4⟩
      exact key len (Nat.le_refl _)
    obtain ⟨l, hl1, hl2⟩ := pick
    subst hl1
    refine ⟨l, ⟨some a, cap, rfl, hl, rfl, by unfold maxLen at hm; omega, fun _ => ⟨a, rfl, fun j p hj => ?_⟩⟩, by omega, fun y hy => ?_⟩
    · obtain ⟨c, h1, h2, _, h4⟩ := hl2 j p hj
      refine ⟨c, h1, h2, fun i u hu => ?_⟩
      rw [← h4 i u hu, addr_add]
    · obtain ⟨i, hi⟩ := List.getElem?_of_mem hy
      obtain ⟨_, _, _, h3, _⟩ := hl2 i y hi
      exact h3

/-- The same of fields in line, from one place of the cells on. -/
def OpensF (P : Program) {α : Type} (kd : Kd α) (ok : α → Prop) (fs : List Field) (off len : Nat) : Prop :=
  ∀ {H : Type} (enc : TypeId × Value → H) (W : World) (base : Nat) (spare : Nat → Bool) (held : Bool) (n : Nat) (cs : List Value),
    (∀ f ∈ fs, ∃ y, DataW.trod enc P W base spare held n f.type ((cs.drop f.offset).take (P.cellsOf f.type)) = some y) → off + len ≤ cs.length → ∃ a, kd.K W a ((cs.drop off).take len) ∧ ok a
theorem opensF_one {α : Type} {kd : Kd α} {ok : α → Prop} {f : Field} {t off len : Nat} (h : Opens P kd ok t) (ht : f.type = t) (ho : f.offset = off) (hl : P.cellsOf t = len) : OpensF P kd ok [f] off len := by
  intro H enc W base spare held n cs hf _
  obtain ⟨y, hy⟩ := hf f List.mem_cons_self
  subst ht ho hl
  exact h enc W base spare held n _ y hy
theorem opensF_pair {α β : Type} {kd : Kd α} {kd' : Kd β} {ok : α → Prop} {ok' : β → Prop} {f : Field} {fs : List Field} {t off len len' : Nat} (h : Opens P kd ok t) (ht : f.type = t) (ho : f.offset = off) (hl : P.cellsOf t = len)
    (h' : OpensF P kd' ok' fs (off + len) len') : OpensF P (Kd.pair kd kd') (OkPair ok ok') (f :: fs) off (len + len') := by
  intro H enc W base spare held n cs hf hle
  obtain ⟨y, hy⟩ := hf f List.mem_cons_self
  subst ht ho hl
  obtain ⟨a, ha, hoka⟩ := h enc W base spare held n _ y hy
  obtain ⟨b, hb, hokb⟩ := h' enc W base spare held n cs (fun g hg => hf g (List.mem_cons_of_mem _ hg)) (by omega)
  refine ⟨(a, b), ⟨_, _, ?_, ha, hb⟩, hoka, hokb⟩
  rw [List.take_add, List.drop_drop]
theorem opens_struct {α β : Type} {kd : Kd α} {ok : α → Prop} {fs : Array Field} {len : Nat} (ht : P.underlying t = some (.struct fs)) (hc : P.cellsOf t = len) (h : OpensF P kd ok fs.toList 0 len) (f : β → α) (g : α → β) (hg : ∀ a, f (g a) = a) :
    Opens P (Kd.iso kd f) (fun b => ok (f b)) t := by
  intro H enc W base spare held fuel cs x hx
  obtain ⟨xs, n, _, _, hl, hlen, hf⟩ := DataW.trod_struct ht hx
  obtain ⟨a, ha, hok⟩ := h enc W base spare held n cs (fun fd hfd => by
    obtain ⟨i, hi⟩ := List.getElem?_of_mem hfd
    have h1 := hf i fd (by simpa using hi)
    have hi2 : i < xs.length := by
      have := (List.getElem?_eq_some_iff.1 hi).1
      rw [hlen]; simpa using this
    rw [List.getElem?_eq_getElem hi2] at h1
    exact ⟨_, h1⟩) (by omega)
  refine ⟨g a, ?_, by show ok (f (g a)); rw [hg]; exact hok⟩
  show kd.K W (f (g a)) cs
  rw [hg]
  have : (cs.drop 0).take len = cs := by rw [List.drop_zero]; exact List.take_of_length_le (by omega)
  rw [this] at ha
  exact ha
/-! ### a parameter, opened -/
variable {H : Type} {enc : TypeId × Value → H} {W : World} {base : Nat} {spare : Nat → Bool} {held : Bool} {r : Reach} {b0 : Nat} {v : Value} {d : DataW H} {ps : List MemPlace}
theorem param_slice {α : Type} {kd : Kd α} {ok : List α → Prop} (ht : P.underlying t = some (.slice e)) (h : Opens P (Kd.slice e kd) ok t) (hval : Value.okWide P W r b0 t v) (hd : DataW.Trod enc P W base spare held t v d ps) :
    ∃ A c l, v = .slice A l.length c ∧ l.length ≤ c ∧ Kd.C kd W A l.length l ∧ ok l := by
  obtain ⟨a, len, cap, rfl⟩ := okWide_slice ht hval
  obtain ⟨fuel, hf⟩ := hd
  obtain ⟨l, ⟨A, c, hcs, hl, hC⟩, hok⟩ := h enc W base spare held fuel _ _ hf
  have : Value.slice a len cap = Value.slice A l.length c := by simpa [Value.cells] using hcs
  exact ⟨A, c, l, this, hl, hC, hok⟩
end
end Go.Proofs.Ytfejidinfcmfjaa.Opens
/-
  What can be read as data, and is no greater than a machine's memory, reads as a value of its kind.
-/
namespace Go.Proofs.Ytfejidinfcmfjaa.Opens
open Go.ChangeShapes Go.WideShapes Go.ChangeAt Go.RowKit Go.Proofs.YtfejidinfcmfjaaW.PrintWords

section
variable {P : Program} {t e : TypeId}
end
end Go.Proofs.Ytfejidinfcmfjaa.Opens
