/-
  Texts that the claims of this chapter share, joined.
-/
import Derived.RangeFuncWrites
import Derived.Laws.BytesArg
import Derived.WalkKit
import Derived.IntWalk
import Derived.LoopTactic
import Derived.Deep.QuietTactic
import Derived.BigQuiet
import Derived.Laws.BitsLemmas
import Derived.Laws.Slices
import Derived.Test.YtoibofhmlokglaaWMore
import Derived.Test.YtoibofhmlokglaaProg
import Derived.RangeFuncNested
import Derived.RangeFuncBound
import Derived.RangeFuncCalls
import Derived.RangeFuncLeaves
import Derived.RangeFuncBox
import Derived.Shelf.Abstract
import Derived.Shelf.RegionOpen
import Derived.OwnWalkIn
import Derived.TacticsInMore
import Derived.LoopNIn
import Derived.LoopIn
import Derived.Maps.AppendAt
import Derived.Outline
import Derived.Laws.OwnMore
import Derived.Test.YtoibofhmlokglaaPx0
import Derived.OwnWalk
import Derived.Lib.Strings
import Derived.Lib.Slices
import Derived.Lib.Walk
import Derived.Lib.Builder
import Derived.Lib.AppendStr
import Derived.Lib.UnsafeStr
import Derived.Laws.Externs
import Derived.Laws.IdiomCopy
import Derived.Shelf.Strings.BuilderX
import Derived.Test.YtoibofhmlokglaaShelf
import Derived.Test.YtoibofhmlokglaaWWords
import Derived.Below
import Derived.Laws.CopyOwn
import Derived.WalkSpells
set_option linter.unusedVariables false
set_option linter.unusedSimpArgs false
/-
  A range over an iterator that reads rows of its own behind a round: it asks a fact of the world in which it is called.
-/
namespace Go.Proofs.Ytoibofhmlokglaa.P
open Go.RowKit

/-- An iterator's contract, called in a world of which St holds. -/
def SeqSt {α : Type} (n : Nat) (P : Program) (g : Nat) (lb : Array Value) (encs : α → Array Value) (Kp : World → World → Prop) (S : List α → Prop) (St : World → Prop) (N : Nat) (w : World) : Prop :=
  ∀ (l : Nat) (J Jx : List α → World → Prop) (W : World), Below w.heap.size w W → St W → AbidesFrom W.heap.size J → AbidesFrom W.heap.size Jx →
    (∀ pre x W1, J pre W1 → pre.length < N → YieldAt Fence.wide (n - 1) P l (encs x) W1 fun e W' =>
      (e = .returned (.bool true) ∧ J (pre ++ [x]) W' ∧ Kp W1 W') ∨ (e = .returned (.bool false) ∧ Jx (pre ++ [x]) W')) →
    J [] W →
    CallsIn Fence.wide n P g (#[.func (.yield l) #[] #[]] ++ lb) W fun e W' => (∃ v, e = .returned v) ∧ ((∃ xs, S xs ∧ J xs W') ∨ (∃ pre, Jx pre W'))

/-- The two blocks of a loop's book-keeping: the rounds' deferred calls (none), the record behind. -/
def BookAt (b : Nat) (r : Loop) (W : World) : Prop := W.heap[b]? = some (.deferred (some [])) ∧ W.heap[b + 1]? = some (.loop r)
theorem BookAt.kept {b : Nat} {r : Loop} {W W' : World} (h : BookAt b r W) {row : Option Nat} (hg : W.grownBy W' row) (hr : ∀ k, row = some k → ∃ o : Obj, W.heap[k]? = some o ∧ o.isWalk = true) : BookAt b r W' :=
  ⟨(grownBy_keeps hg hr h.1 rfl).trans h.1, (grownBy_keeps hg hr h.2 rfl).trans h.2⟩
theorem BookAt.from {b B : Nat} {r : Loop} {W W' : World} (h : BookAt b r W) (hB : B ≤ b) (hk : KeepsFrom B W W') : BookAt b r W' :=
  ⟨hk.same _ _ hB h.1 rfl, hk.same _ _ (by omega) h.2 rfl⟩
theorem BookAt.put {b : Nat} {r : Loop} {W : World} (r' : Loop) (h : BookAt b r W) : BookAt b r' (W.putObj (b + 1) (.loop r')) :=
  ⟨(World.putObj_heap_other (by omega)).trans h.1, World.putObj_heap_same (Array.getElem?_eq_some_iff.1 h.2).1⟩

/-- How a round ends, told once for each way out of its body. -/
theorem round_end {P : Program} {b : Nat} {r : Loop} {W : World} (jump : Option Code) (h : BookAt b r W) :
    (Instr.endRound (b + 1) jump).run P W = .ok (.bool jump.isNone) (W.putObj (b + 1) (.loop { r with state := if jump.isNone then .ready else .done, pending := jump })) := run_endRound (P := P) jump h.2

set_option maxHeartbeats 1000000 in
theorem wpIn_rangeSt {α : Type} {n : Nat} {P : Program} {g : Operand} {ps : Array Tmp} {assign body : Code} {Q : Exit → Act → World → Prop} {a : Act} {w : World}
    (h1 : 1 ≤ n) {gf : Nat} {lb : Array Value} (hg : a.eval g = .func (.func gf) #[] lb) (eg : ∀ args w, (callFunc gf args).run P w = .ok (.enter gf args) w)
    {encs : α → Array Value} {Kp : World → World → Prop} {S : List α → Prop} {St : World → Prop} {N : Nat} {w0 : World} (hseq : SeqSt (n - 1) P gf lb encs Kp S St N w0) (hSt : ∀ W', Below w.heap.size w W' → St W')
    (hKt : ∀ {A B C : World}, Kp A B → Kp B C → Kp A C) (hKb : ∀ (W : World) (l : Nat) (o o' : Obj), w.heap.size ≤ l → W.heap[l]? = some o → o.isCells = false → o.isWalk = false → Kp W (W.putObj l o'))
    (hb0 : Below w0.heap.size w0 w) (hps : ∀ x, (encs x).size = ps.size)
    (I : List α → World → Prop) (Ix : Code → List α → World → Prop) (hI : OwnFrom w.heap.size I) (hIx : ∀ c, OwnFrom w.heap.size (Ix c)) (h0 : I [] w)
    (hround : ∀ (l : Nat) (pre : List α) (x : α) (W : World), I pre W → pre.length < N → assign.wpIn (Fence.wide.inRound l) (n - 1 - 1) P (Exit.then (fun a₁ W₁ => W₁ = W ∧ ∀ W2, I pre W2 → body.wpIn (Fence.wide.inRound l) (n - 1 - 1) P (ownPostG w.heap.size Kp I Ix (pre ++ [x]) W2) a₁ W2) (fun _ _ _ => False)) { tmps := (ps.zip (encs x)).foldl (fun t (p, v) => t.setIfInBounds p v) a.tmps, defers := [] } W)
    (hdone : ∀ (D : Nat) (xs : List α) (W : World), w.heap.size ≤ D → S xs → I xs W → W.heap[D]? = some (.deferred (some [])) → Q .normal { a with defers := { target := .collected D, args := #[] } :: a.defers } W)
    (hstop : ∀ (D : Nat) (c : Code) (pre : List α) (W : World), w.heap.size ≤ D → Ix c pre W → W.heap[D]? = some (.deferred (some [])) → c.wpIn Fence.wide n P Q { a with defers := { target := .collected D, args := #[] } :: a.defers } W) :
    (Code.rangeFunc g ps assign body).wpIn Fence.wide n P Q a w := by
  refine wpIn_rangeFunc (fun fn _ => ?_)
  obtain ⟨b, hb⟩ : ∃ b, b = w.heap.size := ⟨_, rfl⟩
  obtain ⟨rc, hrc⟩ : ∃ rc : Loop, rc = { state := .ready, pending := none, fn, tmps := a.tmps, params := ps, assign, body, defers := b } := ⟨_, rfl⟩
  obtain ⟨W1, hW1⟩ : ∃ W1, W1 = (w.alloc (.deferred (some []))).alloc (.loop rc) := ⟨_, rfl⟩
  have hsz : W1.heap.size = b + 2 := by rw [hW1, World.size_alloc, World.size_alloc, hb]
  have hbook : BookAt b rc W1 := by
    constructor
    · rw [hW1, hb]; exact (Below.heap_alloc _ _ _ (by simp)).trans (World.alloc_heap_new w _)
    · have := World.alloc_heap_new (w.alloc (.deferred (some []))) (.loop rc)
      rw [World.size_alloc] at this
      rw [hW1, hb]; exact this
  have hI1 : I [] W1 := by rw [hW1]; exact hI.alloc _ (hI.alloc _ h0)
  have hbw : Below b w W1 := by rw [hW1, hb]; exact ((Below.refl _ w).alloc (Nat.le_refl _) _).alloc (by simp) _
  -- what an iterator's step turns is no cells and lies from b on
  have hturn : ∀ {A : World} {row : Option Nat}, (∀ k, row = some k → W1.heap.size ≤ k ∧ ∃ o : Obj, A.heap[k]? = some o ∧ o.isWalk = true) → (∀ k, row = some k → w.heap.size ≤ k ∧ ∃ o : Obj, A.heap[k]? = some o ∧ o.isCells = false) := by
    intro A row hr k e
    obtain ⟨hk, o, ho, hw⟩ := hr k e
    exact ⟨by omega, o, ho, Obj.not_cells_of_walk hw⟩
  refine ⟨b + 1, [{ target := .collected b, args := #[] }], W1, { target := .fn (.func gf) lb, args := #[.func (.yield (b + 1)) #[] #[]] }, W1, gf, #[.func (.yield (b + 1)) #[] #[]] ++ lb, W1, ?_, ?_, fun _ _ => trivial, ?_, fun _ => h1, ?_⟩
  · rw [hW1, hrc, hb]; exact run_enterLoop_outer _ _ _ _ _
  · simp only [resolve, hg]
    simp [go_sem]
  · simp [invoke, go_sem, eg]
  refine (hseq (b + 1) (fun pre W => I pre W ∧ BookAt b rc W) (fun pre W => ∃ c, Ix c pre W ∧ BookAt b { rc with state := .done, pending := some c } W) W1 (hb0.trans (hbw.mono (by rw [hb]; exact hb0.size))) (hSt W1 (by rw [← hb]; exact hbw))
    (fun s A B row hs hg' hr => ⟨hI s A B row hs.1 hg' (hturn hr), hs.2.kept hg' (fun k e => (hr k e).2)⟩)
    (fun s A B row hs hg' hr => ⟨hs.choose, (hIx _) s A B row hs.choose_spec.1 hg' (hturn hr), hs.choose_spec.2.kept hg' (fun k e => (hr k e).2)⟩)
    ?_ ⟨hI1, hbook⟩).mono ?_
  · -- a round
    rintro pre x W ⟨hi, hk⟩ hN
    have hrdy : rc.state = .ready := by rw [hrc]
    have hy := run_yield (P := P) (args := encs x) hk.2 (by rw [hrc]; exact hps x)
    rw [hrc] at hy
    refine ⟨fn, _, assign, body, hy, roundIn_of_wpIn trivial (wpIn_mono (hround _ pre x W hi hN) ?_)⟩
    rintro e a₁ W₁ he
    cases e with
    | exit id => exact he
    | goto t => exact he
    | ret => exact he
    | panic ch => exact he
    | outgrown => exact he
    | normal => ?_
    obtain ⟨hWe, hbody⟩ := he
    rw [hWe]
    clear hWe
    refine ⟨_, run_beginRound hk.2 hrdy, ?_⟩
    have hlo : w.heap.size ≤ b + 1 := by omega
    refine wpIn_mono (hbody _ (hI.putObj _ hi hlo hk.2 rfl)) ?_
    have hk2 := hk.put { rc with state := .busy }
    have hw2 : Kp W (W.putObj (b + 1) (.loop { rc with state := .busy })) := hKb _ _ _ _ hlo hk.2 rfl rfl
    have hover : ∀ (c : Code) (W3 : World), KeepsFrom w.heap.size (W.putObj (b + 1) (.loop { rc with state := .busy })) W3 → Ix c (pre ++ [x]) W3 →
        ∃ v W4, (Instr.endRound (b + 1) (some c)).run P W3 = .ok v W4 ∧ ((Ending.returned v = .returned (.bool true) ∧ (I (pre ++ [x]) W4 ∧ BookAt b rc W4) ∧ Kp W W4) ∨ (Ending.returned v = .returned (.bool false) ∧ ∃ c', Ix c' (pre ++ [x]) W4 ∧ BookAt b { rc with state := .done, pending := some c' } W4)) := by
      intro c W3 hk3 hi3
      have hb3 := hk2.from (by omega) hk3
      exact ⟨_, _, round_end (some c) hb3, .inr ⟨rfl, c, (hIx c).putObj _ hi3 hlo hb3.2 rfl, hb3.put _⟩⟩
    rintro e a3 W3 hp
    cases e with
    | normal =>
      obtain ⟨hk3, hkp3, hi3⟩ := hp
      have hb3 := hk2.from (by omega) hk3
      refine ⟨_, _, round_end none hb3, .inl ⟨rfl, ⟨hI.putObj _ hi3 hlo hb3.2 rfl, ?_⟩, hKt (hKt hw2 hkp3) (hKb _ _ _ _ hlo hb3.2 rfl rfl)⟩⟩
      have := hb3.put { rc with state := .ready, pending := none }
      rw [hrc] at this ⊢
      exact this
    | ret => exact hover .ret W3 hp.1 hp.2
    | exit id => exact hover (.exit id) W3 hp.1 hp.2
    | goto t => exact hover (.goto t) W3 hp.1 hp.2
    | panic ch => exact hp.elim
    | outgrown => exact hp.elim
  · -- behind the iterator
    have hlo : w.heap.size ≤ b + 1 := by omega
    rintro e W2 ⟨⟨v, rfl⟩, (⟨xs, hS, hi, hk⟩ | ⟨pre, c, hi, hk⟩)⟩
    · have hQ := hdone b xs _ (by omega) hS (hI.putObj (.loop { rc with state := .exhausted }) hi hlo hk.2 rfl) ((World.putObj_heap_other (by omega)).trans hk.1)
      refine ⟨none, _, ?_, hQ⟩
      have := run_endLoop (P := P) hk.2 (by rw [hrc]; simp)
      rw [this]
      rw [hrc]
    · have hQ := hstop b c pre _ (by omega) ((hIx c).putObj (.loop { rc with state := .exhausted, pending := some c }) hi hlo hk.2 rfl) ((World.putObj_heap_other (by omega)).trans hk.1)
      exact ⟨some c, _, run_endLoop (P := P) hk.2 (by simp), hQ⟩
end Go.Proofs.Ytoibofhmlokglaa.P
/-
  Plain laws on a number's bytes, highest first, without the leading zeros: no program in sight.
-/
namespace Go.Proofs.CodecPlain

/-- A fact that the walk is not to see. -/
structure As (p : Prop) : Prop where mk :: (out : p)

/-- The byte of n at place k. -/
def nbyte (n : Int) (k : Nat) : Int := n / 256 ^ k % 256
/-- Without the zeros at its head. -/
def lead : List Int → List Int
  | [] => []
  | b :: l => if b = 0 then lead l else b :: l
/-- The first j of the four bytes, the highest first. -/
def tops (n : Int) : Nat → List Int
  | 0 => []
  | j + 1 => tops n j ++ [nbyte n (3 - j)]
/-- A number's bytes. -/
def nbytes (n : Int) : List Int := lead (tops n 4)

/-- A number's text: how many bytes, and the bytes. -/
def numStr (n : Int) : ByteArray := Go.strOfNums (((nbytes n).length : Int) :: nbytes n)

theorem lead_snoc_nil {l : List Int} (h : lead l = []) (b : Int) : lead (l ++ [b]) = if b = 0 then [] else [b] := by
  induction l with
  | nil => by_cases e : b = 0 <;> simp [lead, e]
  | cons c l ih =>
    unfold lead at h
    split at h
    · rename_i e; subst e; simp [lead, ih h]
    · cases h
theorem lead_snoc {l : List Int} (h : lead l ≠ []) (b : Int) : lead (l ++ [b]) = lead l ++ [b] := by
  induction l with
  | nil => exact absurd rfl h
  | cons c l ih =>
    by_cases e : c = 0
    · subst e
      have : lead l ≠ [] := by intro e'; exact h (by simp [lead, e'])
      simp [lead, ih this]
    · simp [lead, e]
theorem tops_length (n : Int) (j : Nat) : (tops n j).length = j := by
  induction j with
  | zero => rfl
  | succ j ih => simp [tops, ih]
theorem lead_length (l : List Int) : (lead l).length ≤ l.length := by
  induction l with
  | nil => simp [lead]
  | cons c l ih => unfold lead; split <;> simp <;> omega
theorem nbytes_length (n : Int) : (nbytes n).length ≤ 4 := by
  have := lead_length (tops n 4); rw [tops_length] at this; exact this
theorem numStr_size (n : Int) : 1 ≤ (numStr n).size ∧ (numStr n).size ≤ 5 := by
  have := nbytes_length n
  have h : (numStr n).size = (nbytes n).length + 1 := by simp [numStr, Go.strOfNums, ByteArray.size]
  omega
/-- A text's text. -/
def textStr (s : ByteArray) : ByteArray := numStr (s.size : Int) ++ s
theorem size_append (a b : ByteArray) : (a ++ b).size = a.size + b.size := ByteArray.size_append
theorem textStr_size (s : ByteArray) : (textStr s).size ≤ s.size + 5 := by
  have := numStr_size (s.size : Int); unfold textStr; rw [size_append]; omega
end Go.Proofs.CodecPlain
/-
  Plain laws on reading a number's bytes: no program in sight.
-/
namespace Go.Proofs.CodecPlain

/-- The number that bytes say, the highest first. -/
def accB (l : List UInt8) : Int := l.foldl (fun a b => a * 256 + (b.toNat : Int)) 0
theorem accB_snoc (l : List UInt8) (b : UInt8) : accB (l ++ [b]) = accB l * 256 + (b.toNat : Int) := by simp [accB]
theorem accB_from (l : List UInt8) : ∀ a : Int, 0 ≤ a → 0 ≤ l.foldl (fun a b => a * 256 + (b.toNat : Int)) a ∧ l.foldl (fun a b => a * 256 + (b.toNat : Int)) a < (a + 1) * 256 ^ l.length := by
  induction l with
  | nil => intro a h; simp; omega
  | cons b l ih =>
    intro a h
    have hb := b.toNat_lt
    have h1 := ih (a * 256 + (b.toNat : Int)) (by omega)
    rw [List.foldl_cons, List.length_cons, Int.pow_succ]
    refine ⟨h1.1, Int.lt_of_lt_of_le h1.2 ?_⟩
    rw [Int.mul_comm (256 ^ l.length) 256, ← Int.mul_assoc]
    exact Int.mul_le_mul_of_nonneg_right (by omega) (Int.le_of_lt (Int.pow_pos (by omega)))
theorem accB_bd (l : List UInt8) : 0 ≤ accB l ∧ accB l < 256 ^ l.length := by
  have := accB_from l 0 (by omega)
  simpa [accB] using this

/-- The first byte of bytes. -/
def hd (s : ByteArray) : Nat := if h : 0 < s.size then (s[0]'h).toNat else 0

/-- What reads as a number at the begin of bytes: it, what stands behind, and whether there is one. -/
def getNum (s : ByteArray) : Int × ByteArray × Bool :=
  if s.size = 0 ∨ 4 < hd s ∨ s.size ≤ hd s then (0, ⟨#[]⟩, false)
  else if hd s ≠ 0 ∧ hd (s.extract 1 (1 + hd s)) = 0 then (0, ⟨#[]⟩, false)
  else (accB (s.extract 1 (1 + hd s)).data.toList, s.extract (1 + hd s) s.size, true)

end Go.Proofs.CodecPlain
/-
  codec.GetNumber, by hand. For every text of a size that a text may have.
-/
namespace Go.Proofs.Ytoibofhmlokglaa.P
open Go.RowKit Go.Proofs.CodecPlain Go.Proofs.YtoibofhmlokglaaW.PrintWords Go.Proofs.YtoibofhmlokglaaW.PrintLast

/-- What codec.GetNumber answers. -/
def codec_GetNumber.f (a0 : ByteArray) : Option (Int × ByteArray × Bool) := some (getNum a0)

theorem toList_ne {s : ByteArray} (h : 0 < s.size) : s.toList.isEmpty = false := by
  rw [ByteArray.toList_eq]
  cases e : s.data.toList with
  | nil =>
    have h1 := congrArg List.length e
    rw [Array.length_toList] at h1
    have h2 : s.size = 0 := h1
    omega
  | cons a l => rfl

theorem getNum_no {s : ByteArray} (h : s.size = 0 ∨ 4 < hd s ∨ s.size ≤ hd s) : getNum s = (0, ⟨#[]⟩, false) := by unfold getNum; rw [if_pos h]

theorem getNum_is (s : ByteArray) (q : 0 < s.size) (h4 : hd s ≤ 4) (h5 : hd s < s.size) :
    getNum s = if hd s ≠ 0 ∧ hd (s.extract 1 (1 + hd s)) = 0 then (0, ⟨#[]⟩, false) else (accB (s.extract 1 (1 + hd s)).data.toList, s.extract (1 + hd s) s.size, true) := by
  unfold getNum; rw [if_neg (by omega)]

theorem hd_at {s : ByteArray} (h : 0 < s.size) : ((s[0]'h).toNat : Int) = (hd s : Int) := by simp [hd, h]

set_option maxHeartbeats 4000000 in
set_option maxRecDepth 100000 in
theorem codec_GetNumber_no (s : ByteArray) (w : World) (h : s.size = 0 ∨ 4 < hd s ∨ s.size ≤ hd s) :
    Calls Try.prog 72 #[.string s] w fun e w' => e = .returned (.tuple #[.int .i64 0, .string ⟨#[]⟩, .bool false]) ∧ Drawn0 w w' := by
  by_cases h0 : s.size = 0
  · obtain rfl : s = ⟨#[]⟩ := by
      cases s; rename_i d; simp [ByteArray.size] at h0; subst h0; rfl
    clear h h0
    go_enter Try.func72, Try.ntmps72
    go_wp2
    go_ret3
    exact ⟨rfl, Drawn0.refl _⟩
  · have q : 0 < s.size := by omega
    have hx := hd_at q
    have hlt : hd s < 256 := by unfold hd; rw [dif_pos q]; exact (s[0]).toNat_lt
    have en := toList_ne q
    obtain ⟨m, hm⟩ : ∃ m, m = hd s := ⟨_, rfl⟩
    rw [← hm] at hx h hlt
    clear h0 hm
    by_cases h4 : 4 < m
    · clear h
      go_enter Try.func72, Try.ntmps72
      go_wp2
      go_ret3
      exact ⟨rfl, Drawn0.refl _⟩
    · have h5 : s.size ≤ m := by omega
      clear h
      go_enter Try.func72, Try.ntmps72
      go_wp2
      go_ret3
      exact ⟨rfl, Drawn0.refl _⟩

theorem accB_take (b : ByteArray) (k : Nat) (h : k < b.size) : accB (b.data.toList.take (k + 1)) = accB (b.data.toList.take k) * 256 + (b[k].toNat : Int) := by
  have hl : k < b.data.toList.length := by rw [Array.length_toList]; exact h
  rw [List.take_succ_eq_append_getElem hl, accB_snoc]
  rfl
theorem accB_lt (b : ByteArray) (k : Nat) (h : k ≤ b.size) (h4 : b.size ≤ 4) (hk : k < b.size) : 0 ≤ accB (b.data.toList.take k) ∧ accB (b.data.toList.take k) < 16777216 := by
  have h1 := accB_bd (b.data.toList.take k)
  have hl : (b.data.toList.take k).length = k := by rw [List.length_take, Array.length_toList]; exact Nat.min_eq_left h
  rw [hl] at h1
  refine ⟨h1.1, Int.lt_of_lt_of_le h1.2 ?_⟩
  match k, h, hk with
  | 0, _, _ => decide
  | 1, _, _ => decide
  | 2, _, _ => decide
  | 3, _, _ => decide
  | k + 4, _, hk => omega
theorem accB_whole (b : ByteArray) : accB (b.data.toList.take b.size) = accB b.data.toList := by
  rw [List.take_of_length_le]; rw [Array.length_toList]; exact Nat.le_refl _
theorem or_byte (x y : Int) (hx : 0 ≤ x) (hx1 : x < 16777216) (hy : 0 ≤ y) (hy1 : y < 256) : Go.bits .or .i64 (x * 256) y = x * 256 + y :=
  bits_join .i64 63 (by decide) (fun n h0 h1 => IntWalk.i64_in n ⟨by omega, by omega⟩) 8 (x * 256) y (by omega) (by omega) (by omega) hy (by omega) (by omega)

set_option maxHeartbeats 4000000 in
set_option maxRecDepth 100000 in
theorem codec_GetNumber_0 (s : ByteArray) (w : World) (q : 0 < s.size) (hm : hd s = 0) (h5 : 0 < s.size) :
    Calls Try.prog 72 #[.string s] w fun e w' => e = .returned (.tuple #[.int .i64 (getNum s).1, .string (getNum s).2.1, .bool (getNum s).2.2]) ∧ Drawn0 w w' := by
  have hx := hd_at q
  have en := toList_ne q
  have hg0 := getNum_is s q (by omega) (by omega)
  rw [hm] at hx hg0
  have HG := Aside0.mk hg0
  clear hg0 hm
  have hw0 : IntKind.i64.wrap (1 + 0) = 1 := rfl
  have hi0 : (1 : Int) ≤ 1 := by omega
  have hi1 : 1 ≤ s.size := by omega
  have hi2 : (1 : Int) ≤ (s.size : Int) := by omega
  have hem : decide (s = ByteArray.empty) = false := decide_eq_false (by rintro rfl; exact absurd q (by decide))
  have hbs := Aside0.mk (show (s.extract 1 1).size = 0 by rw [ByteArray.size_extract]; omega)
  go_enter Try.func72, Try.ntmps72
  go_wp2
  go_quiet (fail)
  clear en hi1 hi2 hx hw0 hi0 h5 hem
  have he : s.extract 1 1 = ⟨#[]⟩ := by
    have := hbs.out
    cases h : s.extract 1 1 with
    | mk d => rw [h] at this; simp [ByteArray.size] at this; rw [this]
  have he0 : ByteArray.empty = ⟨#[]⟩ := rfl
  rw [he0]
  clear he0
  go_wp2
  go_loopw [7, 8, 46] (fun v _ i wr => v = .int .i64 0 ∧ i = .int .i64 0 ∧ Drawn0 w wr) (fun _ _ i _ => 0)
  case atStart => exact ⟨rfl, rfl, by repeat (first | exact Drawn0.refl _ | apply Drawn0.step)⟩
  case round =>
    obtain ⟨rfl, rfl, ⟨n, rfl⟩⟩ := hrel
    go_wp2
    go_ret3
    refine ⟨?_, ⟨_, rfl⟩⟩
    rw [HG.out, if_neg (by simp)]
    simp only [Nat.add_zero, he]
    rfl
set_option maxHeartbeats 4000000 in
set_option maxRecDepth 100000 in
theorem codec_GetNumber_1 (s : ByteArray) (w : World) (q : 0 < s.size) (hm : hd s = 1) (h5 : 1 < s.size) :
    Calls Try.prog 72 #[.string s] w fun e w' => e = .returned (.tuple #[.int .i64 (getNum s).1, .string (getNum s).2.1, .bool (getNum s).2.2]) ∧ Drawn0 w w' := by
  have hx := hd_at q
  have en := toList_ne q
  have hg0 := getNum_is s q (by omega) (by omega)
  rw [hm] at hx hg0
  have HG := Aside0.mk hg0
  clear hg0 hm
  have hw0 : IntKind.i64.wrap (1 + 1) = 2 := rfl
  have hi0 : (1 : Int) ≤ 2 := by omega
  have hi1 : 2 ≤ s.size := by omega
  have hi2 : (2 : Int) ≤ (s.size : Int) := by omega
  have hem : decide (s = ByteArray.empty) = false := decide_eq_false (by rintro rfl; exact absurd q (by decide))
  have hbs := Aside0.mk (show (s.extract 1 2).size = 1 by rw [ByteArray.size_extract]; omega)
  go_enter Try.func72, Try.ntmps72
  go_wp2
  go_quiet (fail)
  clear en hi1 hi2 hx hw0 hi0 h5 hem
  generalize s.extract 1 2 = b at *
  have q0 : 0 < b.size := by rw [hbs.out]; omega
  have hx := hd_at q0
  have en := toList_ne q0
  have en2 : b.toList ≠ [] := by intro h; rw [h] at en; cases en
  obtain ⟨h0, hh0⟩ : ∃ h0, h0 = hd b := ⟨_, rfl⟩
  rw [← hh0] at hx
  have HH := Aside0.mk hh0
  clear hh0
  by_cases hz : (h0 : Int) = 0
  · have e1 : ((h0 : Int) == 0) = true := by simpa using hz
    have HZ := Aside0.mk hz
    clear hz
    go_wp2
    go_ret3
    refine ⟨?_, by repeat (first | exact Drawn0.refl _ | apply Drawn0.step)⟩
    rw [HG.out, if_pos ⟨by omega, by rw [← HH.out]; have := HZ.out; omega⟩]
    rfl
  · have e1 : ((h0 : Int) == 0) = false := by simpa using hz
    have HZ := Aside0.mk hz
    clear hz
    go_wp2
    clear en en2 e1 hx
    clear q0
    have hlen : (b.size : Int) = 1 := by rw [hbs.out]; rfl
    go_loopw [7, 8, 46] (fun v _ i wr => ∃ k : Nat, k ≤ b.size ∧ i = .int .i64 k ∧ v = .int .i64 (accB (b.data.toList.take k)) ∧ Drawn0 w wr) (fun _ _ i _ => b.size - (intOf i).toNat)
    case atStart => exact ⟨0, Nat.zero_le _, rfl, rfl, by repeat (first | exact Drawn0.refl _ | apply Drawn0.step)⟩
    case round =>
      obtain ⟨k, hk, rfl, rfl, ⟨n, rfl⟩⟩ := hrel
      by_cases hlt : k < b.size
      · have hb1 := accB_lt b k hk (by omega) hlt
        have hb2 := b[k].toNat_lt
        have hob := or_byte (accB (b.data.toList.take k)) (b[k].toNat : Int) hb1.1 hb1.2 (by omega) (by omega)
        have hnx := Aside0.mk (accB_take b k hlt)
        go_wp2
        go_roundw
        case rel => exact ⟨k + 1, by omega, by go_num, by rw [hnx.out], ⟨_, rfl⟩⟩
        case measure => simp [intOf]; omega
      · obtain rfl : k = b.size := by omega
        have haw := Aside0.mk (accB_whole b)
        go_wp2
        go_ret3
        refine ⟨?_, ⟨_, rfl⟩⟩
        rw [HG.out, if_neg (by rintro ⟨_, h⟩; have h1 := HH.out; have h2 := HZ.out; omega), haw.out]
        rfl
set_option maxHeartbeats 4000000 in
set_option maxRecDepth 100000 in
theorem codec_GetNumber_2 (s : ByteArray) (w : World) (q : 0 < s.size) (hm : hd s = 2) (h5 : 2 < s.size) :
    Calls Try.prog 72 #[.string s] w fun e w' => e = .returned (.tuple #[.int .i64 (getNum s).1, .string (getNum s).2.1, .bool (getNum s).2.2]) ∧ Drawn0 w w' := by
  have hx := hd_at q
  have en := toList_ne q
  have hg0 := getNum_is s q (by omega) (by omega)
  rw [hm] at hx hg0
  have HG := Aside0.mk hg0
  clear hg0 hm
  have hw0 : IntKind.i64.wrap (1 + 2) = 3 := rfl
  have hi0 : (1 : Int) ≤ 3 := by omega
  have hi1 : 3 ≤ s.size := by omega
  have hi2 : (3 : Int) ≤ (s.size : Int) := by omega
  have hem : decide (s = ByteArray.empty) = false := decide_eq_false (by rintro rfl; exact absurd q (by decide))
  have hbs := Aside0.mk (show (s.extract 1 3).size = 2 by rw [ByteArray.size_extract]; omega)
  go_enter Try.func72, Try.ntmps72
  go_wp2
  go_quiet (fail)
  clear en hi1 hi2 hx hw0 hi0 h5 hem
  generalize s.extract 1 3 = b at *
  have q0 : 0 < b.size := by rw [hbs.out]; omega
  have hx := hd_at q0
  have en := toList_ne q0
  have en2 : b.toList ≠ [] := by intro h; rw [h] at en; cases en
  obtain ⟨h0, hh0⟩ : ∃ h0, h0 = hd b := ⟨_, rfl⟩
  rw [← hh0] at hx
  have HH := Aside0.mk hh0
  clear hh0
  by_cases hz : (h0 : Int) = 0
  · have e1 : ((h0 : Int) == 0) = true := by simpa using hz
    have HZ := Aside0.mk hz
    clear hz
    go_wp2
    go_ret3
    refine ⟨?_, by repeat (first | exact Drawn0.refl _ | apply Drawn0.step)⟩
    rw [HG.out, if_pos ⟨by omega, by rw [← HH.out]; have := HZ.out; omega⟩]
    rfl
  · have e1 : ((h0 : Int) == 0) = false := by simpa using hz
    have HZ := Aside0.mk hz
    clear hz
    go_wp2
    clear en en2 e1 hx
    clear q0
    have hlen : (b.size : Int) = 2 := by rw [hbs.out]; rfl
    go_loopw [7, 8, 46] (fun v _ i wr => ∃ k : Nat, k ≤ b.size ∧ i = .int .i64 k ∧ v = .int .i64 (accB (b.data.toList.take k)) ∧ Drawn0 w wr) (fun _ _ i _ => b.size - (intOf i).toNat)
    case atStart => exact ⟨0, Nat.zero_le _, rfl, rfl, by repeat (first | exact Drawn0.refl _ | apply Drawn0.step)⟩
    case round =>
      obtain ⟨k, hk, rfl, rfl, ⟨n, rfl⟩⟩ := hrel
      by_cases hlt : k < b.size
      · have hb1 := accB_lt b k hk (by omega) hlt
        have hb2 := b[k].toNat_lt
        have hob := or_byte (accB (b.data.toList.take k)) (b[k].toNat : Int) hb1.1 hb1.2 (by omega) (by omega)
        have hnx := Aside0.mk (accB_take b k hlt)
        go_wp2
        go_roundw
        case rel => exact ⟨k + 1, by omega, by go_num, by rw [hnx.out], ⟨_, rfl⟩⟩
        case measure => simp [intOf]; omega
      · obtain rfl : k = b.size := by omega
        have haw := Aside0.mk (accB_whole b)
        go_wp2
        go_ret3
        refine ⟨?_, ⟨_, rfl⟩⟩
        rw [HG.out, if_neg (by rintro ⟨_, h⟩; have h1 := HH.out; have h2 := HZ.out; omega), haw.out]
        rfl
set_option maxHeartbeats 4000000 in
set_option maxRecDepth 100000 in
theorem codec_GetNumber_3 (s : ByteArray) (w : World) (q : 0 < s.size) (hm : hd s = 3) (h5 : 3 < s.size) :
    Calls Try.prog 72 #[.string s] w fun e w' => e = .returned (.tuple #[.int .i64 (getNum s).1, .string (getNum s).2.1, .bool (getNum s).2.2]) ∧ Drawn0 w w' := by
  have hx := hd_at q
  have en := toList_ne q
  have hg0 := getNum_is s q (by omega) (by omega)
  rw [hm] at hx hg0
  have HG := Aside0.mk hg0
  clear hg0 hm
  have hw0 : IntKind.i64.wrap (1 + 3) = 4 := rfl
  have hi0 : (1 : Int) ≤ 4 := by omega
  have hi1 : 4 ≤ s.size := by omega
  have hi2 : (4 : Int) ≤ (s.size : Int) := by omega
  have hem : decide (s = ByteArray.empty) = false := decide_eq_false (by rintro rfl; exact absurd q (by decide))
  have hbs := Aside0.mk (show (s.extract 1 4).size = 3 by rw [ByteArray.size_extract]; omega)
  go_enter Try.func72, Try.ntmps72
  go_wp2
  go_quiet (fail)
  clear en hi1 hi2 hx hw0 hi0 h5 hem
  generalize s.extract 1 4 = b at *
  have q0 : 0 < b.size := by rw [hbs.out]; omega
  have hx := hd_at q0
  have en := toList_ne q0
  have en2 : b.toList ≠ [] := by intro h; rw [h] at en; cases en
  obtain ⟨h0, hh0⟩ : ∃ h0, h0 = hd b := ⟨_, rfl⟩
  rw [← hh0] at hx
  have HH := Aside0.mk hh0
  clear hh0
  by_cases hz : (h0 : Int) = 0
  · have e1 : ((h0 : Int) == 0) = true := by simpa using hz
    have HZ := Aside0.mk hz
    clear hz
    go_wp2
    go_ret3
    refine ⟨?_, by repeat (first | exact Drawn0.refl _ | apply Drawn0.step)⟩
    rw [HG.out, if_pos ⟨by omega, by rw [← HH.out]; have := HZ.out; omega⟩]
    rfl
  · have e1 : ((h0 : Int) == 0) = false := by simpa using hz
    have HZ := Aside0.mk hz
    clear hz
    go_wp2
    clear en en2 e1 hx
    clear q0
    have hlen : (b.size : Int) = 3 := by rw [hbs.out]; rfl
    go_loopw [7, 8, 46] (fun v _ i wr => ∃ k : Nat, k ≤ b.size ∧ i = .int .i64 k ∧ v = .int .i64 (accB (b.data.toList.take k)) ∧ Drawn0 w wr) (fun _ _ i _ => b.size - (intOf i).toNat)
    case atStart => exact ⟨0, Nat.zero_le _, rfl, rfl, by repeat (first | exact Drawn0.refl _ | apply Drawn0.step)⟩
    case round =>
      obtain ⟨k, hk, rfl, rfl, ⟨n, rfl⟩⟩ := hrel
      by_cases hlt : k < b.size
      · have hb1 := accB_lt b k hk (by omega) hlt
        have hb2 := b[k].toNat_lt
        have hob := or_byte (accB (b.data.toList.take k)) (b[k].toNat : Int) hb1.1 hb1.2 (by omega) (by omega)
        have hnx := Aside0.mk (accB_take b k hlt)
        go_wp2
        go_roundw
        case rel => exact ⟨k + 1, by omega, by go_num, by rw [hnx.out], ⟨_, rfl⟩⟩
        case measure => simp [intOf]; omega
      · obtain rfl : k = b.size := by omega
        have haw := Aside0.mk (accB_whole b)
        go_wp2
        go_ret3
        refine ⟨?_, ⟨_, rfl⟩⟩
        rw [HG.out, if_neg (by rintro ⟨_, h⟩; have h1 := HH.out; have h2 := HZ.out; omega), haw.out]
        rfl
set_option maxHeartbeats 4000000 in
set_option maxRecDepth 100000 in
theorem codec_GetNumber_4 (s : ByteArray) (w : World) (q : 0 < s.size) (hm : hd s = 4) (h5 : 4 < s.size) :
    Calls Try.prog 72 #[.string s] w fun e w' => e = .returned (.tuple #[.int .i64 (getNum s).1, .string (getNum s).2.1, .bool (getNum s).2.2]) ∧ Drawn0 w w' := by
  have hx := hd_at q
  have en := toList_ne q
  have hg0 := getNum_is s q (by omega) (by omega)
  rw [hm] at hx hg0
  have HG := Aside0.mk hg0
  clear hg0 hm
  have hw0 : IntKind.i64.wrap (1 + 4) = 5 := rfl
  have hi0 : (1 : Int) ≤ 5 := by omega
  have hi1 : 5 ≤ s.size := by omega
  have hi2 : (5 : Int) ≤ (s.size : Int) := by omega
  have hem : decide (s = ByteArray.empty) = false := decide_eq_false (by rintro rfl; exact absurd q (by decide))
  have hbs := Aside0.mk (show (s.extract 1 5).size = 4 by rw [ByteArray.size_extract]; omega)
  go_enter Try.func72, Try.ntmps72
  go_wp2
  go_quiet (fail)
  clear en hi1 hi2 hx hw0 hi0 h5 hem
  generalize s.extract 1 5 = b at *
  have q0 : 0 < b.size := by rw [hbs.out]; omega
  have hx := hd_at q0
  have en := toList_ne q0
  have en2 : b.toList ≠ [] := by intro h; rw [h] at en; cases en
  obtain ⟨h0, hh0⟩ : ∃ h0, h0 = hd b := ⟨_, rfl⟩
  rw [← hh0] at hx
  have HH := Aside0.mk hh0
  clear hh0
  by_cases hz : (h0 : Int) = 0
  · have e1 : ((h0 : Int) == 0) = true := by simpa using hz
    have HZ := Aside0.mk hz
    clear hz
    go_wp2
    go_ret3
    refine ⟨?_, by repeat (first | exact Drawn0.refl _ | apply Drawn0.step)⟩
    rw [HG.out, if_pos ⟨by omega, by rw [← HH.out]; have := HZ.out; omega⟩]
    rfl
  · have e1 : ((h0 : Int) == 0) = false := by simpa using hz
    have HZ := Aside0.mk hz
    clear hz
    go_wp2
    clear en en2 e1 hx
    clear q0
    have hlen : (b.size : Int) = 4 := by rw [hbs.out]; rfl
    go_loopw [7, 8, 46] (fun v _ i wr => ∃ k : Nat, k ≤ b.size ∧ i = .int .i64 k ∧ v = .int .i64 (accB (b.data.toList.take k)) ∧ Drawn0 w wr) (fun _ _ i _ => b.size - (intOf i).toNat)
    case atStart => exact ⟨0, Nat.zero_le _, rfl, rfl, by repeat (first | exact Drawn0.refl _ | apply Drawn0.step)⟩
    case round =>
      obtain ⟨k, hk, rfl, rfl, ⟨n, rfl⟩⟩ := hrel
      by_cases hlt : k < b.size
      · have hb1 := accB_lt b k hk (by omega) hlt
        have hb2 := b[k].toNat_lt
        have hob := or_byte (accB (b.data.toList.take k)) (b[k].toNat : Int) hb1.1 hb1.2 (by omega) (by omega)
        have hnx := Aside0.mk (accB_take b k hlt)
        go_wp2
        go_roundw
        case rel => exact ⟨k + 1, by omega, by go_num, by rw [hnx.out], ⟨_, rfl⟩⟩
        case measure => simp [intOf]; omega
      · obtain rfl : k = b.size := by omega
        have haw := Aside0.mk (accB_whole b)
        go_wp2
        go_ret3
        refine ⟨?_, ⟨_, rfl⟩⟩
        rw [HG.out, if_neg (by rintro ⟨_, h⟩; have h1 := HH.out; have h2 := HZ.out; omega), haw.out]
        rfl
theorem codec_GetNumber.calls (a0 : ByteArray) (r1 : Int) (r2 : ByteArray) (r3 : Bool) (w : World) (h : codec_GetNumber.f a0 = some (r1, r2, r3)) :
    Calls Try.prog 72 #[.string a0] w fun e w' => e = .returned (.tuple #[.int .i64 r1, .string r2, .bool r3]) ∧ Drawn0 w w' := by
  have hg : getNum a0 = (r1, r2, r3) := by simpa [codec_GetNumber.f] using h
  by_cases hno : a0.size = 0 ∨ 4 < hd a0 ∨ a0.size ≤ hd a0
  · have h2 := getNum_no hno
    rw [hg] at h2
    simp only [Prod.mk.injEq] at h2
    obtain ⟨rfl, rfl, rfl⟩ := h2
    exact codec_GetNumber_no a0 w hno
  · have q : 0 < a0.size := by omega
    have h5 : hd a0 < a0.size := by omega
    have hm : hd a0 = 0 ∨ hd a0 = 1 ∨ hd a0 = 2 ∨ hd a0 = 3 ∨ hd a0 = 4 := by omega
    rcases hm with hm | hm | hm | hm | hm
    · have := codec_GetNumber_0 a0 w q hm (by omega); rw [hg] at this; exact this
    · have := codec_GetNumber_1 a0 w q hm (by omega); rw [hg] at this; exact this
    · have := codec_GetNumber_2 a0 w q hm (by omega); rw [hg] at this; exact this
    · have := codec_GetNumber_3 a0 w q hm (by omega); rw [hg] at this; exact this
    · have := codec_GetNumber_4 a0 w q hm (by omega); rw [hg] at this; exact this
end Go.Proofs.Ytoibofhmlokglaa.P
/-
  Plain laws on reading texts and rows: no program in sight.
-/
namespace Go.Proofs.CodecPlain

/-- What reads as a text at the begin of bytes. -/
def getText (s : ByteArray) : ByteArray × ByteArray × Bool :=
  if (getNum s).2.2 = true ∧ (getNum s).1 ≤ 4000 ∧ (getNum s).1 ≤ ((getNum s).2.1.size : Int) then
    ((getNum s).2.1.extract 0 (getNum s).1.toNat, (getNum s).2.1.extract (getNum s).1.toNat (getNum s).2.1.size, true)
  else (⟨#[]⟩, ⟨#[]⟩, false)
theorem getNum_bd (s : ByteArray) : 0 ≤ (getNum s).1 ∧ (getNum s).1 < 4294967296 := by
  unfold getNum
  split
  · exact ⟨by decide, by decide⟩
  · split
    · exact ⟨by decide, by decide⟩
    · rename_i h _
      have h1 := accB_bd (s.extract 1 (1 + hd s)).data.toList
      have hl : (s.extract 1 (1 + hd s)).data.toList.length = hd s := by
        rw [Array.length_toList]
        show (s.extract 1 (1 + hd s)).size = _
        rw [ByteArray.size_extract]; omega
      rw [hl] at h1
      refine ⟨h1.1, Int.lt_of_lt_of_le h1.2 ?_⟩
      have : hd s ≤ 4 := by omega
      match hd s, this with
      | 0, _ => decide
      | 1, _ => decide
      | 2, _ => decide
      | 3, _ => decide
      | 4, _ => decide
end Go.Proofs.CodecPlain
/-
  Plain laws on numbers', texts' and rows' bytes: what is laid is read, what is read is laid. No program in sight.
-/
namespace Go.Proofs.CodecPlain

theorem ba_ext {a b : ByteArray} (h : a.data.toList = b.data.toList) : a = b := by
  cases a; cases b
  rename_i x y
  have : x = y := by cases x; cases y; simpa using h
  rw [this]
theorem ext_list (s : ByteArray) (a b : Nat) : (s.extract a b).data.toList = (s.data.toList.drop a).take (b - a) := by
  rw [ByteArray.data_extract, Array.toList_extract]
theorem app_list (a b : ByteArray) : (a ++ b).data.toList = a.data.toList ++ b.data.toList := by
  rw [ByteArray.data_append, Array.toList_append]
theorem len_list (a : ByteArray) : a.data.toList.length = a.size := by rw [Array.length_toList]; rfl

/-! ### a number's bytes -/
theorem nbytes_zero : nbytes 0 = [] := by decide
theorem tops4 (x : Int) : tops x 4 = [nbyte x 3, nbyte x 2, nbyte x 1, nbyte x 0] := rfl
theorem nbytes_rec (x : Int) (h0 : 0 < x) (h1 : x < 4294967296) : nbytes x = nbytes (x / 256) ++ [x % 256] := by
  have e3 : nbyte (x / 256) 3 = 0 := by unfold nbyte; omega
  have e2 : nbyte (x / 256) 2 = nbyte x 3 := by unfold nbyte; omega
  have e1 : nbyte (x / 256) 1 = nbyte x 2 := by unfold nbyte; omega
  have e0 : nbyte (x / 256) 0 = nbyte x 1 := by unfold nbyte; omega
  have e : nbyte x 0 = x % 256 := by unfold nbyte; omega
  have hl : nbytes (x / 256) = lead [nbyte x 3, nbyte x 2, nbyte x 1] := by
    unfold nbytes; rw [tops4, e3, e2, e1, e0]; simp [lead]
  have hr : nbytes x = lead ([nbyte x 3, nbyte x 2, nbyte x 1] ++ [x % 256]) := by
    unfold nbytes; rw [tops4, e]; rfl
  rw [hr, hl]
  by_cases hn : lead [nbyte x 3, nbyte x 2, nbyte x 1] = []
  · rw [lead_snoc_nil hn, hn]
    have : x % 256 ≠ 0 := by
      have z3 : nbyte x 3 = 0 := by
        by_cases z : nbyte x 3 = 0
        · exact z
        · simp [lead, z] at hn
      have z2 : nbyte x 2 = 0 := by
        by_cases z : nbyte x 2 = 0
        · exact z
        · simp [lead, z, z3] at hn
      have z1 : nbyte x 1 = 0 := by
        by_cases z : nbyte x 1 = 0
        · exact z
        · simp [lead, z, z2, z3] at hn
      unfold nbyte at z1 z2 z3
      omega
    rw [if_neg this]; rfl
  · rw [lead_snoc hn]
/-- A byte's number as a byte. -/
def u8 (n : Int) : UInt8 := UInt8.ofNat n.toNat
theorem u8_toNat {n : Int} (h0 : 0 ≤ n) (h1 : n < 256) : ((u8 n).toNat : Int) = n := by
  have : (u8 n).toNat = n.toNat % 256 := by simp [u8, UInt8.toNat_ofNat']
  omega
theorem u8_of (b : UInt8) : u8 (b.toNat : Int) = b := by
  apply UInt8.toNat_inj.1
  have h := b.toNat_lt
  have := u8_toNat (n := (b.toNat : Int)) (by omega) (by omega)
  omega
theorem nat_ind {P : Int → Prop} (h : ∀ x, 0 ≤ x → (∀ y, 0 ≤ y → y < x → P y) → P x) : ∀ x, 0 ≤ x → P x := by
  have key : ∀ n : Nat, ∀ x : Int, 0 ≤ x → x.toNat < n → P x := by
    intro n
    induction n with
    | zero => intro x _ hx; omega
    | succ n ih => intro x h0 hx; exact h x h0 (fun y hy hlt => ih y hy (by omega))
  exact fun x hx => key (x.toNat + 1) x hx (by omega)
theorem accB_nbytes : ∀ x : Int, 0 ≤ x → x < 4294967296 → accB ((nbytes x).map u8) = x := by
  apply nat_ind
  intro x h0 ih h1
  by_cases hz : x = 0
  · subst hz; rw [nbytes_zero]; rfl
  · rw [nbytes_rec x (by omega) h1, List.map_append, List.map_singleton, accB_snoc, ih (x / 256) (by omega) (by omega) (by omega), u8_toNat (by omega) (by omega)]
    omega
theorem nbytes_head : ∀ x : Int, 0 ≤ x → x < 4294967296 → ∀ b l, nbytes x = b :: l → 0 < b ∧ b < 256 := by
  apply nat_ind
  intro x h0 ih h1 b l hb
  by_cases hz : x = 0
  · subst hz; rw [nbytes_zero] at hb; cases hb
  · rw [nbytes_rec x (by omega) h1] at hb
    cases hc : nbytes (x / 256) with
    | nil =>
      rw [hc] at hb
      simp at hb
      by_cases hy : x / 256 = 0
      · omega
      · exfalso
        rw [nbytes_rec (x / 256) (by omega) (by omega)] at hc
        simp at hc
    | cons c m =>
      rw [hc] at hb
      simp at hb
      have := ih (x / 256) (by omega) (by omega) (by omega) c m hc
      omega
theorem nbytes_accB : ∀ (n : Nat) (l : List UInt8), l.length = n → n ≤ 4 → (∀ b m, l = b :: m → b.toNat ≠ 0) → (nbytes (accB l)).map u8 = l ∧ (l ≠ [] → 0 < accB l) := by
  intro n
  induction n with
  | zero => intro l hl _ _; cases l with | nil => exact ⟨rfl, fun h => absurd rfl h⟩ | cons _ _ => simp at hl
  | succ n ih =>
    intro l hl h4 hh
    have hne : l ≠ [] := by intro e; rw [e] at hl; simp at hl
    have hsp := List.dropLast_concat_getLast hne
    generalize l.dropLast = m at hsp
    generalize l.getLast hne = b at hsp
    subst hsp
    have hm : m.length = n := by simp at hl; exact hl
    have hb := b.toNat_lt
    have hbd := accB_bd (m ++ [b])
    have hbm := accB_bd m
    have h256 : accB (m ++ [b]) < 4294967296 := Int.lt_of_lt_of_le hbd.2 (by
      rw [hl]
      match n, h4 with
      | 0, _ => decide
      | 1, _ => decide
      | 2, _ => decide
      | 3, _ => decide)
    have hsn := accB_snoc m b
    have ih' := ih m hm (by omega) (fun c k e => hh c (k ++ [b]) (by rw [e]; rfl))
    have hpos : 0 < accB (m ++ [b]) := by
      cases m with
      | nil => have := hh b [] rfl; rw [hsn]; simp [accB]; omega
      | cons c k => have := ih'.2 (by simp); omega
    refine ⟨?_, fun _ => hpos⟩
    rw [nbytes_rec _ hpos h256]
    have e1 : accB (m ++ [b]) / 256 = accB m := by omega
    have e2 : accB (m ++ [b]) % 256 = (b.toNat : Int) := by omega
    rw [e1, e2, List.map_append, ih'.1, List.map_singleton, u8_of]

theorem numStr_list (n : Int) : (numStr n).data.toList = u8 ((nbytes n).length : Int) :: (nbytes n).map u8 := by
  simp [numStr, Go.strOfNums, u8]
theorem numStr_sz (n : Int) : (numStr n).size = 1 + (nbytes n).length := by rw [← len_list, numStr_list]; simp; omega
theorem hd_list (s : ByteArray) : hd s = match s.data.toList with | [] => 0 | b :: _ => b.toNat := by
  cases s with | mk d => cases d with | mk l =>
    cases l with
    | nil => unfold hd; rw [dif_neg (by show ¬ 0 < 0; omega)]
    | cons b l => unfold hd; rw [dif_pos (by show 0 < l.length + 1; omega)]; rfl

/-- What is laid is read. -/
theorem getNum_put (n : Int) (h0 : 0 ≤ n) (h1 : n ≤ 4294967295) (rest : ByteArray) : getNum (numStr n ++ rest) = (n, rest, true) := by
  have hl := nbytes_length n
  have hlist : (numStr n ++ rest).data.toList = u8 ((nbytes n).length : Int) :: ((nbytes n).map u8 ++ rest.data.toList) := by rw [app_list, numStr_list]; rfl
  have hhd : hd (numStr n ++ rest) = (nbytes n).length := by
    rw [hd_list, hlist]
    have := u8_toNat (n := ((nbytes n).length : Int)) (by omega) (by omega)
    show (u8 _).toNat = _
    omega
  have hsz : (numStr n ++ rest).size = 1 + (nbytes n).length + rest.size := by rw [size_append, numStr_sz]
  have hb : ((numStr n ++ rest).extract 1 (1 + (nbytes n).length)).data.toList = (nbytes n).map u8 := by
    rw [ext_list, hlist, Nat.add_sub_cancel_left, List.drop_one, List.tail_cons]
    rw [List.take_append_of_le_length (by simp)]
    rw [List.take_of_length_le (by simp)]
  have hr : (numStr n ++ rest).extract (1 + (nbytes n).length) (numStr n ++ rest).size = rest := by
    apply ba_ext
    rw [ext_list, hlist, Nat.add_comm 1, List.drop_succ_cons, List.drop_append_of_le_length (by simp), List.drop_of_length_le (by simp), List.nil_append]
    rw [List.take_of_length_le]
    rw [len_list]; omega
  unfold getNum
  rw [hhd, if_neg (by omega), if_neg, hb, hr, accB_nbytes n h0 (by omega)]
  rintro ⟨hne, hz⟩
  rw [hd_list, hb] at hz
  cases hc : nbytes n with
  | nil => rw [hc] at hne; simp at hne
  | cons b l =>
    rw [hc] at hz
    have := nbytes_head n h0 (by omega) b l hc
    have h2 := u8_toNat (n := b) (by omega) this.2
    simp at hz
    omega
/-- What is read is laid. -/
theorem getNum_got {s : ByteArray} {n : Int} {rest : ByteArray} (h : getNum s = (n, rest, true)) : 0 ≤ n ∧ n ≤ 4294967295 ∧ s = numStr n ++ rest := by
  have hbd := getNum_bd s
  rw [h] at hbd
  refine ⟨hbd.1, by have := hbd.2; simp only at this; omega, ?_⟩
  unfold getNum at h
  split at h
  · simp at h
  · rename_i h1
    split at h
    · simp at h
    · rename_i h2
      simp only [Prod.mk.injEq, and_true] at h
      obtain ⟨rfl, rfl⟩ := h
      have hbl : ((s.extract 1 (1 + hd s)).data.toList).length = hd s := by rw [len_list, ByteArray.size_extract]; omega
      have hk := nbytes_accB (hd s) _ hbl (by omega) (by
        intro b m e hz
        apply h2
        refine ⟨fun h0 => by rw [e] at hbl; simp at hbl; omega, ?_⟩
        rw [hd_list, e]; exact hz)
      apply ba_ext
      have hlen : (nbytes (accB (s.extract 1 (1 + hd s)).data.toList)).length = hd s := by
        have := congrArg List.length hk.1
        rw [List.length_map, hbl] at this
        exact this
      rw [app_list, numStr_list, hk.1, hlen, ext_list, ext_list]
      cases hs : s.data.toList with
      | nil => have := len_list s; rw [hs] at this; simp at this; omega
      | cons b l =>
        have hb : hd s = b.toNat := by rw [hd_list, hs]
        have hsz : s.size = l.length + 1 := by rw [← len_list, hs]; rfl
        rw [hb, u8_of, Nat.add_comm 1, Nat.add_sub_cancel, List.drop_one, List.tail_cons, List.drop_succ_cons, List.cons_append]
        rw [List.take_of_length_le (l := l.drop b.toNat) (by rw [List.length_drop]; omega), List.take_append_drop]

/-! ### texts -/
theorem getText_got {s t rest : ByteArray} (h : getText s = (t, rest, true)) : t.size ≤ 4000 ∧ s = textStr t ++ rest := by
  unfold getText at h
  split at h
  · rename_i hc
    obtain ⟨n, r, ok, hn⟩ : ∃ n r ok, getNum s = (n, r, ok) := ⟨_, _, _, rfl⟩
    rw [hn] at h hc
    simp only at h hc
    obtain ⟨rfl, hc1, hc2⟩ := hc
    obtain ⟨h0, h1, hs⟩ := getNum_got hn
    simp only [Prod.mk.injEq, and_true] at h
    obtain ⟨rfl, rfl⟩ := h
    have hsz : ((r.extract 0 n.toNat).size : Int) = n := by rw [ByteArray.size_extract]; omega
    refine ⟨by omega, ?_⟩
    unfold textStr
    rw [hsz, ByteArray.append_assoc, hs]
    congr 1
    apply ba_ext
    rw [app_list, ext_list, ext_list, List.drop_zero, Nat.sub_zero]
    rw [List.take_of_length_le (l := r.data.toList.drop n.toNat) (by rw [List.length_drop, len_list]; omega), List.take_append_drop]
  · simp at h
theorem getNum_no' {s : ByteArray} (h : (getNum s).2.2 = false) : getNum s = (0, ⟨#[]⟩, false) := by
  unfold getNum at h ⊢
  split
  · rfl
  · split
    · rfl
    · rename_i h1 h2; rw [if_neg h1, if_neg h2] at h; simp at h

/-! ### rows -/
end Go.Proofs.CodecPlain
/-
  codec.bytes, by hand: what the iterator gives to whatever loop. For every number that has bytes.
-/
namespace Go.Proofs.Ytoibofhmlokglaa.P
open Go.RowKit Go.Shelf Go.Proofs.CodecPlain

attribute [local go_sem] Oper.semAt_some

set_option maxHeartbeats 1000000 in
/-- 'bytes(n)': n lies in a block of its own; the function value captures it. -/
theorem codec_bytes_in (F : Fence) (m : Nat) (h : F.fn 76) (hro : F.round = none) (n : Int) (w : World) :
    CallsIn F m Try.prog 76 #[.int .i64 n] w fun e w' => e = .returned (.func (.func 83) #[] #[.pointer (some ⟨w.heap.size, 0, none⟩)]) ∧ w' = w.alloc (.cells #[.int .i64 n] 3) := by
  refine callsIn_of_wp Try.func76 rfl h ?_ hro
  simp only [Try.ntmps76, List.size_toArray, List.length_cons, List.length_nil, Nat.reduceAdd, Nat.reduceSub, Array.replicate_succ, Array.replicate_zero, List.push_toArray, List.append_toArray, List.nil_append, List.cons_append]
  gi_wp2
  go_ret
  exact ⟨rfl, rfl⟩

theorem step_zero (n : Int) (j : Nat) (e : Int) (h : As (nbyte n (3 - j) = e)) (hb : As (false = !(lead (tops n j)).isEmpty)) (hz : e = 0) :
    As (false = !(lead (tops n (j + 1))).isEmpty ∧ lead (tops n j) = lead (tops n (j + 1))) := by
  have h0 : lead (tops n j) = [] := by have := hb.out; simpa using this.symm
  have := lead_snoc_nil h0 (nbyte n (3 - j))
  rw [h.out, if_pos hz] at this
  constructor
  simp [tops, h.out, this, h0]
theorem step_on (n : Int) (j : Nat) (e : Int) (h : As (nbyte n (3 - j) = e)) (hb : As (true = !(lead (tops n j)).isEmpty) ∨ ¬ e = 0) :
    As (true = !(lead (tops n (j + 1))).isEmpty ∧ lead (tops n j) ++ [e] = lead (tops n (j + 1))) := by
  have hk : lead (tops n (j + 1)) = lead (tops n j) ++ [e] := by
    by_cases h0 : lead (tops n j) = []
    · have := lead_snoc_nil h0 (nbyte n (3 - j))
      rw [h.out, if_neg (hb.elim (fun z => by have := z.out; simp [h0] at this) id)] at this
      simp [tops, h.out, this, h0]
    · have := lead_snoc h0 (nbyte n (3 - j))
      rw [h.out] at this
      simp [tops, h.out, this]
  exact ⟨by simp [hk], hk.symm⟩

set_option maxRecDepth 100000 in
set_option maxHeartbeats 4000000 in
theorem codec_bytes1_in (F : Fence) (m : Nat) (h : F.fn 83) (hro : F.round = none) (hm : 1 ≤ m) (l Bn : Nat) (n : Int) (h0n : 0 ≤ n) (h1n : n ≤ 4294967295) (J Jx : List Int → World → Prop)
    (hY : ∀ pre x W, J pre W → pre.length < 4 → YieldAt F (m - 1) Try.prog l #[.int .u8 x] W fun e W' =>
      (e = .returned (.bool true) ∧ J (pre ++ [x]) W' ∧ (∀ v, Boxed W Bn 3 v → Boxed W' Bn 3 v)) ∨ (e = .returned (.bool false) ∧ Jx (pre ++ [x]) W'))
    (W : World) (hBn : Boxed W Bn 3 (.int .i64 n)) (h0 : J [] W) :
    CallsIn F m Try.prog 83 #[.func (.yield l) #[] #[], .pointer (some ⟨Bn, 0, none⟩)] W fun e W' => (∃ v, e = .returned v) ∧
      ((∃ ys, ys = nbytes n ∧ J ys W') ∨ (∃ pre, True ∧ Jx pre W')) := by
  refine callsIn_of_wp Try.func83 rfl h ?_ hro
  simp only [Try.ntmps83, List.size_toArray, List.length_cons, List.length_nil, Nat.reduceAdd, Nat.reduceSub, Array.replicate_succ, Array.replicate_zero, List.push_toArray, List.append_toArray, List.nil_append, List.cons_append]
  gi_wp2
  gi_loopw [3, 4] (fun s k wr => ∃ (j : Nat) (z : Int) (b : Bool), As ((j = 0 ∧ z = 3) ∨ (j = 1 ∧ z = 2) ∨ (j = 2 ∧ z = 1) ∨ (j = 3 ∧ z = 0) ∨ (j = 4 ∧ z = -1)) ∧ s = .bool b ∧ k = .int .i64 z ∧ As (b = !(lead (tops n j)).isEmpty) ∧ As (Boxed wr Bn 3 (.int .i64 n)) ∧ J (lead (tops n j)) wr)
    (fun _ k _ => (intOf k + 1).toNat)
  case atStart => exact ⟨0, 3, false, ⟨.inl ⟨rfl, rfl⟩⟩, rfl, rfl, ⟨rfl⟩, ⟨hBn⟩, h0⟩
  case round =>
    obtain ⟨j, z, b, hjz, rfl, rfl, hb, hbx, hJ⟩ := hrel
    have hc := hbx.out.cell
    rcases hjz.out with ⟨rfl, rfl⟩ | ⟨rfl, rfl⟩ | ⟨rfl, rfl⟩ | ⟨rfl, rfl⟩ | ⟨rfl, rfl⟩
    · clear hjz
      have hbyte : As (nbyte n 3 = n / 16777216) := ⟨by unfold nbyte; omega⟩
      by_cases hz : n / 16777216 = 0
      · cases b
        · have hnew := step_zero n 0 (n / 16777216) hbyte hb hz
          have e1 : (n / 16777216 == 0) = true := by simpa using hz
          have e2 : (n / 16777216 != 0) = false := by simpa using hz
          clear hz
          gi_wp2
          refine ⟨fun _ h => (by cases h), ?_⟩
          gi_wp2
          go_roundw
          case rel => exact ⟨1, (2), false, ⟨(.inr (.inl ⟨rfl, rfl⟩))⟩, rfl, rfl, ⟨hnew.out.1⟩, hbx, hnew.out.2 ▸ hJ⟩
          case measure => simp [intOf]
        · have hnew := step_on n 0 (n / 16777216) hbyte (.inl hb)
          have e1 : (n / 16777216 == 0) = true := by simpa using hz
          have e2 : (n / 16777216 != 0) = false := by simpa using hz
          clear hz
          obtain ⟨fn, tmps, assign, body, hy, hR⟩ := hY (lead (tops n 0)) (n / 16777216) wr hJ (by have := lead_length (tops n 0); rw [tops_length] at this; omega)
          gi_wp2
          refine hR.mono ?_
          rintro e W3 (⟨rfl, hJ3, hk3⟩ | ⟨rfl, hJx3⟩)
          · have hb3 := (hk3 _ hbx.out); clear hk3
            gi_wp2
            go_roundw
            case rel => exact ⟨1, (2), true, ⟨(.inr (.inl ⟨rfl, rfl⟩))⟩, rfl, rfl, ⟨hnew.out.1⟩, ⟨hb3⟩, hnew.out.2 ▸ hJ3⟩
            case measure => simp [intOf]
          · gi_wp2
            refine bodyPost_ret (results_none rfl _ _ _) rfl ?_
            exact ⟨⟨_, rfl⟩, .inr ⟨_, trivial, hJx3⟩⟩
      · have hnew := step_on n 0 (n / 16777216) hbyte (.inr hz)
        have e1 : (n / 16777216 == 0) = false := by simpa using hz
        have e2 : (n / 16777216 != 0) = true := by simpa using hz
        clear hz
        cases b
        · clear hb
          obtain ⟨fn, tmps, assign, body, hy, hR⟩ := hY (lead (tops n 0)) (n / 16777216) wr hJ (by have := lead_length (tops n 0); rw [tops_length] at this; omega)
          gi_wp2
          refine hR.mono ?_
          rintro e W3 (⟨rfl, hJ3, hk3⟩ | ⟨rfl, hJx3⟩)
          · have hb3 := (hk3 _ hbx.out); clear hk3
            gi_wp2
            go_roundw
            case rel => exact ⟨1, (2), true, ⟨(.inr (.inl ⟨rfl, rfl⟩))⟩, rfl, rfl, ⟨hnew.out.1⟩, ⟨hb3⟩, hnew.out.2 ▸ hJ3⟩
            case measure => simp [intOf]
          · gi_wp2
            refine bodyPost_ret (results_none rfl _ _ _) rfl ?_
            exact ⟨⟨_, rfl⟩, .inr ⟨_, trivial, hJx3⟩⟩
        · clear hb
          obtain ⟨fn, tmps, assign, body, hy, hR⟩ := hY (lead (tops n 0)) (n / 16777216) wr hJ (by have := lead_length (tops n 0); rw [tops_length] at this; omega)
          gi_wp2
          refine hR.mono ?_
          rintro e W3 (⟨rfl, hJ3, hk3⟩ | ⟨rfl, hJx3⟩)
          · have hb3 := (hk3 _ hbx.out); clear hk3
            gi_wp2
            go_roundw
            case rel => exact ⟨1, (2), true, ⟨(.inr (.inl ⟨rfl, rfl⟩))⟩, rfl, rfl, ⟨hnew.out.1⟩, ⟨hb3⟩, hnew.out.2 ▸ hJ3⟩
            case measure => simp [intOf]
          · gi_wp2
            refine bodyPost_ret (results_none rfl _ _ _) rfl ?_
            exact ⟨⟨_, rfl⟩, .inr ⟨_, trivial, hJx3⟩⟩
    · clear hjz
      have hbyte : As (nbyte n 2 = n / 65536 % 256) := ⟨by unfold nbyte; omega⟩
      by_cases hz : n / 65536 % 256 = 0
      · cases b
        · have hnew := step_zero n 1 (n / 65536 % 256) hbyte hb hz
          have e1 : (n / 65536 % 256 == 0) = true := by simpa using hz
          have e2 : (n / 65536 % 256 != 0) = false := by simpa using hz
          clear hz
          gi_wp2
          refine ⟨fun _ h => (by cases h), ?_⟩
          gi_wp2
          go_roundw
          case rel => exact ⟨2, (1), false, ⟨(.inr (.inr (.inl ⟨rfl, rfl⟩)))⟩, rfl, rfl, ⟨hnew.out.1⟩, hbx, hnew.out.2 ▸ hJ⟩
          case measure => simp [intOf]
        · have hnew := step_on n 1 (n / 65536 % 256) hbyte (.inl hb)
          have e1 : (n / 65536 % 256 == 0) = true := by simpa using hz
          have e2 : (n / 65536 % 256 != 0) = false := by simpa using hz
          clear hz
          obtain ⟨fn, tmps, assign, body, hy, hR⟩ := hY (lead (tops n 1)) (n / 65536 % 256) wr hJ (by have := lead_length (tops n 1); rw [tops_length] at this; omega)
          gi_wp2
          refine hR.mono ?_
          rintro e W3 (⟨rfl, hJ3, hk3⟩ | ⟨rfl, hJx3⟩)
          · have hb3 := (hk3 _ hbx.out); clear hk3
            gi_wp2
            go_roundw
            case rel => exact ⟨2, (1), true, ⟨(.inr (.inr (.inl ⟨rfl, rfl⟩)))⟩, rfl, rfl, ⟨hnew.out.1⟩, ⟨hb3⟩, hnew.out.2 ▸ hJ3⟩
            case measure => simp [intOf]
          · gi_wp2
            refine bodyPost_ret (results_none rfl _ _ _) rfl ?_
            exact ⟨⟨_, rfl⟩, .inr ⟨_, trivial, hJx3⟩⟩
      · have hnew := step_on n 1 (n / 65536 % 256) hbyte (.inr hz)
        have e1 : (n / 65536 % 256 == 0) = false := by simpa using hz
        have e2 : (n / 65536 % 256 != 0) = true := by simpa using hz
        clear hz
        cases b
        · clear hb
          obtain ⟨fn, tmps, assign, body, hy, hR⟩ := hY (lead (tops n 1)) (n / 65536 % 256) wr hJ (by have := lead_length (tops n 1); rw [tops_length] at this; omega)
          gi_wp2
          refine hR.mono ?_
          rintro e W3 (⟨rfl, hJ3, hk3⟩ | ⟨rfl, hJx3⟩)
          · have hb3 := (hk3 _ hbx.out); clear hk3
            gi_wp2
            go_roundw
            case rel => exact ⟨2, (1), true, ⟨(.inr (.inr (.inl ⟨rfl, rfl⟩)))⟩, rfl, rfl, ⟨hnew.out.1⟩, ⟨hb3⟩, hnew.out.2 ▸ hJ3⟩
            case measure => simp [intOf]
          · gi_wp2
            refine bodyPost_ret (results_none rfl _ _ _) rfl ?_
            exact ⟨⟨_, rfl⟩, .inr ⟨_, trivial, hJx3⟩⟩
        · clear hb
          obtain ⟨fn, tmps, assign, body, hy, hR⟩ := hY (lead (tops n 1)) (n / 65536 % 256) wr hJ (by have := lead_length (tops n 1); rw [tops_length] at this; omega)
          gi_wp2
          refine hR.mono ?_
          rintro e W3 (⟨rfl, hJ3, hk3⟩ | ⟨rfl, hJx3⟩)
          · have hb3 := (hk3 _ hbx.out); clear hk3
            gi_wp2
            go_roundw
            case rel => exact ⟨2, (1), true, ⟨(.inr (.inr (.inl ⟨rfl, rfl⟩)))⟩, rfl, rfl, ⟨hnew.out.1⟩, ⟨hb3⟩, hnew.out.2 ▸ hJ3⟩
            case measure => simp [intOf]
          · gi_wp2
            refine bodyPost_ret (results_none rfl _ _ _) rfl ?_
            exact ⟨⟨_, rfl⟩, .inr ⟨_, trivial, hJx3⟩⟩
    · clear hjz
      have hbyte : As (nbyte n 1 = n / 256 % 256) := ⟨by unfold nbyte; omega⟩
      by_cases hz : n / 256 % 256 = 0
      · cases b
        · have hnew := step_zero n 2 (n / 256 % 256) hbyte hb hz
          have e1 : (n / 256 % 256 == 0) = true := by simpa using hz
          have e2 : (n / 256 % 256 != 0) = false := by simpa using hz
          clear hz
          gi_wp2
          refine ⟨fun _ h => (by cases h), ?_⟩
          gi_wp2
          go_roundw
          case rel => exact ⟨3, (0), false, ⟨(.inr (.inr (.inr (.inl ⟨rfl, rfl⟩))))⟩, rfl, rfl, ⟨hnew.out.1⟩, hbx, hnew.out.2 ▸ hJ⟩
          case measure => simp [intOf]
        · have hnew := step_on n 2 (n / 256 % 256) hbyte (.inl hb)
          have e1 : (n / 256 % 256 == 0) = true := by simpa using hz
          have e2 : (n / 256 % 256 != 0) = false := by simpa using hz
          clear hz
          obtain ⟨fn, tmps, assign, body, hy, hR⟩ := hY (lead (tops n 2)) (n / 256 % 256) wr hJ (by have := lead_length (tops n 2); rw [tops_length] at this; omega)
          gi_wp2
          refine hR.mono ?_
          rintro e W3 (⟨rfl, hJ3, hk3⟩ | ⟨rfl, hJx3⟩)
          · have hb3 := (hk3 _ hbx.out); clear hk3
            gi_wp2
            go_roundw
            case rel => exact ⟨3, (0), true, ⟨(.inr (.inr (.inr (.inl ⟨rfl, rfl⟩))))⟩, rfl, rfl, ⟨hnew.out.1⟩, ⟨hb3⟩, hnew.out.2 ▸ hJ3⟩
            case measure => simp [intOf]
          · gi_wp2
            refine bodyPost_ret (results_none rfl _ _ _) rfl ?_
            exact ⟨⟨_, rfl⟩, .inr ⟨_, trivial, hJx3⟩⟩
      · have hnew := step_on n 2 (n / 256 % 256) hbyte (.inr hz)
        have e1 : (n / 256 % 256 == 0) = false := by simpa using hz
        have e2 : (n / 256 % 256 != 0) = true := by simpa using hz
        clear hz
        cases b
        · clear hb
          obtain ⟨fn, tmps, assign, body, hy, hR⟩ := hY (lead (tops n 2)) (n / 256 % 256) wr hJ (by have := lead_length (tops n 2); rw [tops_length] at this; omega)
          gi_wp2
          refine hR.mono ?_
          rintro e W3 (⟨rfl, hJ3, hk3⟩ | ⟨rfl, hJx3⟩)
          · have hb3 := (hk3 _ hbx.out); clear hk3
            gi_wp2
            go_roundw
            case rel => exact ⟨3, (0), true, ⟨(.inr (.inr (.inr (.inl ⟨rfl, rfl⟩))))⟩, rfl, rfl, ⟨hnew.out.1⟩, ⟨hb3⟩, hnew.out.2 ▸ hJ3⟩
            case measure => simp [intOf]
          · gi_wp2
            refine bodyPost_ret (results_none rfl _ _ _) rfl ?_
            exact ⟨⟨_, rfl⟩, .inr ⟨_, trivial, hJx3⟩⟩
        · clear hb
          obtain ⟨fn, tmps, assign, body, hy, hR⟩ := hY (lead (tops n 2)) (n / 256 % 256) wr hJ (by have := lead_length (tops n 2); rw [tops_length] at this; omega)
          gi_wp2
          refine hR.mono ?_
          rintro e W3 (⟨rfl, hJ3, hk3⟩ | ⟨rfl, hJx3⟩)
          · have hb3 := (hk3 _ hbx.out); clear hk3
            gi_wp2
            go_roundw
            case rel => exact ⟨3, (0), true, ⟨(.inr (.inr (.inr (.inl ⟨rfl, rfl⟩))))⟩, rfl, rfl, ⟨hnew.out.1⟩, ⟨hb3⟩, hnew.out.2 ▸ hJ3⟩
            case measure => simp [intOf]
          · gi_wp2
            refine bodyPost_ret (results_none rfl _ _ _) rfl ?_
            exact ⟨⟨_, rfl⟩, .inr ⟨_, trivial, hJx3⟩⟩
    · clear hjz
      have hbyte : As (nbyte n 0 = n % 256) := ⟨by unfold nbyte; omega⟩
      by_cases hz : n % 256 = 0
      · cases b
        · have hnew := step_zero n 3 (n % 256) hbyte hb hz
          have e1 : (n % 256 == 0) = true := by simpa using hz
          have e2 : (n % 256 != 0) = false := by simpa using hz
          clear hz
          gi_wp2
          refine ⟨fun _ h => (by cases h), ?_⟩
          gi_wp2
          go_roundw
          case rel => exact ⟨4, (-1), false, ⟨(.inr (.inr (.inr (.inr ⟨rfl, rfl⟩))))⟩, rfl, rfl, ⟨hnew.out.1⟩, hbx, hnew.out.2 ▸ hJ⟩
          case measure => simp [intOf]
        · have hnew := step_on n 3 (n % 256) hbyte (.inl hb)
          have e1 : (n % 256 == 0) = true := by simpa using hz
          have e2 : (n % 256 != 0) = false := by simpa using hz
          clear hz
          obtain ⟨fn, tmps, assign, body, hy, hR⟩ := hY (lead (tops n 3)) (n % 256) wr hJ (by have := lead_length (tops n 3); rw [tops_length] at this; omega)
          gi_wp2
          refine hR.mono ?_
          rintro e W3 (⟨rfl, hJ3, hk3⟩ | ⟨rfl, hJx3⟩)
          · have hb3 := (hk3 _ hbx.out); clear hk3
            gi_wp2
            go_roundw
            case rel => exact ⟨4, (-1), true, ⟨(.inr (.inr (.inr (.inr ⟨rfl, rfl⟩))))⟩, rfl, rfl, ⟨hnew.out.1⟩, ⟨hb3⟩, hnew.out.2 ▸ hJ3⟩
            case measure => simp [intOf]
          · gi_wp2
            refine bodyPost_ret (results_none rfl _ _ _) rfl ?_
            exact ⟨⟨_, rfl⟩, .inr ⟨_, trivial, hJx3⟩⟩
      · have hnew := step_on n 3 (n % 256) hbyte (.inr hz)
        have e1 : (n % 256 == 0) = false := by simpa using hz
        have e2 : (n % 256 != 0) = true := by simpa using hz
        clear hz
        cases b
        · clear hb
          obtain ⟨fn, tmps, assign, body, hy, hR⟩ := hY (lead (tops n 3)) (n % 256) wr hJ (by have := lead_length (tops n 3); rw [tops_length] at this; omega)
          gi_wp2
          refine hR.mono ?_
          rintro e W3 (⟨rfl, hJ3, hk3⟩ | ⟨rfl, hJx3⟩)
          · have hb3 := (hk3 _ hbx.out); clear hk3
            gi_wp2
            go_roundw
            case rel => exact ⟨4, (-1), true, ⟨(.inr (.inr (.inr (.inr ⟨rfl, rfl⟩))))⟩, rfl, rfl, ⟨hnew.out.1⟩, ⟨hb3⟩, hnew.out.2 ▸ hJ3⟩
            case measure => simp [intOf]
          · gi_wp2
            refine bodyPost_ret (results_none rfl _ _ _) rfl ?_
            exact ⟨⟨_, rfl⟩, .inr ⟨_, trivial, hJx3⟩⟩
        · clear hb
          obtain ⟨fn, tmps, assign, body, hy, hR⟩ := hY (lead (tops n 3)) (n % 256) wr hJ (by have := lead_length (tops n 3); rw [tops_length] at this; omega)
          gi_wp2
          refine hR.mono ?_
          rintro e W3 (⟨rfl, hJ3, hk3⟩ | ⟨rfl, hJx3⟩)
          · have hb3 := (hk3 _ hbx.out); clear hk3
            gi_wp2
            go_roundw
            case rel => exact ⟨4, (-1), true, ⟨(.inr (.inr (.inr (.inr ⟨rfl, rfl⟩))))⟩, rfl, rfl, ⟨hnew.out.1⟩, ⟨hb3⟩, hnew.out.2 ▸ hJ3⟩
            case measure => simp [intOf]
          · gi_wp2
            refine bodyPost_ret (results_none rfl _ _ _) rfl ?_
            exact ⟨⟨_, rfl⟩, .inr ⟨_, trivial, hJx3⟩⟩
    · clear hjz
      gi_wp2
      go_end0
      exact ⟨⟨_, rfl⟩, .inl ⟨_, rfl, hJ⟩⟩
end Go.Proofs.Ytoibofhmlokglaa.P
/-
  codec.Number, by hand: its text for numbers 0 to 4294967295, an error for others. For every int.
-/
namespace Go.Proofs.Ytoibofhmlokglaa.P
open Go.RowKit Go.Shelf Go.Proofs.CodecPlain Go.Proofs.YtoibofhmlokglaaW.PrintWords

attribute [local go_sem] Oper.semAt_some

/-! NUMBER -/
theorem codec_bytes_stops (F : Fence) (m : Nat) (h : F.fn 83) (hro : F.round = none) (hm : 1 ≤ m) (Bn : Nat) (n : Int) (h0n : 0 ≤ n) (h1n : n ≤ 4294967295) (w : World)
    (hc : Boxed w Bn 3 (.int .i64 n)) :
    SeqStopsK F m Try.prog 83 #[.pointer (some ⟨Bn, 0, none⟩)] (fun x : Int => #[Value.int .u8 x]) (fun W W' => ∀ v, Boxed W Bn 3 v → Boxed W' Bn 3 v) (fun ys => ys = nbytes n) (fun _ => True) 4 w := fun l J Jx W hW _ _ hY h0 =>
  codec_bytes1_in F m h hro hm l Bn n h0n h1n J Jx hY W ((hW.block Bn hc.lt).trans hc) h0

theorem boxK_b {w : World} (Bn : Nat) (T : TypeId) (W : World) (l : Nat) (o o' : Obj) (_ : w.heap.size ≤ l) (h : W.heap[l]? = some o) (hn : o.isCells = false) (_ : o.isWalk = false) : ∀ v, Boxed W Bn T v → Boxed (W.putObj l o') Bn T v := fun v hv =>
  hv.kept (grownBy_putObj' W l o') (fun e => by cases e; rw [show W.heap[Bn]? = _ from hv] at h; cases h; cases hn)

theorem infoU8 : (Try.prog.info? 5).map (fun i => (i.zero, i.size, i.bytes)) = some (some (.int .u8 0), 1, 1) := by kernel_rfl

set_option maxRecDepth 100000 in
set_option maxHeartbeats 4000000 in
theorem codec_Number_in (F : Fence) (m : Nat) (h10 : F.fn 66) (h25 : F.fn 76) (h29 : F.fn 83) (hro : F.round = none) (hm : 3 ≤ m) (n : Int) (h0n : 0 ≤ n) (h1n : n ≤ 4294967295) (w : World) :
    CallsIn F m Try.prog 66 #[.int .i64 n] w fun e W' => e = .returned (.tuple #[.string (numStr n), .int .i64 0]) ∧ Below w.heap.size w W' := by
  have h1 : 1 ≤ m := by omega
  obtain ⟨i0, hi, hz0, hz1, hz2⟩ := info_parts infoU8
  refine callsIn_of_wp_marks Try.func66 rfl h10 ?_ hro
  simp only [Try.ntmps66, List.size_toArray, List.length_cons, List.length_nil, Nat.reduceAdd, Nat.reduceSub, Array.replicate_succ, Array.replicate_zero, List.push_toArray, List.append_toArray, List.nil_append, List.cons_append]
  gi_wp2_with (gi_at_call 76; refine (codec_bytes_in F (m - 1) h25 hro _ _).mono ?_; rintro e w' ⟨rfl, rfl⟩)
  have bL := Boxed.new (w.alloc (Obj.cells #[Value.int IntKind.u8 0] 5)) 95 (.slice (some ⟨w.heap.size, 0, none⟩) 1 1)
  have bN := Boxed.new ((w.alloc (Obj.cells #[Value.int IntKind.u8 0] 5)).alloc (Obj.cells #[Value.slice (some ⟨w.heap.size, 0, none⟩) 1 1] 95)) 3 (.int .i64 n)
  simp only [World.size_alloc] at bL bN
  have hB0 : Below w.heap.size w (((w.alloc (Obj.cells #[Value.int IntKind.u8 0] 5)).alloc (Obj.cells #[Value.slice (some ⟨w.heap.size, 0, none⟩) 1 1] 95)).alloc (Obj.cells #[Value.int IntKind.i64 n] 3)) := (((Below.refl _ w).alloc (Nat.le_refl _) _).alloc (by simp) _).alloc (by simp; omega) _
  have hown0 : (w.alloc (Obj.cells #[Value.int IntKind.u8 0] 5)).ownsRow w.heap.size 5 1 (.slice (some ⟨w.heap.size, 0, none⟩) 1 1) (([] : List Int).length + 1) (nums .u8 (0 :: [])) :=
    World.ownsRow_lit w #[.int .u8 0] 1 (Nat.le_refl _) (by simp [maxLen]) rfl
  refine wpIn_rangeFunc_ownG hro h1 (gf := 83) (lb := #[.pointer (some ⟨w.heap.size + 1 + 1, 0, none⟩)]) rfl h29 (enters_of Try.func83 (by kernel_rfl) rfl)
    (codec_bytes_stops F (m - 1) h29 hro (by omega) (w.heap.size + 1 + 1) n h0n h1n _ bN) (fun h k v hv => k v (h v hv)) (boxK_b _ _) (Below.refl _ _) (fun _ => rfl)
    (fun pre W => ((∃ v, Boxed W (w.heap.size + 1) 95 v ∧ W.ownsRow w.heap.size 5 1 v (pre.length + 1) (nums .u8 (0 :: pre)) ∧ True)) ∧ Below w.heap.size w W)
    (fun _ _ _ => False)
    (OwnFrom.and (Own.from (holdsRow_own w.heap.size (w.heap.size + 1) 95 5 1 (fun pre => pre.length + 1) (fun pre => nums .u8 (0 :: pre)) (fun _ _ => True)) _) (ownFrom_below (Nat.le_refl _) (by simp; omega)))
    (fun _ _ _ _ _ hs _ _ => hs)
    ⟨⟨_, bL.alloc _, (hown0.alloc _).alloc _, trivial⟩, hB0⟩
    (fun x => {
      tmps :=
        #[Value.int IntKind.i64 n, undef, Value.string { data := #[] }, Value.int IntKind.i64 0,
          Value.pointer (some { block := w.heap.size + 1, off := 0 }), Value.int IntKind.u8 x, Value.int IntKind.i64 n,
          Value.bool (decide (n < 0)), Value.bool (decide (n < 0)), Value.int IntKind.i64 n,
          Value.bool (decide (4294967295 < n)), Value.bool (decide (n < 0) || decide (4294967295 < n)),
          Value.slice (some { block := w.heap.size, off := 0 }) 1 1, Value.int IntKind.i64 n,
          Value.func (Fn.func 83) #[] #[Value.pointer (some { block := w.heap.size + 1 + 1, off := 0 })], Value.int IntKind.u8 x, undef,
          undef, undef, undef, undef, undef, undef, undef, undef, undef, undef, undef],
      defers := [] }) ?assign ?body ?done ?stop
  case assign =>
    intro l x W K hK
    gi_wp2
    exact hK
  case body =>
    rintro l pre x W ⟨⟨v, hv, hrow, _⟩, hB⟩ hlt
    have hc := hv.cell
    gi_wp2_with (gi_at_builtin; refine wpListIn_append_own _ rfl _ _ 95 rfl w.heap.size 5 i0 (.int .u8 0) 1 1 Try.underlying95 hi hz0 hz1 hz2 rfl (by decide) _ _ _ rfl (hrow.alloc _) ⟨W.heap.size, 0, none⟩ 1 1 [.int .u8 x] rfl rfl (cell_one_new _ _ _) (by simp [Value.oneCell']) (by simp [maxLen]; omega) (by omega) (by have := hB.size; simp; omega) ?_; intro v' w1 hown' hgrow _; obtain ⟨g', cap', rfl⟩ := ownsRow_succ hown'; obtain ⟨hv1, hv2, hr2, hk2, hb2⟩ := hv.appended (by decide) hrow hB.size (by omega) hown' hgrow; have hc1 := hv1.cell; have hf1 := hv1.frozen)
    refine ⟨hk2.from _, fun u hu => ?_, ⟨⟨_, hv2, ?_, trivial⟩, hB.trans hb2⟩⟩
    · have hu1 := (hu.alloc (.cells #[.int .u8 x] 5)).kept hgrow (hu.not_row (by decide) hrow)
      exact hu1.other (by omega) _
    · simpa [nums] using hr2
  case done =>
    rintro D ys W hD rfl ⟨⟨v, hv, hrow, _⟩, hB⟩ hK
    obtain ⟨g, cap, rfl⟩ := ownsRow_succ hrow
    have hc := hv.cell
    have hl4 := nbytes_length n
    have hne := (hv.not_row (by decide) hrow)
    have hgne : w.heap.size + 1 ≠ g := fun e => hne (by rw [e]; rfl)
    have hcg : W.cell? ⟨g, 0, none⟩ = some (.int .u8 0) := by rw [hrow.cellAt 0 (by omega)]; rfl
    have hfg : W.frozen? ⟨g, 0, none⟩ = false := hrow.frozenAt 0
    obtain ⟨hrow1, hgr1⟩ := hrow.stored 0 (.int .u8 ((nbytes n).length : Int))
    have hrow2 : (W.setCell ⟨g, 0, none⟩ (.int .u8 ((nbytes n).length : Int))).ownsRow w.heap.size 5 1 (.slice (some ⟨g, 0, none⟩) ((nbytes n).length + 1) cap) ((nbytes n).length + 1) (nums .u8 (((nbytes n).length : Int) :: nbytes n)) := by simpa [nums] using hrow1
    have hv1 := hv.other hgne (.int .u8 ((nbytes n).length : Int))
    have hc1 := hv1.cell
    have hcv := own_string (P := Try.prog) Try.underlying95 Try.underlying5 Try.underlying9 hrow2
    have hB2 : Below w.heap.size w (W.setCell ⟨g, 0, none⟩ (.int .u8 ((nbytes n).length : Int))) := hB.grown hgr1 hB.size (fun k e => by cases e; exact own_base hrow g rfl)
    have hK2 := (KeepsOthers.setCell W ⟨g, 0, none⟩ (.int .u8 ((nbytes n).length : Int))).same D _ hK rfl
    clear hrow1 hrow2 hgr1 hv1 hrow hv hne hK
    gi_wp2
    refine ⟨by simp, .inl ⟨_, _, rfl, run_takeDeferred hK2, ?_⟩⟩
    exact ⟨_, results_tmp2 rfl _ _ _, rfl, hB2.trans (belowK_b (w := w) (Nat.le_refl _) _ D _ _ (by simp at hD; omega) hK2 rfl rfl)⟩
  case stop =>
    rintro D c pre W _ _ h _
    exact h.elim

/-- What codec.Number answers. -/
def codec_Number.f (a0 : Int) : Option (ByteArray × Int) := if 0 ≤ a0 ∧ a0 ≤ 4294967295 then some (numStr a0, 0) else some (⟨#[]⟩, 1)

set_option maxHeartbeats 1000000 in
theorem codec_Number.bad (n : Int) (h : n < 0 ∨ 4294967295 < n) (w : World) :
    Calls Try.prog 66 #[.int .i64 n] w fun e w' => e = .returned (.tuple #[.string ⟨#[]⟩, .int .i64 1]) ∧ w' = w := by
  rcases h with h | h
  · have e1 : decide (n < 0) = true := decide_eq_true h
    clear h
    go_enter Try.func66, Try.ntmps66
    go_wp2
    go_ret2
    exact ⟨rfl, rfl⟩
  · have e1 : decide (n < 0) = false := decide_eq_false (by omega)
    have e2 : decide (4294967295 < n) = true := decide_eq_true h
    clear h
    go_enter Try.func66, Try.ntmps66
    go_wp2
    go_ret2
    exact ⟨rfl, rfl⟩

theorem codec_Number.calls (a0 : Int) (r1 : ByteArray) (r2 : Int) (w : World) (h : codec_Number.f a0 = some (r1, r2)) :
    Calls Try.prog 66 #[.int .i64 a0] w fun e w' => e = .returned (.tuple #[.string r1, .int .i64 r2]) ∧ Below w.heap.size w w' := by
  unfold codec_Number.f at h
  split at h
  · rename_i hn
    simp only [Option.some.injEq, Prod.mk.injEq] at h
    obtain ⟨rfl, rfl⟩ := h
    exact (callsIn_wide (n := 3)).1 (codec_Number_in Fence.wide 3 trivial trivial trivial rfl (by omega) a0 hn.1 hn.2 w)
  · rename_i hn
    simp only [Option.some.injEq, Prod.mk.injEq] at h
    obtain ⟨rfl, rfl⟩ := h
    exact (codec_Number.bad a0 (by omega) w).mono (by rintro e w' ⟨rfl, rfl⟩; exact ⟨rfl, Below.refl _ _⟩)
end Go.Proofs.Ytoibofhmlokglaa.P
-- Written by a program of this session (xprint.py) over the kit's print.py.
namespace Go.Proofs.Ytoibofhmlokglaa.P
open Go.RowKit Go.Proofs.YtoibofhmlokglaaW.PrintWords Go.Proofs.YtoibofhmlokglaaW.PrintLast Go.Proofs.YtoibofhmlokglaaW.PrintMore
attribute [local go_sem] max2_int min2_int max_two min_two max_three min_three max_four min_four   -- for this text's walks alone
set_option linter.unusedVariables false
set_option linter.unusedSimpArgs false

/-! ### codec_Text: function 77 -/
def codec_Text.f (a0 : ByteArray) : Option (ByteArray × Int) := if (a0.size : Int) > 4000 then (some ((⟨#[]⟩ : ByteArray), 2)) else ((codec_Number.f (a0.size : Int)).bind fun bt367 => (if bt367.1.size + a0.size ≤ 9223372036854775807 then (some (bt367.1 ++ a0, bt367.2)) else (none)))
set_option maxHeartbeats 8000000 in
set_option maxRecDepth 100000 in
theorem codec_Text.calls (a0 : ByteArray) (r1 : ByteArray) (r2 : Int) (w : World) (h : codec_Text.f a0 = some (r1, r2)) :
    Calls Try.prog 77 #[.string a0] w fun e w' => e = .returned (.tuple #[.string r1, .int .i64 r2]) ∧ Below w.heap.size w w' := by
  have HB := Aside0.mk (Below.refl w.heap.size w)
  have H : (if (a0.size : Int) > 4000 then (some ((⟨#[]⟩ : ByteArray), 2)) else ((codec_Number.f (a0.size : Int)).bind fun bt367 => (if bt367.1.size + a0.size ≤ 9223372036854775807 then (some (bt367.1 ++ a0, bt367.2)) else (none)))) = some (r1, r2) := h
  clear h
  by_cases c2 : (a0.size : Int) > 4000
  · rw [if_pos c2] at H
    have c2b0 : decide (4000 < (a0.size : Int)) = true := decide_eq_true c2
    have c2b1 : decide (4000 < a0.size) = true := decide_eq_true (by omega)
    clear c2
    simp only [Option.some.injEq, Prod.mk.injEq] at H
    obtain ⟨rfl, rfl⟩ := H
    go_enter Try.func77, Try.ntmps77
    go_wp2
    go_ret2
    exact ⟨by first | rfl | (simp [errW_none, errW_some] <;> rfl) | (simp [*, errW_none, errW_some] <;> rfl), by repeat (first | (with_reducible first | exact HB.out | apply below_alloc | apply pw_below_drewN | apply below_drew1) | exact HB.out)⟩
  · rw [if_neg c2] at H
    have c2b0 : decide (4000 < (a0.size : Int)) = false := decide_eq_false c2
    have c2b1 : decide (4000 < a0.size) = false := decide_eq_false (by omega)
    clear c2
    replace H := Option.bind_eq_some_iff.mp H
    obtain ⟨⟨t367, t368⟩, A30, H⟩ := H
    replace H : (if t367.size + a0.size ≤ 9223372036854775807 then (some (t367 ++ a0, t368)) else (none)) = some (r1, r2) := H
    have A3 := Aside0.mk A30
    clear A30
    by_cases c4 : t367.size + a0.size ≤ 9223372036854775807
    · rw [if_pos c4] at H
      have c4b0 := eq_true c4
      have c4b1 : decide (t367.size + a0.size ≤ 9223372036854775807) = true := decide_eq_true c4
      try have c4b2 : (9223372036854775807 < t367.size + a0.size) = False := eq_false (Nat.not_lt.2 c4)
      simp only [Option.some.injEq, Prod.mk.injEq] at H
      obtain ⟨rfl, rfl⟩ := H
      go_enter Try.func77, Try.ntmps77
      go_wp2_with (first | ((with_reducible refine gate_callee (f := 66) rfl ?_); refine goesL_ (some 12) rfl rfl Try.func66 (by kernel_rfl) rfl #[.int .i64 (a0.size : Int)] rfl (by (try simp only [List.map_toArray, List.map_cons, List.map_nil]); first | done | rfl | (simp only [List.length_drop, List.length_take]; rfl)) ?_; (with_reducible refine (codec_Number.calls (a0.size : Int) t367 t368 _ A3.out).mono ?_); rintro e w5 ⟨rfl, hb⟩; refine ⟨_, rfl, ?_⟩; have n0_ := Aside0.mk (below_step (by repeat (first | (with_reducible first | exact HB.out | apply below_alloc | apply pw_below_drewN | apply below_drew1) | exact HB.out)) hb); clear HB; have HB := n0_; clear n0_; (try clear hb); (try clear hb2); (try clear hk); (try clear hi)))
      go_ret2
      exact ⟨by first | rfl | (simp [errW_none, errW_some] <;> rfl) | (simp [*, errW_none, errW_some] <;> rfl), by repeat (first | (with_reducible first | exact HB.out | apply below_alloc | apply pw_below_drewN | apply below_drew1) | exact HB.out)⟩
    · rw [if_neg c4] at H
      exact absurd H (by simp)

end Go.Proofs.Ytoibofhmlokglaa.P
-- Written by a program of this session (xprint.py) over the kit's print.py.
namespace Go.Proofs.Ytoibofhmlokglaa.P
open Go.RowKit Go.Proofs.YtoibofhmlokglaaW.PrintWords Go.Proofs.YtoibofhmlokglaaW.PrintLast Go.Proofs.YtoibofhmlokglaaW.PrintMore
attribute [local go_sem] max2_int min2_int max_two min_two max_three min_three max_four min_four   -- for this text's walks alone
set_option linter.unusedVariables false
set_option linter.unusedSimpArgs false

/-! ### codec_GetText: function 80 -/
def codec_GetText.f (a0 : ByteArray) : Option (ByteArray × ByteArray × Bool) := (codec_GetNumber.f a0).bind fun bt382 => (if bt382.2.2 = true then (if bt382.1 > 4000 then (some ((⟨#[]⟩ : ByteArray), (⟨#[]⟩ : ByteArray), false)) else (if bt382.1 > (bt382.2.1.size : Int) then (some ((⟨#[]⟩ : ByteArray), (⟨#[]⟩ : ByteArray), false)) else (if 0 ≤ bt382.1 then (if bt382.1 ≤ (bt382.2.1.size : Int) then (some (bt382.2.1.extract 0 (bt382.1 : Int).toNat, bt382.2.1.extract (bt382.1 : Int).toNat bt382.2.1.size, true)) else (none)) else (none)))) else (some ((⟨#[]⟩ : ByteArray), (⟨#[]⟩ : ByteArray), false)))
set_option maxHeartbeats 8000000 in
set_option maxRecDepth 100000 in
theorem codec_GetText.calls (a0 : ByteArray) (r1 : ByteArray) (r2 : ByteArray) (r3 : Bool) (w : World) (h : codec_GetText.f a0 = some (r1, r2, r3)) :
    Calls Try.prog 80 #[.string a0] w fun e w' => e = .returned (.tuple #[.string r1, .string r2, .bool r3]) ∧ Drawn0 w w' := by
  have H : ((codec_GetNumber.f a0).bind fun bt382 => (if bt382.2.2 = true then (if bt382.1 > 4000 then (some ((⟨#[]⟩ : ByteArray), (⟨#[]⟩ : ByteArray), false)) else (if bt382.1 > (bt382.2.1.size : Int) then (some ((⟨#[]⟩ : ByteArray), (⟨#[]⟩ : ByteArray), false)) else (if 0 ≤ bt382.1 then (if bt382.1 ≤ (bt382.2.1.size : Int) then (some (bt382.2.1.extract 0 (bt382.1 : Int).toNat, bt382.2.1.extract (bt382.1 : Int).toNat bt382.2.1.size, true)) else (none)) else (none)))) else (some ((⟨#[]⟩ : ByteArray), (⟨#[]⟩ : ByteArray), false)))) = some (r1, r2, r3) := h
  clear h
  replace H := Option.bind_eq_some_iff.mp H
  obtain ⟨⟨t382, t383, t384⟩, A20, H⟩ := H
  replace H : (if t384 = true then (if t382 > 4000 then (some ((⟨#[]⟩ : ByteArray), (⟨#[]⟩ : ByteArray), false)) else (if t382 > (t383.size : Int) then (some ((⟨#[]⟩ : ByteArray), (⟨#[]⟩ : ByteArray), false)) else (if 0 ≤ t382 then (if t382 ≤ (t383.size : Int) then (some (t383.extract 0 (t382 : Int).toNat, t383.extract (t382 : Int).toNat t383.size, true)) else (none)) else (none)))) else (some ((⟨#[]⟩ : ByteArray), (⟨#[]⟩ : ByteArray), false))) = some (r1, r2, r3) := H
  have A2 := Aside0.mk A20
  clear A20
  by_cases c3 : t384 = true
  · subst c3
    have H1 : (if t382 > 4000 then (some ((⟨#[]⟩ : ByteArray), (⟨#[]⟩ : ByteArray), false)) else (if t382 > (t383.size : Int) then (some ((⟨#[]⟩ : ByteArray), (⟨#[]⟩ : ByteArray), false)) else (if 0 ≤ t382 then (if t382 ≤ (t383.size : Int) then (some (t383.extract 0 (t382 : Int).toNat, t383.extract (t382 : Int).toNat t383.size, true)) else (none)) else (none)))) = some (r1, r2, r3) := by rw [if_pos rfl] at H; exact H
    clear H
    have H := H1
    clear H1
    by_cases c4 : t382 > 4000
    · rw [if_pos c4] at H
      have c4b0 : decide (4000 < t382) = true := decide_eq_true c4
      clear c4
      simp only [Option.some.injEq, Prod.mk.injEq] at H
      obtain ⟨rfl, rfl, rfl⟩ := H
      go_enter Try.func80, Try.ntmps80
      go_wp2_with (first | (go_at_call 72; (with_reducible refine (codec_GetNumber.calls a0 t382 t383 true _ A2.out).mono ?_); rintro e w' ⟨rfl, ⟨nd, rfl⟩⟩; (try first | exact ⟨rfl, _, World.drewN_drewN _ _ _⟩ | exact ⟨rfl, _, Eq.trans (World.drewN_drewN _ _ _) (congrArg (World.drewN _) (Nat.add_assoc _ _ _))⟩)))
      repeat (go_quiet (first | (go_at_call 72; (with_reducible refine (codec_GetNumber.calls a0 t382 t383 true _ A2.out).mono ?_); rintro e w' ⟨rfl, ⟨nd, rfl⟩⟩; (try first | exact ⟨rfl, _, World.drewN_drewN _ _ _⟩ | exact ⟨rfl, _, Eq.trans (World.drewN_drewN _ _ _) (congrArg (World.drewN _) (Nat.add_assoc _ _ _))⟩))); try go_wp2_with (first | (go_at_call 72; (with_reducible refine (codec_GetNumber.calls a0 t382 t383 true _ A2.out).mono ?_); rintro e w' ⟨rfl, ⟨nd, rfl⟩⟩; (try first | exact ⟨rfl, _, World.drewN_drewN _ _ _⟩ | exact ⟨rfl, _, Eq.trans (World.drewN_drewN _ _ _) (congrArg (World.drewN _) (Nat.add_assoc _ _ _))⟩))))
      go_ret3
      exact ⟨by first | rfl | (simp; done) | (simp [*]; done), by repeat (first | exact Drawn0.refl _ | apply Drawn0.step)⟩
    · rw [if_neg c4] at H
      have c4b0 : decide (4000 < t382) = false := decide_eq_false c4
      clear c4
      by_cases c5 : t382 > (t383.size : Int)
      · rw [if_pos c5] at H
        have c5b0 : decide ((t383.size : Int) < t382) = true := decide_eq_true c5
        clear c5
        simp only [Option.some.injEq, Prod.mk.injEq] at H
        obtain ⟨rfl, rfl, rfl⟩ := H
        go_enter Try.func80, Try.ntmps80
        go_wp2_with (first | (go_at_call 72; (with_reducible refine (codec_GetNumber.calls a0 t382 t383 true _ A2.out).mono ?_); rintro e w' ⟨rfl, ⟨nd, rfl⟩⟩; (try first | exact ⟨rfl, _, World.drewN_drewN _ _ _⟩ | exact ⟨rfl, _, Eq.trans (World.drewN_drewN _ _ _) (congrArg (World.drewN _) (Nat.add_assoc _ _ _))⟩)))
        repeat (go_quiet (first | (go_at_call 72; (with_reducible refine (codec_GetNumber.calls a0 t382 t383 true _ A2.out).mono ?_); rintro e w' ⟨rfl, ⟨nd, rfl⟩⟩; (try first | exact ⟨rfl, _, World.drewN_drewN _ _ _⟩ | exact ⟨rfl, _, Eq.trans (World.drewN_drewN _ _ _) (congrArg (World.drewN _) (Nat.add_assoc _ _ _))⟩))); try go_wp2_with (first | (go_at_call 72; (with_reducible refine (codec_GetNumber.calls a0 t382 t383 true _ A2.out).mono ?_); rintro e w' ⟨rfl, ⟨nd, rfl⟩⟩; (try first | exact ⟨rfl, _, World.drewN_drewN _ _ _⟩ | exact ⟨rfl, _, Eq.trans (World.drewN_drewN _ _ _) (congrArg (World.drewN _) (Nat.add_assoc _ _ _))⟩))))
        go_ret3
        exact ⟨by first | rfl | (simp; done) | (simp [*]; done), by repeat (first | exact Drawn0.refl _ | apply Drawn0.step)⟩
      · rw [if_neg c5] at H
        have c5b0 : decide ((t383.size : Int) < t382) = false := decide_eq_false c5
        clear c5
        by_cases c6 : 0 ≤ t382
        · rw [if_pos c6] at H
          have c6b0 := eq_true c6
          have c6b1 : decide (0 ≤ t382) = true := decide_eq_true c6
          clear c6
          by_cases c7 : t382 ≤ (t383.size : Int)
          · rw [if_pos c7] at H
            have c7b0 := eq_true c7
            have c7b1 : decide (t382 ≤ (t383.size : Int)) = true := decide_eq_true c7
            clear c7
            have c8b0 := eq_true (of_decide_eq_true (by first | (with_reducible assumption) | assumption) : 0 ≤ t382)
            have c9b0 := eq_true (of_decide_eq_true (by first | (with_reducible assumption) | assumption) : t382 ≤ (t383.size : Int))
            simp only [Option.some.injEq, Prod.mk.injEq] at H
            obtain ⟨rfl, rfl, rfl⟩ := H
            go_enter Try.func80, Try.ntmps80
            go_wp2_with (first | (go_at_call 72; (with_reducible refine (codec_GetNumber.calls a0 t382 t383 true _ A2.out).mono ?_); rintro e w' ⟨rfl, ⟨nd, rfl⟩⟩; (try first | exact ⟨rfl, _, World.drewN_drewN _ _ _⟩ | exact ⟨rfl, _, Eq.trans (World.drewN_drewN _ _ _) (congrArg (World.drewN _) (Nat.add_assoc _ _ _))⟩)))
            repeat (go_quiet (first | (go_at_call 72; (with_reducible refine (codec_GetNumber.calls a0 t382 t383 true _ A2.out).mono ?_); rintro e w' ⟨rfl, ⟨nd, rfl⟩⟩; (try first | exact ⟨rfl, _, World.drewN_drewN _ _ _⟩ | exact ⟨rfl, _, Eq.trans (World.drewN_drewN _ _ _) (congrArg (World.drewN _) (Nat.add_assoc _ _ _))⟩))); try go_wp2_with (first | (go_at_call 72; (with_reducible refine (codec_GetNumber.calls a0 t382 t383 true _ A2.out).mono ?_); rintro e w' ⟨rfl, ⟨nd, rfl⟩⟩; (try first | exact ⟨rfl, _, World.drewN_drewN _ _ _⟩ | exact ⟨rfl, _, Eq.trans (World.drewN_drewN _ _ _) (congrArg (World.drewN _) (Nat.add_assoc _ _ _))⟩))))
            go_ret3
            exact ⟨by first | rfl | (simp; done) | (simp [*]; done), by repeat (first | exact Drawn0.refl _ | apply Drawn0.step)⟩
          · rw [if_neg c7] at H
            exact absurd H (by simp)
        · rw [if_neg c6] at H
          exact absurd H (by simp)
  · replace c3 := Bool.eq_false_iff.mpr c3
    subst c3
    have H1 : (some ((⟨#[]⟩ : ByteArray), (⟨#[]⟩ : ByteArray), false)) = some (r1, r2, r3) := by rw [if_neg (show ¬ (false = true) by decide)] at H; exact H
    clear H
    have H := H1
    clear H1
    simp only [Option.some.injEq, Prod.mk.injEq] at H
    obtain ⟨rfl, rfl, rfl⟩ := H
    go_enter Try.func80, Try.ntmps80
    go_wp2_with (first | (go_at_call 72; (with_reducible refine (codec_GetNumber.calls a0 t382 t383 false _ A2.out).mono ?_); rintro e w' ⟨rfl, ⟨nd, rfl⟩⟩; (try first | exact ⟨rfl, _, World.drewN_drewN _ _ _⟩ | exact ⟨rfl, _, Eq.trans (World.drewN_drewN _ _ _) (congrArg (World.drewN _) (Nat.add_assoc _ _ _))⟩)))
    repeat (go_quiet (first | (go_at_call 72; (with_reducible refine (codec_GetNumber.calls a0 t382 t383 false _ A2.out).mono ?_); rintro e w' ⟨rfl, ⟨nd, rfl⟩⟩; (try first | exact ⟨rfl, _, World.drewN_drewN _ _ _⟩ | exact ⟨rfl, _, Eq.trans (World.drewN_drewN _ _ _) (congrArg (World.drewN _) (Nat.add_assoc _ _ _))⟩))); try go_wp2_with (first | (go_at_call 72; (with_reducible refine (codec_GetNumber.calls a0 t382 t383 false _ A2.out).mono ?_); rintro e w' ⟨rfl, ⟨nd, rfl⟩⟩; (try first | exact ⟨rfl, _, World.drewN_drewN _ _ _⟩ | exact ⟨rfl, _, Eq.trans (World.drewN_drewN _ _ _) (congrArg (World.drewN _) (Nat.add_assoc _ _ _))⟩))))
    go_ret3
    exact ⟨by first | rfl | (simp; done) | (simp [*]; done), by repeat (first | exact Drawn0.refl _ | apply Drawn0.step)⟩

end Go.Proofs.Ytoibofhmlokglaa.P
/-
  Words that frames need.
-/
namespace Go.Proofs.Ytoibofhmlokglaa.B
open Go.RowKit Go.Proofs.CodecPlain Go.Proofs.YtoibofhmlokglaaW.PrintWords Go.Proofs.YtoibofhmlokglaaW.PrintLast Go.Proofs.Ytoibofhmlokglaa.P

theorem toList_inj {a b : ByteArray} (h : a.toList = b.toList) : a = b := by
  rw [ByteArray.toList_eq, ByteArray.toList_eq] at h; exact ba_ext h

theorem wrap_id {x : Int} (h0 : -9223372036854775808 ≤ x) (h1 : x ≤ 9223372036854775807) : wrap64 x = x := by unfold wrap64; omega

theorem strOfNums_size (l : List Int) : (strOfNums l).size = l.length := by simp [strOfNums, ByteArray.size]

theorem strOfNums_list (l : List Int) : (strOfNums l).data.toList = l.map u8 := by simp [strOfNums, u8]

theorem text_ok (s : ByteArray) (h : s.size ≤ 4000) : codec_Text.f s = some (textStr s, 0) := by
  have hn := numStr_size (s.size : Int)
  unfold codec_Text.f codec_Number.f
  rw [if_neg (by omega), if_pos (by omega)]
  simp only [Option.bind_some]
  rw [if_pos (by omega)]
  rfl

theorem text_no (s : ByteArray) (h : 4000 < s.size) : codec_Text.f s = some (⟨#[]⟩, 2) := by
  unfold codec_Text.f
  rw [if_pos (by omega)]

theorem text_f (s : ByteArray) : codec_Text.f s = some (if s.size ≤ 4000 then (textStr s, 0) else (⟨#[]⟩, 2)) := by
  by_cases h : s.size ≤ 4000
  · rw [text_ok s h, if_pos h]
  · rw [text_no s (by omega), if_neg h]

theorem bt_list (s : ByteArray) (i : Nat) (h : i < s.data.toList.length) : bt s (i : Int) = (s.data.toList[i].toNat : Int) := by
  have h' : i < s.size := by rw [len_list] at h; exact h
  unfold bt
  rw [dif_pos (by simpa using h')]
  rfl

theorem wrap_bt (s : ByteArray) (i : Int) : wrap64 (bt s i) = bt s i := by have := bt_range s i; exact wrap_id (by omega) (by omega)

/-- Whether a number's own text stands at the begin. -/
theorem getText_f (s : ByteArray) : codec_GetText.f s = some (getText s) := by
  unfold codec_GetText.f codec_GetNumber.f getText
  simp only [Option.bind_some]
  have := getNum_bd s
  by_cases h1 : (getNum s).2.2 = true
  · rw [if_pos h1]
    by_cases h2 : (getNum s).1 > 4000
    · rw [if_pos h2, if_neg (by omega)]
    · rw [if_neg h2]
      by_cases h3 : (getNum s).1 > ((getNum s).2.1.size : Int)
      · rw [if_pos h3, if_neg (by omega)]
      · rw [if_neg h3, if_pos (by omega), if_pos (by omega), if_pos ⟨h1, by omega, by omega⟩]
  · rw [if_neg h1, if_neg (by rintro ⟨h, _⟩; exact h1 h)]
end Go.Proofs.Ytoibofhmlokglaa.B
/-
  crc.made, the table's step and crc.Sum, by hand.
-/
namespace Go.Proofs.Ytoibofhmlokglaa.P
open Go.RowKit Go.Shelf Go.Proofs.YtoibofhmlokglaaW.PrintWords Go.Proofs.YtoibofhmlokglaaW.PrintLast Go.Proofs.YtoibofhmlokglaaW.PrintMore

def crc1 (c : Int) : Int := if (bits BinOp.and IntKind.i64 c 1 == 1) = true then bits BinOp.xor IntKind.i64 (c / 2) 3988292384 else c / 2
def crcN : Nat → Int → Int
  | 0, c => c
  | n + 1, c => crc1 (crcN n c)
def crcT (i : Nat) : Int := crcN 8 (i : Int)

def zeros : Array Value := Array.replicate 256 (.int .i64 0)
theorem zeros_size : zeros.size = 256 := by simp [zeros]
theorem zero_tab (w : World) : Sem.run Try.prog (zeroValue 108) w = .ok (.agg zeros) w := by kernel_rfl
attribute [local go_sem] zero_tab

set_option maxHeartbeats 8000000 in
set_option maxRecDepth 100000 in
theorem crc_made_calls (w : World) : Calls Try.prog 84 #[] w fun e w' => ∃ cs, e = .returned (.pointer (some ⟨w.heap.size, 0, none⟩)) ∧ w'.heap[w.heap.size]? = some (.cells cs 108 (0, 0)) ∧ (∀ j : Nat, j < 256 → cs[j]? = some (.int .i64 (crcT j))) ∧ Below w.heap.size w w' := by
  go_enter Try.func84, Try.ntmps84
  go_wp2
  go_loopw [5] (fun i wr => ∃ (k : Nat) (cs : Array Value), k ≤ 256 ∧ i = .int .i64 k ∧ cs.size = 256 ∧ Aside0 (wr.heap[w.heap.size]? = some (.cells cs 108 (0, 0))) ∧ Aside0 (∀ j : Nat, j < k → cs[j]? = some (.int .i64 (crcT j))) ∧ Aside0 (Below w.heap.size w wr))
    (fun i _ => 256 - (intOf i).toNat)
  case atStart => exact ⟨0, zeros, by omega, rfl, zeros_size, ⟨blk_new _ _⟩, ⟨fun j hj => by omega⟩, ⟨(Below.refl _ _).alloc (Nat.le_refl _) _⟩⟩
  case round =>
    obtain ⟨k, cs, hk, rfl, hcs, HW, HT, HB⟩ := hrel
    by_cases hlt : k < 256
    · go_wp2
      go_loopw [9, 3] (fun i c wr2 => ∃ n : Nat, n ≤ 8 ∧ i = .int .i64 n ∧ c = .int .i64 (crcN n (k : Int)) ∧ Aside0 (wr2 = wr))
        (fun i _ _ => 8 - (intOf i).toNat)
      case atStart => exact ⟨0, by omega, rfl, rfl, ⟨rfl⟩⟩
      case round =>
        obtain ⟨n, hn, rfl, rfl, HE⟩ := hrel
        obtain rfl := HE.out
        by_cases h8 : n < 8
        · have HS := Aside0.mk (show crcN (n + 1) (k : Int) = crc1 (crcN n (k : Int)) from rfl)
          generalize crcN n (k : Int) = c at *
          unfold crc1 at HS
          by_cases h1 : (bits BinOp.and IntKind.i64 c 1 == 1) = true
          · rw [if_pos h1] at HS
            go_wp2
            exact ⟨⟨n + 1, by omega, by go_num, by rw [HS.out], ⟨trivial⟩⟩, by simp [intOf]; omega⟩
          · rw [if_neg h1] at HS
            have h2 : (bits BinOp.and IntKind.i64 c 1 == 1) = false := by simpa using h1
            clear h1
            go_wp2
            exact ⟨⟨n + 1, by omega, by go_num, by rw [HS.out], ⟨trivial⟩⟩, by simp [intOf]; omega⟩
        · obtain rfl : n = 8 := by omega
          have c0 := blk_cell HW.out k
          rw [Array.getElem?_eq_getElem (by omega)] at c0
          have f0 := blk_frozen HW.out k
          have hset := Aside0.mk (blk_set HW.out k (.int .i64 (crcN 8 (k : Int))))
          have hb := Aside0.mk (HB.out.setCell (p := ⟨w.heap.size, k, none⟩) (Nat.le_refl _) (.int .i64 (crcN 8 (k : Int))))
          generalize cs[k] = old at c0
          go_wp2
          refine ⟨⟨k + 1, _, by omega, by go_num, by simpa using hcs, hset, ⟨fun j hj => ?_⟩, hb⟩, by simp [intOf]; omega⟩
          rw [Array.getElem?_setIfInBounds]
          by_cases e : k = j
          · subst e; rw [if_pos rfl, if_pos (by omega)]; rfl
          · rw [if_neg e]; exact HT.out j (by omega)
    · obtain rfl : k = 256 := by omega
      go_wp2
      go_ret
      exact ⟨cs, rfl, HW.out, HT.out, HB.out⟩

def stepI (c b : Int) : Int := bits BinOp.and IntKind.i64 (bits BinOp.xor IntKind.i64 c b) 255
def stepV (c b : Int) : Int := bits BinOp.xor IntKind.i64 (c / 256) (crcT (stepI c b).toNat)
theorem and255 (x : Int) : 0 ≤ bits BinOp.and IntKind.i64 x 255 ∧ bits BinOp.and IntKind.i64 x 255 < 256 := by
  have hn : (BitVec.ofInt 64 x &&& BitVec.ofInt 64 255).toNat ≤ 255 := by
    rw [BitVec.toNat_and]
    exact Nat.le_trans Nat.and_le_right (by decide)
  show 0 ≤ IntKind.wrap .i64 (((BitVec.ofInt 64 x &&& BitVec.ofInt 64 255).toNat : Nat) : Int) ∧ IntKind.wrap .i64 (((BitVec.ofInt 64 x &&& BitVec.ofInt 64 255).toNat : Nat) : Int) < 256
  generalize (BitVec.ofInt 64 x &&& BitVec.ofInt 64 255).toNat = n at *
  have : IntKind.wrap .i64 (n : Int) = n := by
    simp [IntKind.wrap, IntKind.signed, IntKind.bits]
    omega
  omega

set_option maxHeartbeats 4000000 in
set_option maxRecDepth 100000 in
theorem crc_tstep_calls (B : Nat) (cs : Array Value) (c : Int) (b : Nat) (hb : b < 256) (w : World) (hw : w.heap[B]? = some (.cells cs 108 (0, 0))) (ht : ∀ j : Nat, j < 256 → cs[j]? = some (.int .i64 (crcT j))) :
    Calls Try.prog 85 #[.pointer (some ⟨B, 0, none⟩), .int .i64 c, .int .u8 (b : Int)] w fun e w' => e = .returned (.int .i64 (stepV c b)) ∧ w' = w := by
  obtain ⟨h0, h1⟩ := and255 (bits BinOp.xor IntKind.i64 c b)
  have hc : w.cell? ⟨B, (bits BinOp.and IntKind.i64 (bits BinOp.xor IntKind.i64 c b) 255).toNat, none⟩ = some (.int .i64 (crcT (stepI c b).toNat)) := by
    rw [blk_cell hw]; exact ht _ (by omega)
  have hS := Aside0.mk (show stepV c b = bits BinOp.xor IntKind.i64 (c / 256) (crcT (stepI c b).toNat) from rfl)
  generalize crcT (stepI c b).toNat = v at *
  clear ht hw
  go_enter Try.func85, Try.ntmps85
  go_wp2
  go_ret
  exact ⟨by rw [hS.out]; rfl, rfl⟩

def sumC (l : List UInt8) (c : Int) : Int := l.foldl (fun c b => stepV c (b.toNat : Int)) c
/-- The sum of a text. -/
def sumV (s : ByteArray) : Int := bits BinOp.xor IntKind.i64 (sumC s.data.toList 4294967295) 4294967295
theorem sumC_snoc (l : List UInt8) (b : UInt8) (c : Int) : sumC (l ++ [b]) c = stepV (sumC l c) (b.toNat : Int) := by simp [sumC]
theorem sumC_take (s : ByteArray) (k : Nat) (h : k < s.size) (c : Int) : sumC (s.data.toList.take (k + 1)) c = stepV (sumC (s.data.toList.take k) c) (s[k].toNat : Int) := by
  have hl : k < s.data.toList.length := by simpa using h
  rw [List.take_succ_eq_append_getElem hl, sumC_snoc]
  rfl

set_option maxHeartbeats 4000000 in
set_option maxRecDepth 100000 in
theorem crc_Sum_yes (s : ByteArray) (hs : s.size ≤ 1000000000) (w : World) : Calls Try.prog 78 #[.string s] w fun e w' => e = .returned (.int .i64 (sumV s)) ∧ Below w.heap.size w w' := by
  have HM := Aside0.mk (crc_made_calls w)
  have eg : ∀ args w, (callFunc 85 args).run Try.prog w = .ok (.enter 85 args) w := enters_of Try.func85 (by kernel_rfl) rfl
  go_enter Try.func78, Try.ntmps78
  go_wp2_with (first | (go_at_call 84; refine HM.out.mono ?_; rintro e w3 ⟨cs, rfl, hw3, ht3, hb3⟩; have HW3 := Aside0.mk hw3; have HT3 := Aside0.mk ht3; have HB3 := Aside0.mk hb3; clear hw3 ht3 hb3))
  go_loopw [4, 5, 10] (fun c _ i wr => ∃ k : Nat, k ≤ s.size ∧ i = .int .i64 k ∧ c = .int .i64 (sumC (s.data.toList.take k) 4294967295) ∧ Aside0 (wr = w3)) (fun _ _ i _ => s.size - (intOf i).toNat)
  case atStart => exact ⟨0, Nat.zero_le _, rfl, rfl, ⟨rfl⟩⟩
  case round =>
    obtain ⟨k, hk, rfl, rfl, HE⟩ := hrel
    obtain rfl := HE.out
    by_cases hlt : k < s.size
    · have hn := Aside0.mk (sumC_take s k hlt 4294967295)
      have hb := s[k].toNat_lt
      have HC := Aside0.mk (crc_tstep_calls w.heap.size cs (sumC (s.data.toList.take k) 4294967295) s[k].toNat hb _ HW3.out HT3.out)
      generalize sumC (s.data.toList.take k) 4294967295 = c at *
      go_wp2_with (go_at_fn 85; refine HC.out.mono ?_; rintro e w4 ⟨rfl, rfl⟩)
      go_roundw
      case rel => exact ⟨k + 1, by omega, by go_num, by rw [hn.out], ⟨trivial⟩⟩
      case measure => simp [intOf]; omega
    · obtain rfl : k = s.size := by omega
      have hw := Aside0.mk (show sumC (s.data.toList.take s.size) 4294967295 = sumC s.data.toList 4294967295 by rw [List.take_of_length_le (by simp)])
      go_wp2
      go_ret
      exact ⟨by rw [hw.out]; rfl, HB3.out⟩
def crc_Sum.f (a0 : ByteArray) : Option Int := if a0.size ≤ 1000000000 then some (sumV a0) else none
theorem crc_Sum.calls (a0 : ByteArray) (r : Int) (w : World) (h : crc_Sum.f a0 = some r) : Calls Try.prog 78 #[.string a0] w fun e w' => e = .returned (.int .i64 r) ∧ Below w.heap.size w w' := by
  unfold crc_Sum.f at h
  by_cases hs : a0.size ≤ 1000000000
  · rw [if_pos hs] at h
    obtain rfl := Option.some.inj h
    exact crc_Sum_yes a0 hs w
  · rw [if_neg hs] at h; cases h
end Go.Proofs.Ytoibofhmlokglaa.P
-- Written by a program of this session (xprint.py) over the kit's print.py.
namespace Go.Proofs.Ytoibofhmlokglaa.P
open Go.RowKit Go.Proofs.YtoibofhmlokglaaW.PrintWords Go.Proofs.YtoibofhmlokglaaW.PrintLast Go.Proofs.YtoibofhmlokglaaW.PrintMore
attribute [local go_sem] max2_int min2_int max_two min_two max_three min_three max_four min_four   -- for this text's walks alone
set_option linter.unusedVariables false
set_option linter.unusedSimpArgs false

/-! ### crc_Put: function 67 -/
def crc_Put.f (a0 : ByteArray) : Option (ByteArray × Int) := (codec_Text.f a0).bind fun bt369 => (if bt369.2 = 0 then ((crc_Sum.f a0).bind fun t371 => ((some (([(t371 / 16777216) % 256, (t371 / 65536) % 256, (t371 / 256) % 256, (t371) % 256] : List Int) : List Int)).bind fun y372 => (if (strOfNums y372).size + bt369.1.size ≤ 9223372036854775807 then (some ((strOfNums y372) ++ bt369.1, 0)) else (none)))) else (some ((⟨#[]⟩ : ByteArray), bt369.2)))
set_option maxHeartbeats 8000000 in
set_option maxRecDepth 100000 in
theorem crc_Put.calls (a0 : ByteArray) (r1 : ByteArray) (r2 : Int) (w : World) (h : crc_Put.f a0 = some (r1, r2)) :
    Calls Try.prog 67 #[.string a0] w fun e w' => e = .returned (.tuple #[.string r1, .int .i64 r2]) ∧ Below w.heap.size w w' := by
  have HB := Aside0.mk (Below.refl w.heap.size w)
  have H : ((codec_Text.f a0).bind fun bt369 => (if bt369.2 = 0 then ((crc_Sum.f a0).bind fun t371 => ((some (([(t371 / 16777216) % 256, (t371 / 65536) % 256, (t371 / 256) % 256, (t371) % 256] : List Int) : List Int)).bind fun y372 => (if (strOfNums y372).size + bt369.1.size ≤ 9223372036854775807 then (some ((strOfNums y372) ++ bt369.1, 0)) else (none)))) else (some ((⟨#[]⟩ : ByteArray), bt369.2)))) = some (r1, r2) := h
  clear h
  replace H := Option.bind_eq_some_iff.mp H
  obtain ⟨⟨t369, t370⟩, A20, H⟩ := H
  replace H : (if t370 = 0 then ((crc_Sum.f a0).bind fun t371 => ((some (([(t371 / 16777216) % 256, (t371 / 65536) % 256, (t371 / 256) % 256, (t371) % 256] : List Int) : List Int)).bind fun y372 => (if (strOfNums y372).size + t369.size ≤ 9223372036854775807 then (some ((strOfNums y372) ++ t369, 0)) else (none)))) else (some ((⟨#[]⟩ : ByteArray), t370))) = some (r1, r2) := H
  have A2 := Aside0.mk A20
  clear A20
  by_cases c3 : t370 = 0
  · rw [if_pos c3] at H
    have c3b0 : (t370 == 0) = true := beq_iff_eq.mpr c3
    have c3b1 : (t370 != 0) = false := bne_eq_false_iff_eq.mpr c3
    clear c3
    replace H := Option.bind_eq_some_iff.mp H
    obtain ⟨t371, A40, H⟩ := H
    replace H : ((some (([(t371 / 16777216) % 256, (t371 / 65536) % 256, (t371 / 256) % 256, (t371) % 256] : List Int) : List Int)).bind fun y372 => (if (strOfNums y372).size + t369.size ≤ 9223372036854775807 then (some ((strOfNums y372) ++ t369, 0)) else (none))) = some (r1, r2) := H
    have A4 := Aside0.mk A40
    clear A40
    obtain ⟨y372, hy372⟩ : ∃ y_ : List Int, y_ = (([(t371 / 16777216) % 256, (t371 / 65536) % 256, (t371 / 256) % 256, (t371) % 256] : List Int)) := ⟨_, rfl⟩
    replace H : (if (strOfNums y372).size + t369.size ≤ 9223372036854775807 then (some ((strOfNums y372) ++ t369, 0)) else (none)) = some (r1, r2) := by first | (rw [hy372]; with_reducible exact H) | (have H2_ := (Option.bind_some _ _).symm.trans H; rw [hy372]; with_reducible exact H2_) | (have H2_ := (Option.bind_some _ _).symm.trans H; with_reducible exact H2_) | with_reducible exact H | (rw [hy372]; exact H) | exact H
    have Ny372 := Aside0.mk hy372
    clear hy372
    by_cases c5 : (strOfNums y372).size + t369.size ≤ 9223372036854775807
    · rw [if_pos c5] at H
      have c5b0 := eq_true c5
      have c5b1 : decide ((strOfNums y372).size + t369.size ≤ 9223372036854775807) = true := decide_eq_true c5
      try have c5b2 : (9223372036854775807 < (strOfNums y372).size + t369.size) = False := eq_false (Nat.not_lt.2 c5)
      simp only [Option.some.injEq, Prod.mk.injEq] at H
      obtain ⟨rfl, rfl⟩ := H
      go_enter Try.func67, Try.ntmps67
      go_wp2_with (first | ((with_reducible refine gate_callee (f := 77) rfl ?_); refine goesL_ (some 9) rfl rfl Try.func77 (by kernel_rfl) rfl #[.string a0] rfl (by (try simp only [List.map_toArray, List.map_cons, List.map_nil]); first | done | rfl | (simp only [List.length_drop, List.length_take]; rfl)) ?_; (with_reducible refine (codec_Text.calls a0 t369 t370 _ A2.out).mono ?_); rintro e w6 ⟨rfl, hb⟩; refine ⟨_, rfl, ?_⟩; have n0_ := Aside0.mk (below_step (by repeat (first | (with_reducible first | exact HB.out | apply below_alloc | apply pw_below_drewN | apply below_drew1) | exact HB.out)) hb); clear HB; have HB := n0_; clear n0_; (try clear hb); (try clear hb2); (try clear hk); (try clear hi)) | ((with_reducible refine gate_callee (f := 78) rfl ?_); refine goesL_ (some 16) rfl rfl Try.func78 (by kernel_rfl) rfl #[.string a0] rfl (by (try simp only [List.map_toArray, List.map_cons, List.map_nil]); first | done | rfl | (simp only [List.length_drop, List.length_take]; rfl)) ?_; (with_reducible refine (crc_Sum.calls a0 t371 _ A4.out).mono ?_); rintro e w7 ⟨rfl, hb⟩; refine ⟨_, rfl, ?_⟩; have n0_ := Aside0.mk (below_step (by repeat (first | (with_reducible first | exact HB.out | apply below_alloc | apply pw_below_drewN | apply below_drew1) | exact HB.out)) hb); clear HB; have HB := n0_; clear n0_; (try clear hb); (try clear hb2); (try clear hk); (try clear hi)) | ((with_reducible refine gate_dst (N := 28) rfl ?_); refine Kd.R_lit (Kd.int .u8) _ 5 ?hg (N := 28) ?hd (xs := ([(t371 / 16777216) % 256, (t371 / 65536) % 256, (t371 / 256) % 256, (t371) % 256] : List Int)) (inner := [.int .u8 ((t371 / 16777216) % 256), .int .u8 ((t371 / 65536) % 256), .int .u8 ((t371 / 256) % 256), .int .u8 ((t371) % 256)]) (ok := fun _ => True) (okp := fun _ => True) ?hr ?hp (fun _ hk => hk) trivial (Below.refl _ _) (Nat.le_refl _) (by simp) ?_; (case hd => rfl); (case hg => rfl); (case hr => first | (go_simp; done) | (go_simp; rfl)); (case hp => exact (Reps.one (show Kd.M (Kd.int .u8) _ _ _ ((t371 / 16777216) % 256) [.int .u8 ((t371 / 16777216) % 256)] from rfl) (Reps.one (show Kd.M (Kd.int .u8) _ _ _ ((t371 / 65536) % 256) [.int .u8 ((t371 / 65536) % 256)] from rfl) (Reps.one (show Kd.M (Kd.int .u8) _ _ _ ((t371 / 256) % 256) [.int .u8 ((t371 / 256) % 256)] from rfl) (Reps.one (show Kd.M (Kd.int .u8) _ _ _ ((t371) % 256) [.int .u8 ((t371) % 256)] from rfl) (Reps.none _ _)))))); intro v373 w8 ho9 hb hg_ hnew_; clear hg_ hnew_; (first | rw [← Ny372.out] at ho9 | (simp only [Int.reduceToNat] at ho9; rw [← Ny372.out] at ho9)); have n0_ := Aside0.mk (Kd.R_lower ho9 (below_size (by repeat (first | (with_reducible first | exact HB.out | apply below_alloc | apply pw_below_drewN | apply below_drew1) | exact HB.out)))); have n1_ := Aside0.mk (below_step (by repeat (first | (with_reducible first | exact HB.out | apply below_alloc | apply pw_below_drewN | apply below_drew1) | exact HB.out)) hb); clear HB; have HO374 := n0_; have HB := n1_; clear n0_ n1_; clear hb ho9; have hcv10 := own_string (P := Try.prog) Try.underlying95 Try.underlying5 Try.underlying9 (Kd.own_of_R HO374.out)))
      go_ret2
      exact ⟨by first | rfl | (simp [errW_none, errW_some] <;> rfl) | (simp [*, errW_none, errW_some] <;> rfl), by repeat (first | (with_reducible first | exact HB.out | apply below_alloc | apply pw_below_drewN | apply below_drew1) | exact HB.out)⟩
    · rw [if_neg c5] at H
      exact absurd H (by simp)
  · rw [if_neg c3] at H
    have c3b0 : (t370 == 0) = false := beq_eq_false_iff_ne.mpr c3
    have c3b1 : (t370 != 0) = true := bne_iff_ne.mpr c3
    simp only [Option.some.injEq, Prod.mk.injEq] at H
    obtain ⟨rfl, rfl⟩ := H
    go_enter Try.func67, Try.ntmps67
    go_wp2_with (first | ((with_reducible refine gate_callee (f := 77) rfl ?_); refine goesL_ (some 9) rfl rfl Try.func77 (by kernel_rfl) rfl #[.string a0] rfl (by (try simp only [List.map_toArray, List.map_cons, List.map_nil]); first | done | rfl | (simp only [List.length_drop, List.length_take]; rfl)) ?_; (with_reducible refine (codec_Text.calls a0 t369 t370 _ A2.out).mono ?_); rintro e w11 ⟨rfl, hb⟩; refine ⟨_, rfl, ?_⟩; have n0_ := Aside0.mk (below_step (by repeat (first | (with_reducible first | exact HB.out | apply below_alloc | apply pw_below_drewN | apply below_drew1) | exact HB.out)) hb); clear HB; have HB := n0_; clear n0_; (try clear hb); (try clear hb2); (try clear hk); (try clear hi)))
    go_ret2
    exact ⟨by first | rfl | (simp [errW_none, errW_some] <;> rfl) | (simp [*, errW_none, errW_some] <;> rfl), by repeat (first | (with_reducible first | exact HB.out | apply below_alloc | apply pw_below_drewN | apply below_drew1) | exact HB.out)⟩

end Go.Proofs.Ytoibofhmlokglaa.P
-- Written by a program of this session (xprint.py) over the kit's print.py.
namespace Go.Proofs.Ytoibofhmlokglaa.P
open Go.RowKit Go.Proofs.YtoibofhmlokglaaW.PrintWords Go.Proofs.YtoibofhmlokglaaW.PrintLast Go.Proofs.YtoibofhmlokglaaW.PrintMore
attribute [local go_sem] max2_int min2_int max_two min_two max_three min_three max_four min_four   -- for this text's walks alone
set_option linter.unusedVariables false
set_option linter.unusedSimpArgs false

/-! ### crc_Get: function 71 -/
def crc_Get.l0 : Nat → ByteArray → ByteArray → ByteArray → Int → Int → Option (ByteArray × ByteArray × Int)
  | 0, _, _, _, _, _ => none
  | k + 1, x0, x5, x6, x8, x22 => if x22 < 4 then (if 0 ≤ x22 then (if x22 < (x0.size : Int) then (crc_Get.l0 k x0 x5 x6 (Go.bits .or .i64 (wrap64 (x8 * 256)) (wrap64 (bt x0 x22))) (wrap64 (x22 + 1))) else (none)) else (none)) else ((crc_Sum.f x5).bind fun t388 => (if t388 = x8 then (some (x5, x6, 0)) else (some ((⟨#[]⟩ : ByteArray), (⟨#[]⟩ : ByteArray), 30))))
def crc_Get.f (k : Nat) (a0 : ByteArray) : Option (ByteArray × ByteArray × Int) := if (a0.size : Int) < 4 then (some ((⟨#[]⟩ : ByteArray), (⟨#[]⟩ : ByteArray), 30)) else (if 4 ≤ (a0.size : Int) then ((codec_GetText.f (a0.extract 4 a0.size)).bind fun bt385 => (if bt385.2.2 = true then (crc_Get.l0 k a0 bt385.1 bt385.2.1 0 0) else (some ((⟨#[]⟩ : ByteArray), (⟨#[]⟩ : ByteArray), 30)))) else (none))
set_option maxHeartbeats 8000000 in
set_option maxRecDepth 100000 in
theorem crc_Get.calls (k : Nat) (a0 : ByteArray) (r1 : ByteArray) (r2 : ByteArray) (r3 : Int) (w : World) (h : crc_Get.f k a0 = some (r1, r2, r3)) :
    Calls Try.prog 71 #[.string a0] w fun e w' => e = .returned (.tuple #[.string r1, .string r2, .int .i64 r3]) ∧ Below w.heap.size w w' := by
  have HB := Aside0.mk (Below.refl w.heap.size w)
  have H : (if (a0.size : Int) < 4 then (some ((⟨#[]⟩ : ByteArray), (⟨#[]⟩ : ByteArray), 30)) else (if 4 ≤ (a0.size : Int) then ((codec_GetText.f (a0.extract 4 a0.size)).bind fun bt385 => (if bt385.2.2 = true then (crc_Get.l0 k a0 bt385.1 bt385.2.1 0 0) else (some ((⟨#[]⟩ : ByteArray), (⟨#[]⟩ : ByteArray), 30)))) else (none))) = some (r1, r2, r3) := h
  clear h
  by_cases c2 : (a0.size : Int) < 4
  · rw [if_pos c2] at H
    have c2b0 : decide ((a0.size : Int) < 4) = true := decide_eq_true c2
    have c2b1 : decide (a0.size < 4) = true := decide_eq_true (by omega)
    clear c2
    simp only [Option.some.injEq, Prod.mk.injEq] at H
    obtain ⟨rfl, rfl, rfl⟩ := H
    go_enter Try.func71, Try.ntmps71
    go_wp2
    go_ret3
    exact ⟨by first | rfl | (simp [errW_none, errW_some] <;> rfl) | (simp [*, errW_none, errW_some] <;> rfl), by repeat (first | (with_reducible first | exact HB.out | apply below_alloc | apply pw_below_drewN | apply below_drew1) | exact HB.out)⟩
  · rw [if_neg c2] at H
    have c2b0 : decide ((a0.size : Int) < 4) = false := decide_eq_false c2
    have c2b1 : decide (a0.size < 4) = false := decide_eq_false (by omega)
    clear c2
    by_cases c3 : 4 ≤ (a0.size : Int)
    · rw [if_pos c3] at H
      have c3b0 := eq_true c3
      have c3b1 : decide (4 ≤ (a0.size : Int)) = true := decide_eq_true c3
      clear c3
      replace H := Option.bind_eq_some_iff.mp H
      obtain ⟨⟨t385, t386, t387⟩, A40, H⟩ := H
      replace H : (if t387 = true then (crc_Get.l0 k a0 t385 t386 0 0) else (some ((⟨#[]⟩ : ByteArray), (⟨#[]⟩ : ByteArray), 30))) = some (r1, r2, r3) := H
      have A4 := Aside0.mk A40
      clear A40
      by_cases c5 : t387 = true
      · subst c5
        have H1 : (crc_Get.l0 k a0 t385 t386 0 0) = some (r1, r2, r3) := by rw [if_pos rfl] at H; exact H
        clear H
        have H := H1
        clear H1
        have H' := Aside0.mk H
        clear H
        go_enter Try.func71, Try.ntmps71
        go_wp2_with (first | ((with_reducible refine gate_callee (f := 80) rfl ?_); refine goesL_ (some 16) rfl rfl Try.func80 (by kernel_rfl) rfl #[.string (a0.extract 4 a0.size)] rfl (by (try simp only [List.map_toArray, List.map_cons, List.map_nil]); first | done | rfl | (simp only [List.length_drop, List.length_take]; rfl)) ?_; (with_reducible refine (codec_GetText.calls (a0.extract 4 a0.size) t385 t386 true _ A4.out).mono ?_); rintro e w' ⟨rfl, ⟨nd, rfl⟩⟩; refine ⟨_, rfl, ?_⟩))
        go_loopg [8, 22] k (fun kq v8 v22 w' => ∃ (x8_1 : Int) (x22_1 : Int), v8 = .int .i64 x8_1 ∧ v22 = .int .i64 x22_1 ∧ Aside0 (crc_Get.l0 kq a0 t385 t386 x8_1 x22_1 = some (r1, r2, r3)) ∧ Aside0 (kq ≤ k) ∧ Aside0 (Below w.heap.size w w'))
        case atStart => exact ⟨(0), (0), (by first | rfl | (simp; done) | (simp [*]; done)), (by first | rfl | (simp; done) | (simp [*]; done)), H', ⟨Nat.le_refl _⟩, ⟨by repeat (first | (with_reducible first | exact HB.out | apply below_alloc | apply pw_below_drewN | apply below_drew1) | exact HB.out)⟩⟩
        case round =>
          clear H'
          try clear c2
          try clear c2b0
          try clear c2b1
          try clear p2
          try clear c3
          try clear c3b0
          try clear c3b1
          try clear c5
          obtain ⟨x8_1, x22_1, rfl, rfl, HA, HK1, HB⟩ := hrel
          cases gk with
          | zero => exact absurd HA.out (by simp [crc_Get.l0])
          | succ k1 =>
            have H := HA.out
            clear HA
            simp only [crc_Get.l0] at H
            by_cases c6 : x22_1 < 4
            · rw [if_pos c6] at H
              have c6b0 : decide (x22_1 < 4) = true := decide_eq_true c6
              clear c6
              by_cases c7 : 0 ≤ x22_1
              · rw [if_pos c7] at H
                have c7b0 : decide (0 ≤ x22_1) = true := decide_eq_true c7
                clear c7
                by_cases c8 : x22_1 < (a0.size : Int)
                · rw [if_pos c8] at H
                  have c8b0 : decide (x22_1 < (a0.size : Int)) = true := decide_eq_true c8
                  clear c8
                  have H' := Aside0.mk H
                  clear H
                  have p9 : 0 ≤ (x22_1 : Int) := of_decide_eq_true (by first | (with_reducible assumption) | assumption)
                  have q9 : x22_1 < (a0.size : Int) := of_decide_eq_true (by first | (with_reducible assumption) | assumption)
                  have hx9 := bt_at a0 x22_1
                  replace p9 := eq_true p9
                  replace q9 := eq_true q9
                  go_wp2
                  go_roundg k1
                  case measure => have := HK1.out; omega
                  case rel => exact ⟨(Go.bits .or .i64 (wrap64 (x8_1 * 256)) (wrap64 (bt a0 x22_1))), (wrap64 (x22_1 + 1)), (by first | rfl | (simp; done) | (simp [*]; done)), (by first | rfl | (simp; done) | (simp [*]; done)), H', ⟨by have := HK1.out; omega⟩, ⟨by repeat (first | (with_reducible first | exact HB.out | apply below_alloc | apply pw_below_drewN | apply below_drew1) | exact HB.out)⟩⟩
                · rw [if_neg c8] at H
                  exact absurd H (by simp)
              · rw [if_neg c7] at H
                exact absurd H (by simp)
            · rw [if_neg c6] at H
              have c6b0 : decide (x22_1 < 4) = false := decide_eq_false c6
              clear c6
              replace H := Option.bind_eq_some_iff.mp H
              obtain ⟨t388, A100, H⟩ := H
              replace H : (if t388 = x8_1 then (some (t385, t386, 0)) else (some ((⟨#[]⟩ : ByteArray), (⟨#[]⟩ : ByteArray), 30))) = some (r1, r2, r3) := H
              have A10 := Aside0.mk A100
              clear A100
              by_cases c11 : t388 = x8_1
              · rw [if_pos c11] at H
                have c11b0 : (t388 == x8_1) = true := beq_iff_eq.mpr c11
                have c11b1 : (t388 != x8_1) = false := bne_eq_false_iff_eq.mpr c11
                clear c11
                simp only [Option.some.injEq, Prod.mk.injEq] at H
                obtain ⟨rfl, rfl, rfl⟩ := H
                go_wp2_with (first | ((with_reducible refine gate_callee (f := 78) rfl ?_); refine goesL_ (some 34) rfl rfl Try.func78 (by kernel_rfl) rfl #[.string t385] rfl (by (try simp only [List.map_toArray, List.map_cons, List.map_nil]); first | done | rfl | (simp only [List.length_drop, List.length_take]; rfl)) ?_; (with_reducible refine (crc_Sum.calls t385 t388 _ A10.out).mono ?_); rintro e w12 ⟨rfl, hb⟩; refine ⟨_, rfl, ?_⟩; have n0_ := Aside0.mk (below_step (by repeat (first | (with_reducible first | exact HB.out | apply below_alloc | apply pw_below_drewN | apply below_drew1) | exact HB.out)) hb); clear HB; have HB := n0_; clear n0_; (try clear hb); (try clear hb2); (try clear hk); (try clear hi)))
                go_ret3
                exact ⟨by first | rfl | (simp [errW_none, errW_some] <;> rfl) | (simp [*, errW_none, errW_some] <;> rfl), by repeat (first | (with_reducible first | exact HB.out | apply below_alloc | apply pw_below_drewN | apply below_drew1) | exact HB.out)⟩
              · rw [if_neg c11] at H
                have c11b0 : (t388 == x8_1) = false := beq_eq_false_iff_ne.mpr c11
                have c11b1 : (t388 != x8_1) = true := bne_iff_ne.mpr c11
                simp only [Option.some.injEq, Prod.mk.injEq] at H
                obtain ⟨rfl, rfl, rfl⟩ := H
                go_wp2_with (first | ((with_reducible refine gate_callee (f := 78) rfl ?_); refine goesL_ (some 34) rfl rfl Try.func78 (by kernel_rfl) rfl #[.string t385] rfl (by (try simp only [List.map_toArray, List.map_cons, List.map_nil]); first | done | rfl | (simp only [List.length_drop, List.length_take]; rfl)) ?_; (with_reducible refine (crc_Sum.calls t385 t388 _ A10.out).mono ?_); rintro e w13 ⟨rfl, hb⟩; refine ⟨_, rfl, ?_⟩; have n0_ := Aside0.mk (below_step (by repeat (first | (with_reducible first | exact HB.out | apply below_alloc | apply pw_below_drewN | apply below_drew1) | exact HB.out)) hb); clear HB; have HB := n0_; clear n0_; (try clear hb); (try clear hb2); (try clear hk); (try clear hi)))
                go_ret3
                exact ⟨by first | rfl | (simp [errW_none, errW_some] <;> rfl) | (simp [*, errW_none, errW_some] <;> rfl), by repeat (first | (with_reducible first | exact HB.out | apply below_alloc | apply pw_below_drewN | apply below_drew1) | exact HB.out)⟩
      · replace c5 := Bool.eq_false_iff.mpr c5
        subst c5
        have H1 : (some ((⟨#[]⟩ : ByteArray), (⟨#[]⟩ : ByteArray), 30)) = some (r1, r2, r3) := by rw [if_neg (show ¬ (false = true) by decide)] at H; exact H
        clear H
        have H := H1
        clear H1
        simp only [Option.some.injEq, Prod.mk.injEq] at H
        obtain ⟨rfl, rfl, rfl⟩ := H
        go_enter Try.func71, Try.ntmps71
        go_wp2_with (first | ((with_reducible refine gate_callee (f := 80) rfl ?_); refine goesL_ (some 16) rfl rfl Try.func80 (by kernel_rfl) rfl #[.string (a0.extract 4 a0.size)] rfl (by (try simp only [List.map_toArray, List.map_cons, List.map_nil]); first | done | rfl | (simp only [List.length_drop, List.length_take]; rfl)) ?_; (with_reducible refine (codec_GetText.calls (a0.extract 4 a0.size) t385 t386 false _ A4.out).mono ?_); rintro e w' ⟨rfl, ⟨nd, rfl⟩⟩; refine ⟨_, rfl, ?_⟩))
        go_ret3
        exact ⟨by first | rfl | (simp [errW_none, errW_some] <;> rfl) | (simp [*, errW_none, errW_some] <;> rfl), by repeat (first | (with_reducible first | exact HB.out | apply below_alloc | apply pw_below_drewN | apply below_drew1) | exact HB.out)⟩
    · rw [if_neg c3] at H
      exact absurd H (by simp)

end Go.Proofs.Ytoibofhmlokglaa.P
/-
  Frames, told plainly: what is put is got.
-/
namespace Go.Proofs.Ytoibofhmlokglaa.P
open Go.RowKit Go.Proofs.CodecPlain Go.Proofs.YtoibofhmlokglaaW.PrintWords Go.Proofs.YtoibofhmlokglaaW.PrintLast Go.Proofs.Ytoibofhmlokglaa.B

def In32 (x : Int) : Prop := 0 ≤ x ∧ x < 4294967296

theorem xor_rng {x y : Int} (hx : In32 x) (hy : In32 y) : In32 (bits BinOp.xor IntKind.i64 x y) := by
  obtain ⟨a, rfl⟩ : ∃ a : Nat, x = a := ⟨x.toNat, by have := hx.1; omega⟩
  obtain ⟨b, rfl⟩ : ∃ b : Nat, y = b := ⟨y.toNat, by have := hy.1; omega⟩
  have ha : a < 2 ^ 32 := by have := hx.2; omega
  have hb : b < 2 ^ 32 := by have := hy.2; omega
  have hn : (BitVec.ofInt 64 (a : Int) ^^^ BitVec.ofInt 64 (b : Int)).toNat < 2 ^ 32 := by
    rw [BitVec.toNat_xor]
    refine Nat.xor_lt_two_pow ?_ ?_
    · simp [BitVec.toNat_ofInt]; omega
    · simp [BitVec.toNat_ofInt]; omega
  show In32 (IntKind.wrap .i64 (((BitVec.ofInt 64 (a : Int) ^^^ BitVec.ofInt 64 (b : Int)).toNat : Nat) : Int))
  generalize (BitVec.ofInt 64 (a : Int) ^^^ BitVec.ofInt 64 (b : Int)).toNat = n at *
  have : IntKind.wrap .i64 (n : Int) = n := by
    simp [IntKind.wrap, IntKind.signed, IntKind.bits]
    omega
  unfold In32
  omega

theorem crc1_rng {c : Int} (h : In32 c) : In32 (crc1 c) := by
  have h2 : In32 (c / 2) := by unfold In32 at *; omega
  unfold crc1
  split
  · exact xor_rng h2 ⟨by omega, by omega⟩
  · exact h2

theorem crcN_rng {c : Int} (h : In32 c) : ∀ n, In32 (crcN n c)
  | 0 => h
  | n + 1 => crc1_rng (crcN_rng h n)

theorem stepV_rng {c b : Int} (h : In32 c) : In32 (stepV c b) := by
  unfold stepV
  have := and255 (bits BinOp.xor IntKind.i64 c b)
  refine xor_rng ?_ ?_
  · unfold In32 at *; omega
  · refine crcN_rng ?_ 8
    unfold stepI In32
    omega

theorem sumC_rng : ∀ (l : List UInt8) {c : Int}, In32 c → In32 (sumC l c)
  | [], c, h => h
  | b :: l, c, h => sumC_rng l (stepV_rng h)

theorem sumV_rng (s : ByteArray) : In32 (sumV s) := xor_rng (sumC_rng _ ⟨by omega, by omega⟩) ⟨by omega, by omega⟩

def fourS (n : Int) : ByteArray := strOfNums [(n / 16777216) % 256, (n / 65536) % 256, (n / 256) % 256, n % 256]

def frameOf (t : ByteArray) : ByteArray := fourS (sumV t) ++ textStr t

theorem four_size (n : Int) : (fourS n).size = 4 := by unfold fourS; rw [strOfNums_size]; rfl

theorem put_f (s : ByteArray) : crc_Put.f s = some (if s.size ≤ 4000 then (frameOf s, 0) else (⟨#[]⟩, 2)) := by
  unfold crc_Put.f
  rw [text_f]
  simp only [Option.bind_some]
  by_cases h : s.size ≤ 4000
  · rw [if_pos h, if_pos h, if_pos rfl]
    unfold crc_Sum.f
    rw [if_pos (by omega)]
    simp only [Option.bind_some]
    rw [if_pos (by have := textStr_size s; rw [strOfNums_size]; simp; omega)]
    rfl
  · rw [if_neg h, if_neg h, if_neg (by decide)]

def noFrame : ByteArray × ByteArray × Int := (⟨#[]⟩, ⟨#[]⟩, 30)

def getFrame (s : ByteArray) : ByteArray × ByteArray × Int :=
  if s.size < 4 then noFrame
  else if (getText (s.extract 4 s.size)).2.2 = true then
    (if sumV (getText (s.extract 4 s.size)).1 = accB (s.data.toList.take 4) then ((getText (s.extract 4 s.size)).1, (getText (s.extract 4 s.size)).2.1, 0) else noFrame)
  else noFrame

theorem get_l0 (s t rest : ByteArray) (h4 : 4 ≤ s.size) (ht : t.size ≤ 1000000000) (d : Nat) : ∀ i : Nat, i + d = 4 →
    Ev (fun r => crc_Get.l0 r s t rest (accB (s.data.toList.take i)) (i : Int)) (if sumV t = accB (s.data.toList.take 4) then (t, rest, 0) else noFrame) := by
  induction d with
  | zero =>
    intro i hi
    obtain rfl : i = 4 := by omega
    refine Ev.step (f := fun _ => some (if sumV t = accB (s.data.toList.take 4) then (t, rest, 0) else noFrame)) (fun r => ?_) (Ev.now _)
    simp only [crc_Get.l0]
    rw [if_neg (by decide)]
    unfold crc_Sum.f
    rw [if_pos ht]
    simp only [Option.bind_some]
    split <;> rfl
  | succ d ih =>
    intro i hi
    have hlt : i < s.size := by omega
    have hl : i < s.data.toList.length := by rw [len_list]; exact hlt
    have hb := accB_bd (s.data.toList.take i)
    have hlen : (s.data.toList.take i).length = i := by rw [List.length_take, len_list]; omega
    rw [hlen] at hb
    have hp : (256 : Int) ^ i ≤ 16777216 := by
      match i, (show i < 4 by omega) with
      | 0, _ => decide
      | 1, _ => decide
      | 2, _ => decide
      | 3, _ => decide
    have hby := s.data.toList[i].toNat_lt
    refine Ev.step (f := fun r => crc_Get.l0 r s t rest (accB (s.data.toList.take (i + 1))) ((i + 1 : Nat) : Int)) (fun r => ?_) (ih (i + 1) (by omega))
    simp only [crc_Get.l0]
    rw [if_pos (by omega), if_pos (by omega), if_pos (by omega), wrap_bt, bt_list s i hl, wrap_id (by omega) (by omega), or_byte _ _ hb.1 (by omega) (by omega) (by omega), wrap_id (by omega) (by omega), List.take_succ_eq_append_getElem hl, accB_snoc]
    rfl

theorem get_ev (s : ByteArray) : Ev (fun k => crc_Get.f k s) (getFrame s) := by
  unfold getFrame
  by_cases h4 : s.size < 4
  · rw [if_pos h4]
    exact Ev.congr (f := fun _ => some noFrame) (fun k => by unfold crc_Get.f; rw [if_pos (by omega)]; rfl) (Ev.now _)
  · rw [if_neg h4]
    by_cases ht : (getText (s.extract 4 s.size)).2.2 = true
    · rw [if_pos ht]
      have hsz : (getText (s.extract 4 s.size)).1.size ≤ 4000 := (getText_got (s := s.extract 4 s.size) (t := (getText (s.extract 4 s.size)).1) (rest := (getText (s.extract 4 s.size)).2.1) (by rw [← ht])).1
      have := get_l0 s (getText (s.extract 4 s.size)).1 (getText (s.extract 4 s.size)).2.1 (by omega) (by omega) 4 0 (by omega)
      refine Ev.congr (f := fun r => crc_Get.l0 r s (getText (s.extract 4 s.size)).1 (getText (s.extract 4 s.size)).2.1 0 0) (fun k => ?_) this
      unfold crc_Get.f
      rw [if_neg (by omega), if_pos (by omega), getText_f]
      simp only [Option.bind_some]
      rw [if_pos ht]
    · rw [if_neg ht]
      refine Ev.congr (f := fun _ => some noFrame) (fun k => ?_) (Ev.now _)
      unfold crc_Get.f
      rw [if_neg (by omega), if_pos (by omega), getText_f]
      simp only [Option.bind_some]
      rw [if_neg ht]
      rfl

theorem accB_four (a b c d : Int) (ha : 0 ≤ a ∧ a < 256) (hb : 0 ≤ b ∧ b < 256) (hc : 0 ≤ c ∧ c < 256) (hd : 0 ≤ d ∧ d < 256) : accB [u8 a, u8 b, u8 c, u8 d] = ((a * 256 + b) * 256 + c) * 256 + d := by
  simp only [accB, List.foldl_cons, List.foldl_nil]
  rw [u8_toNat ha.1 ha.2, u8_toNat hb.1 hb.2, u8_toNat hc.1 hc.2, u8_toNat hd.1 hd.2]
  omega

theorem four_list (n : Int) : (fourS n).data.toList = [u8 ((n / 16777216) % 256), u8 ((n / 65536) % 256), u8 ((n / 256) % 256), u8 (n % 256)] := by
  unfold fourS; rw [strOfNums_list]; rfl

end Go.Proofs.Ytoibofhmlokglaa.P
/-
  Small plain words: the first place where a predicate holds; a list's element.
-/
namespace Go.Proofs.Plain
open Go.Proofs.YtoibofhmlokglaaW.PrintWords

theorem rdOf_nat {α : Type} {d : α} (l : List α) (k : Nat) (h : k < l.length) : rdOf d l (k : Int) = l[k] := by
  simp [rdOf, List.getD_eq_getElem?_getD, h]
/-- The first place at which p holds, or -1. -/
def idx {α : Type} (p : α → Bool) (l : List α) : Int := if l.any p = true then ((l.takeWhile fun x => !p x).length : Int) else -1
theorem idx_none {α : Type} {p : α → Bool} {l : List α} (h : ∀ x ∈ l, p x = false) : idx p l = -1 := by
  unfold idx
  rw [if_neg]
  intro h1
  obtain ⟨x, hx, hp⟩ := List.any_eq_true.1 h1
  rw [h x hx] at hp; cases hp
theorem idx_at {α : Type} {p : α → Bool} {l : List α} {k : Nat} (hk : k < l.length) (h : ∀ x ∈ l.take k, p x = false) (hp : p l[k] = true) : idx p l = (k : Int) := by
  unfold idx
  rw [if_pos (List.any_eq_true.2 ⟨l[k], List.getElem_mem hk, hp⟩)]
  have hl : l = l.take k ++ l[k] :: l.drop (k + 1) := by
    rw [List.getElem_cons_drop, List.take_append_drop]
  have key : ∀ (a : List α) (x : α) (b : List α), (∀ y ∈ a, p y = false) → p x = true → ((a ++ x :: b).takeWhile fun x => !p x).length = a.length := by
    intro a
    induction a with
    | nil => intro x b _ hx; simp [List.takeWhile, hx]
    | cons y a ih =>
      intro x b ha hx
      have h1 := ha y List.mem_cons_self
      simp only [List.cons_append, List.takeWhile, h1, Bool.not_false, List.length_cons]
      rw [ih x b (fun z hz => ha z (List.mem_cons_of_mem _ hz)) hx]
  have := key (l.take k) l[k] (l.drop (k + 1)) h hp
  rw [← hl, List.length_take] at this
  rw [this]
  omega
theorem idx_ge {α : Type} (p : α → Bool) (l : List α) : decide (idx p l ≥ 0) = l.any p := by
  unfold idx
  cases h : l.any p with
  | true => rw [if_pos rfl]; exact decide_eq_true (by omega)
  | false => rw [if_neg (by decide)]; rfl
end Go.Proofs.Plain
/-
  wal.read, by hand: a record's mark, and its text.
-/
namespace Go.Proofs.Ytoibofhmlokglaa.P
open Go.RowKit Go.Proofs Go.Proofs.CodecPlain Go.Proofs.YtoibofhmlokglaaW.PrintWords Go.Proofs.YtoibofhmlokglaaW.PrintLast Go.Proofs.Plain

/-- What a block says: an epoch, a place, a text; whether it is a record. -/
def recW (s : ByteArray) : Int × Int × ByteArray × Bool :=
  if (getFrame s).2.2 = 0 ∧ (getFrame s).2.1 = ⟨#[]⟩ then
    ((getNum (getFrame s).1).1, (getNum (getNum (getFrame s).1).2.1).1, (getNum (getNum (getFrame s).1).2.1).2.1, (getNum (getFrame s).1).2.2 && ((getNum (getNum (getFrame s).1).2.1).2.2 && decide ((getNum (getNum (getFrame s).1).2.1).2.1.size ≤ 200)))
  else (0, 0, ⟨#[]⟩, false)

set_option maxHeartbeats 4000000 in
theorem wal_read_calls (s : ByteArray) (w : World) : Calls Try.prog 63 #[.string s] w fun e w' => e = .returned (.tuple #[.agg #[.int .i64 (recW s).1, .int .i64 (recW s).2.1], .string (recW s).2.2.1, .bool (recW s).2.2.2]) ∧ Below w.heap.size w w' := by
  obtain ⟨K, hK⟩ := get_ev s
  have hK' := hK K (Nat.le_refl _)
  simp only at hK'
  obtain ⟨⟨t, rest, e⟩, hg⟩ : ∃ p, p = getFrame s := ⟨_, rfl⟩
  have HG := Aside0.mk (fun W => crc_Get.calls K s t rest e W (by rw [hK', ← hg]))
  have HB0 := Aside0.mk ((Below.refl w.heap.size w).alloc (Nat.le_refl _) (.cells #[.int .i64 0, .int .i64 0] 75))
  have HM0 := Aside0.mk (blk_new w (.cells #[.int .i64 0, .int .i64 0] 75))
  obtain ⟨r, hr⟩ : ∃ r, r = recW s := ⟨_, rfl⟩
  unfold recW at hr
  rw [← hg] at hr
  rw [show recW s = r by rw [hr]; unfold recW; rw [← hg]]
  simp only at hr
  clear hK hK' hg
  by_cases he : e = 0
  rotate_left
  · rw [if_neg (fun q => he q.1)] at hr
    subst hr
    have hne : (e != 0) = true := by rw [bne_iff_ne]; exact he
    clear he
    go_enter Try.func63, Try.ntmps63
    go_wp2_with (go_at_call 71; (with_reducible refine (HG.out _).mono ?_); rintro e1 w1 ⟨rfl, hb⟩; have HB1 := Aside0.mk (HB0.out.trans (hb.mono (by simp))); have HM1 := Aside0.mk (blk_below HM0.out hb); clear hb; have m0 := blk_cell HM1.out 0; have m1 := blk_cell HM1.out 1; have f0 := blk_frozen HM1.out 0; have f1 := blk_frozen HM1.out 1)
    have HM2 := blk_set (blk_set HM1.out 0 (.int .i64 0)) 1 (.int .i64 0)
    have g0 := blk_cell HM2 0
    have g1 := blk_cell HM2 1
    have HB2 := (HB1.out.setCell (p := ⟨w.heap.size, 0, none⟩) (Nat.le_refl _) (.int .i64 0)).setCell (p := ⟨w.heap.size, 1, none⟩) (Nat.le_refl _) (.int .i64 0)
    refine bodyPost_ret (v := .tuple #[.agg #[.int .i64 0, .int .i64 0], .string ⟨#[]⟩, .bool false]) ?_ rfl ⟨rfl, HB2⟩
    simp [results, Try.results63, go_sem, g0, g1]
  subst he
  by_cases hrest : rest = ⟨#[]⟩
  rotate_left
  · rw [if_neg (fun q => hrest q.2)] at hr
    subst hr
    have hne3 : (rest.toList != ([] : List UInt8)) = true := by rw [bne_iff_ne]; intro h; rw [ByteArray.toList_eq] at h; exact hrest (ba_ext h)
    have hne4 : ¬ rest.toList = ([] : List UInt8) := by intro h; rw [ByteArray.toList_eq] at h; exact hrest (ba_ext h)
    have hne5 : rest.toList.isEmpty = false := by rw [List.isEmpty_eq_false_iff]; exact hne4
    clear hrest
    go_enter Try.func63, Try.ntmps63
    go_wp2_with (go_at_call 71; (with_reducible refine (HG.out _).mono ?_); rintro e1 w1 ⟨rfl, hb⟩; have HB1 := Aside0.mk (HB0.out.trans (hb.mono (by simp))); have HM1 := Aside0.mk (blk_below HM0.out hb); clear hb; have m0 := blk_cell HM1.out 0; have m1 := blk_cell HM1.out 1; have f0 := blk_frozen HM1.out 0; have f1 := blk_frozen HM1.out 1)
    have HM2 := blk_set (blk_set HM1.out 0 (.int .i64 0)) 1 (.int .i64 0)
    have g0 := blk_cell HM2 0
    have g1 := blk_cell HM2 1
    have HB2 := (HB1.out.setCell (p := ⟨w.heap.size, 0, none⟩) (Nat.le_refl _) (.int .i64 0)).setCell (p := ⟨w.heap.size, 1, none⟩) (Nat.le_refl _) (.int .i64 0)
    refine bodyPost_ret (v := .tuple #[.agg #[.int .i64 0, .int .i64 0], .string ⟨#[]⟩, .bool false]) ?_ rfl ⟨rfl, HB2⟩
    simp [results, Try.results63, go_sem, g0, g1]
  subst hrest
  rw [if_pos ⟨rfl, rfl⟩] at hr
  obtain ⟨n1, m1_, k1, h1⟩ : ∃ n m k, getNum t = (n, m, k) := ⟨_, _, _, rfl⟩
  rw [h1] at hr
  simp only at hr
  obtain ⟨n2, m2_, k2, h2⟩ : ∃ n m k, getNum m1_ = (n, m, k) := ⟨_, _, _, rfl⟩
  rw [h2] at hr
  simp only at hr
  subst hr
  have HN1 := Aside0.mk (fun W => codec_GetNumber.calls t n1 m1_ k1 W (congrArg some h1))
  have HN2 := Aside0.mk (fun W => codec_GetNumber.calls m1_ n2 m2_ k2 W (congrArg some h2))
  clear h1 h2
  by_cases hz : m2_.size ≤ 200
  · have hd1 : decide ((m2_.size : Int) ≤ 200) = true := decide_eq_true (by omega)
    have hd2 : decide ((200 : Int) < (m2_.size : Int)) = false := decide_eq_false (by omega)
    have hd3 : decide (m2_.size ≤ 200) = true := decide_eq_true hz
    have hd4 : decide (200 < m2_.size) = false := decide_eq_false (by omega)
    clear hz
    rw [hd3]
    cases k1 <;> cases k2
    all_goals
      go_enter Try.func63, Try.ntmps63
      go_wp2_with (first | (go_at_call 71; (with_reducible refine (HG.out _).mono ?_); rintro e1 w1 ⟨rfl, hb⟩; have HB1 := Aside0.mk (HB0.out.trans (hb.mono (by simp))); have HM1 := Aside0.mk (blk_below HM0.out hb); clear hb; have m0 := blk_cell HM1.out 0; have m1 := blk_cell HM1.out 1; have f0 := blk_frozen HM1.out 0; have f1 := blk_frozen HM1.out 1) | (go_at_call 72; (with_reducible refine (HN1.out _).mono ?_); rintro e1 w2 ⟨rfl, hb⟩; have HX2 := Aside0.mk hb.below; have HB3 := Aside0.mk (HB1.out.trans (HX2.out.mono HB1.out.size)); have HM3 := Aside0.mk (blk_below HM1.out HX2.out); clear hb) | (go_at_call 72; (with_reducible refine (HN2.out _).mono ?_); rintro e1 w3 ⟨rfl, hb⟩; have HX3 := Aside0.mk hb.below; have HB4 := Aside0.mk (HB3.out.trans (HX3.out.mono HB3.out.size)); have HM4 := Aside0.mk (blk_below HM3.out HX3.out); clear hb m0 m1 f0 f1; have m0 := blk_cell HM4.out 0; have m1 := blk_cell HM4.out 1; have f0 := blk_frozen HM4.out 0; have f1 := blk_frozen HM4.out 1))
      have HM5 := blk_set (blk_set HM4.out 0 (.int .i64 n1)) 1 (.int .i64 n2)
      have g0 := blk_cell HM5 0
      have g1 := blk_cell HM5 1
      have HB5 := (HB4.out.setCell (p := ⟨w.heap.size, 0, none⟩) (Nat.le_refl _) (.int .i64 n1)).setCell (p := ⟨w.heap.size, 1, none⟩) (Nat.le_refl _) (.int .i64 n2)
      refine bodyPost_ret ?_ rfl ⟨rfl, HB5⟩
      simp [results, Try.results63, go_sem, g0, g1]
  · have hd1 : decide ((m2_.size : Int) ≤ 200) = false := decide_eq_false (by omega)
    have hd2 : decide ((200 : Int) < (m2_.size : Int)) = true := decide_eq_true (by omega)
    have hd3 : decide (m2_.size ≤ 200) = false := decide_eq_false hz
    have hd4 : decide (200 < m2_.size) = true := decide_eq_true (by omega)
    clear hz
    rw [hd3]
    cases k1 <;> cases k2
    all_goals
      go_enter Try.func63, Try.ntmps63
      go_wp2_with (first | (go_at_call 71; (with_reducible refine (HG.out _).mono ?_); rintro e1 w1 ⟨rfl, hb⟩; have HB1 := Aside0.mk (HB0.out.trans (hb.mono (by simp))); have HM1 := Aside0.mk (blk_below HM0.out hb); clear hb; have m0 := blk_cell HM1.out 0; have m1 := blk_cell HM1.out 1; have f0 := blk_frozen HM1.out 0; have f1 := blk_frozen HM1.out 1) | (go_at_call 72; (with_reducible refine (HN1.out _).mono ?_); rintro e1 w2 ⟨rfl, hb⟩; have HX2 := Aside0.mk hb.below; have HB3 := Aside0.mk (HB1.out.trans (HX2.out.mono HB1.out.size)); have HM3 := Aside0.mk (blk_below HM1.out HX2.out); clear hb) | (go_at_call 72; (with_reducible refine (HN2.out _).mono ?_); rintro e1 w3 ⟨rfl, hb⟩; have HX3 := Aside0.mk hb.below; have HB4 := Aside0.mk (HB3.out.trans (HX3.out.mono HB3.out.size)); have HM4 := Aside0.mk (blk_below HM3.out HX3.out); clear hb m0 m1 f0 f1; have m0 := blk_cell HM4.out 0; have m1 := blk_cell HM4.out 1; have f0 := blk_frozen HM4.out 0; have f1 := blk_frozen HM4.out 1))
      have HM5 := blk_set (blk_set HM4.out 0 (.int .i64 n1)) 1 (.int .i64 n2)
      have g0 := blk_cell HM5 0
      have g1 := blk_cell HM5 1
      have HB5 := (HB4.out.setCell (p := ⟨w.heap.size, 0, none⟩) (Nat.le_refl _) (.int .i64 n1)).setCell (p := ⟨w.heap.size, 1, none⟩) (Nat.le_refl _) (.int .i64 n2)
      refine bodyPost_ret ?_ rfl ⟨rfl, HB5⟩
      simp [results, Try.results63, go_sem, g0, g1]
end Go.Proofs.Ytoibofhmlokglaa.P
/-
  slices.IndexFunc and slices.ContainsFunc over texts, at whatever function value that answers a plain predicate, by hand.
-/
namespace Go.Proofs.Ytoibofhmlokglaa.P
open Go.RowKit Go.Shelf Go.Proofs.YtoibofhmlokglaaW.PrintWords Go.Proofs.YtoibofhmlokglaaW.PrintLast Go.Proofs.Plain

/-- The function value (g, with lb captured) answers p at each of l's elements, and turns nothing that lies, from w on. -/
def PredAt {α : Type} (g : Nat) (lb : Array Value) (enc : α → Value) (p : α → Bool) (l : List α) (w : World) : Prop :=
  (∀ args w, (callFunc g args).run Try.prog w = .ok (.enter g args) w) ∧
  ∀ x ∈ l, ∀ w1, Below w.heap.size w w1 → Calls Try.prog g (#[enc x] ++ lb) w1 fun e w2 => e = .returned (.bool (p x)) ∧ Below w1.heap.size w1 w2

set_option maxHeartbeats 2000000 in
theorem IndexFuncStr (g : Nat) (lb : Array Value) (p : ByteArray → Bool) (A : Option Addr) (c : Nat) (l : List ByteArray) (w : World) (hr : Kd.C Kd.string w A l.length l) (hp : PredAt g lb Value.string p l w) :
    Calls Try.prog 70 #[.slice A l.length c, .func (.func g) #[] lb] w fun e w' => e = .returned (.int .i64 (idx p l)) ∧ Below w.heap.size w w' := by
  have HR := Aside0.mk hr
  have hm := hr.2.1
  obtain ⟨eg, hpr⟩ := hp
  have HP := Aside0.mk hpr
  clear hr hpr
  go_enter Try.func70, Try.ntmps70
  go_wp2
  go_loopw [4, 5, 8] (fun _ _ i wr => ∃ k : Nat, k ≤ l.length ∧ i = .int .i64 k ∧ Aside0 (∀ x ∈ l.take k, p x = false) ∧ Aside0 (Below w.heap.size w wr)) (fun _ _ i _ => l.length - (intOf i).toNat)
  case atStart => exact ⟨0, Nat.zero_le _, rfl, ⟨by simp⟩, ⟨Below.refl _ _⟩⟩
  case round =>
    obtain ⟨k, hk, rfl, hall, HB⟩ := hrel
    by_cases hlt : k < l.length
    · obtain ⟨ad, rfl, hx⟩ := Kd.at_string (Kd.C_below HR.out HB.out) (k : Int) (by omega) (by omega)
      rw [rdOf_nat l k hlt, Int.toNat_natCast] at hx
      have hcall := HP.out l[k] (List.getElem_mem hlt) wr HB.out
      cases hpk : p l[k]
      · have hal2 : Aside0 (∀ x ∈ l.take (k + 1), p x = false) := ⟨by
          rw [List.take_succ_eq_append_getElem hlt]; intro s hs
          rcases List.mem_append.1 hs with h | h
          · exact hall.out s h
          · rw [List.mem_singleton.1 h]; exact hpk⟩
        have HC := Aside0.mk hcall
        have HK := Aside0.mk hpk
        clear hcall hpk
        go_wp2_with (go_at_fn g; refine HC.out.mono ?_; rintro e w3 ⟨rfl, hb3⟩; have HB3 := Aside0.mk (HB.out.trans (hb3.mono HB.out.size)); clear hb3; rw [HK.out])
        go_roundw
        case rel => exact ⟨k + 1, by omega, by go_num, hal2, HB3⟩
        case measure => simp [intOf]; omega
      · have HC := Aside0.mk hcall
        have HK := Aside0.mk hpk
        have hres := Aside0.mk (idx_at hlt hall.out hpk)
        clear hcall hpk
        go_wp2_with (go_at_fn g; refine HC.out.mono ?_; rintro e w3 ⟨rfl, hb3⟩; have HB3 := Aside0.mk (HB.out.trans (hb3.mono HB.out.size)); clear hb3; rw [HK.out])
        go_ret
        exact ⟨by rw [hres.out]; rfl, HB3.out⟩
    · obtain rfl : k = l.length := by omega
      have hres := Aside0.mk (idx_none (p := p) (l := l) (fun x hx => hall.out x (by rw [List.take_length]; exact hx)))
      go_wp2
      go_ret
      exact ⟨by rw [hres.out]; rfl, HB.out⟩

set_option maxHeartbeats 1000000 in
theorem ContainsFuncStr (g : Nat) (lb : Array Value) (p : ByteArray → Bool) (A : Option Addr) (c : Nat) (l : List ByteArray) (w : World) (hr : Kd.C Kd.string w A l.length l) (hp : PredAt g lb Value.string p l w) :
    Calls Try.prog 58 #[.slice A l.length c, .func (.func g) #[] lb] w fun e w' => e = .returned (.bool (l.any p)) ∧ Below w.heap.size w w' := by
  have HC := Aside0.mk (IndexFuncStr g lb p A c l w hr hp)
  have hge := Aside0.mk (idx_ge p l)
  clear hr hp
  obtain ⟨n, hn⟩ : ∃ n, n = idx p l := ⟨_, rfl⟩
  rw [← hn] at HC hge
  clear hn
  go_enter Try.func58, Try.ntmps58
  go_wp2_with (go_at_call 70; refine HC.out.mono ?_; rintro e w3 ⟨rfl, hb3⟩; have HB3 := Aside0.mk hb3; clear hb3)
  go_ret
  exact ⟨by rw [← hge.out]; rfl, HB3.out⟩
end Go.Proofs.Ytoibofhmlokglaa.P
/-
  slices.IndexFunc and slices.ContainsFunc over writes, at whatever function value that answers a plain predicate, by hand.
-/
namespace Go.Proofs.Ytoibofhmlokglaa.P
open Go.RowKit Go.Shelf Go.Proofs.YtoibofhmlokglaaW.PrintWords Go.Proofs.YtoibofhmlokglaaW.PrintLast Go.Proofs.Plain

/-- A write as a value. -/
def encWrite (x : S40) : Value := .agg #[.int .i64 x.f0, .string x.f1]
theorem rdWrite (l : List S40) (k : Nat) (h : k < l.length) : rd_T40 l (k : Int) = l[k] := by
  simp [rd_T40, List.getD_eq_getElem?_getD, h]

set_option maxHeartbeats 2000000 in
theorem IndexFuncWrite (g : Nat) (lb : Array Value) (p : S40 → Bool) (A : Option Addr) (c : Nat) (l : List S40) (w : World) (hr : Kd.C k40 w A l.length l) (hp : PredAt g lb encWrite p l w) :
    Calls Try.prog 60 #[.slice A l.length c, .func (.func g) #[] lb] w fun e w' => e = .returned (.int .i64 (idx p l)) ∧ Below w.heap.size w w' := by
  have HR := Aside0.mk hr
  have hm := hr.2.1
  obtain ⟨eg, hpr⟩ := hp
  have HP := Aside0.mk hpr
  clear hr hpr
  go_enter Try.func60, Try.ntmps60
  go_wp2
  go_loopw [4, 5, 8] (fun _ _ i wr => ∃ k : Nat, k ≤ l.length ∧ i = .int .i64 k ∧ Aside0 (∀ x ∈ l.take k, p x = false) ∧ Aside0 (Below w.heap.size w wr)) (fun _ _ i _ => l.length - (intOf i).toNat)
  case atStart => exact ⟨0, Nat.zero_le _, rfl, ⟨by simp⟩, ⟨Below.refl _ _⟩⟩
  case round =>
    obtain ⟨k, hk, rfl, hall, HB⟩ := hrel
    by_cases hlt : k < l.length
    · obtain ⟨ad, rfl, hx0, hx1⟩ := at_T40 (Kd.C_below HR.out HB.out) (k : Int) (by omega) (by omega)
      rw [rdWrite l k hlt, Int.toNat_natCast] at hx0 hx1
      have hcall := HP.out l[k] (List.getElem_mem hlt) wr HB.out
      unfold encWrite at hcall
      cases hpk : p l[k]
      · have hal2 : Aside0 (∀ x ∈ l.take (k + 1), p x = false) := ⟨by
          rw [List.take_succ_eq_append_getElem hlt]; intro s hs
          rcases List.mem_append.1 hs with h | h
          · exact hall.out s h
          · rw [List.mem_singleton.1 h]; exact hpk⟩
        have HC := Aside0.mk hcall
        have HK := Aside0.mk hpk
        clear hcall hpk
        go_wp2_with (go_at_fn g; refine HC.out.mono ?_; rintro e w3 ⟨rfl, hb3⟩; have HB3 := Aside0.mk (HB.out.trans (hb3.mono HB.out.size)); clear hb3; rw [HK.out])
        go_roundw
        case rel => exact ⟨k + 1, by omega, by go_num, hal2, HB3⟩
        case measure => simp [intOf]; omega
      · have HC := Aside0.mk hcall
        have HK := Aside0.mk hpk
        have hres := Aside0.mk (idx_at hlt hall.out hpk)
        clear hcall hpk
        go_wp2_with (go_at_fn g; refine HC.out.mono ?_; rintro e w3 ⟨rfl, hb3⟩; have HB3 := Aside0.mk (HB.out.trans (hb3.mono HB.out.size)); clear hb3; rw [HK.out])
        go_ret
        exact ⟨by rw [hres.out]; rfl, HB3.out⟩
    · obtain rfl : k = l.length := by omega
      have hres := Aside0.mk (idx_none (p := p) (l := l) (fun x hx => hall.out x (by rw [List.take_length]; exact hx)))
      go_wp2
      go_ret
      exact ⟨by rw [hres.out]; rfl, HB.out⟩

set_option maxHeartbeats 1000000 in
theorem ContainsFuncWrite (g : Nat) (lb : Array Value) (p : S40 → Bool) (A : Option Addr) (c : Nat) (l : List S40) (w : World) (hr : Kd.C k40 w A l.length l) (hp : PredAt g lb encWrite p l w) :
    Calls Try.prog 49 #[.slice A l.length c, .func (.func g) #[] lb] w fun e w' => e = .returned (.bool (l.any p)) ∧ Below w.heap.size w w' := by
  have HC := Aside0.mk (IndexFuncWrite g lb p A c l w hr hp)
  have hge := Aside0.mk (idx_ge p l)
  clear hr hp
  obtain ⟨n, hn⟩ : ∃ n, n = idx p l := ⟨_, rfl⟩
  rw [← hn] at HC hge
  clear hn
  go_enter Try.func49, Try.ntmps49
  go_wp2_with (go_at_call 60; refine HC.out.mono ?_; rintro e w3 ⟨rfl, hb3⟩; have HB3 := Aside0.mk hb3; clear hb3)
  go_ret
  exact ⟨by rw [← hge.out]; rfl, HB3.out⟩
end Go.Proofs.Ytoibofhmlokglaa.P
/-
  disk.short and disk.Check, by hand. For every disk.
-/
namespace Go.Proofs.Ytoibofhmlokglaa.P
open Go.RowKit Go.Shelf Go.Proofs.YtoibofhmlokglaaW.PrintWords Go.Proofs.YtoibofhmlokglaaW.PrintLast Go.Proofs.Plain

def longS (s : ByteArray) : Bool := decide (256 < s.size)
def oddW (n : Int) (x : S40) : Bool := decide (x.f0 < 0) || decide (x.f0 ≥ n) || longS x.f1
/-- Whether a disk is right. -/
def checkB (l0 : List ByteArray) (l1 : List S40) : Bool :=
  decide (1 ≤ l0.length) && decide (l0.length ≤ 200) && decide (l1.length ≤ 100) && !(l0.any longS) && !(l1.any (oddW l0.length))

set_option maxHeartbeats 1000000 in
theorem disk_short1_calls (s : ByteArray) (w : World) : Calls Try.prog 59 #[.string s] w fun e w' => e = .returned (.bool (longS s)) ∧ w' = w := by
  have hl := Aside0.mk (show longS s = decide (256 < (s.size : Int)) by unfold longS; by_cases h : 256 < s.size <;> simp [h] <;> omega)
  go_enter Try.func59, Try.ntmps59
  go_wp2
  go_ret
  exact ⟨by rw [hl.out]; rfl, rfl⟩
theorem short_pred (l : List ByteArray) (w : World) : PredAt 59 #[] Value.string longS l w :=
  ⟨enters_of Try.func59 (by kernel_rfl) rfl, fun x _ w1 _ => (disk_short1_calls x w1).mono (by rintro e w2 ⟨rfl, rfl⟩; exact ⟨rfl, Below.refl _ _⟩)⟩

set_option maxHeartbeats 1000000 in
theorem disk_short_calls (A : Option Addr) (c : Nat) (l : List ByteArray) (w : World) (hr : Kd.C Kd.string w A l.length l) :
    Calls Try.prog 42 #[.slice A l.length c] w fun e w' => e = .returned (.bool (!(l.any longS))) ∧ Below w.heap.size w w' := by
  have HC := Aside0.mk (ContainsFuncStr 59 #[] longS A c l w hr (short_pred l w))
  clear hr
  obtain ⟨b, hb⟩ : ∃ b, b = l.any longS := ⟨_, rfl⟩
  rw [← hb] at HC ⊢
  clear hb
  go_enter Try.func42, Try.ntmps42
  go_wp2_with (go_at_call 58; refine HC.out.mono ?_; rintro e w3 ⟨rfl, hb3⟩; have HB3 := Aside0.mk hb3; clear hb3)
  go_ret
  exact ⟨rfl, HB3.out⟩

/-- One text in a block of its own reads as a row. -/
theorem one_str (W : World) (s : ByteArray) (T : TypeId) : Kd.C Kd.string (W.alloc (.cells #[.string s] T)) (some ⟨W.heap.size, 0, none⟩) ([s] : List ByteArray).length [s] := by
  refine ⟨rfl, (by show 1 ≤ _; omega), fun _ => ⟨_, rfl, fun j p hj => ?_⟩⟩
  match j, hj with
  | 0, hj =>
    have hp : s = p := by simpa using hj
    subst hp
    refine ⟨[.string s], rfl, rfl, fun i u hu => ?_⟩
    match i, hu with
    | 0, hu =>
      have : Value.string s = u := by simpa using hu
      subst this
      simp [Kd.string, Kd.scalar, Addr.add]

theorem disk_short_one (w : World) (o : Obj) (s : ByteArray) :
    Calls Try.prog 42 #[.slice (some ⟨w.heap.size + 1, 0, none⟩) 1 1] ((w.alloc o).alloc (.cells #[.string s] 9)) fun e w' => e = .returned (.bool (!(longS s))) ∧ Below w.heap.size w w' := by
  have h := disk_short_calls _ 1 [s] _ (one_str (w.alloc o) s 9)
  rw [World.size_alloc] at h
  refine h.mono ?_
  rintro e w' ⟨rfl, hb⟩
  exact ⟨by simp, (((Below.refl _ _).alloc (Nat.le_refl _) _).alloc (by simp) _).trans (hb.mono (by simp; omega))⟩

set_option maxHeartbeats 2000000 in
theorem disk_Check1_calls (n : Int) (B : Nat) (x : S40) (w : World) (hb : w.cell? ⟨B, 0, none⟩ = some (.int .i64 n)) (hB : B < w.heap.size) :
    Calls Try.prog 48 #[.agg #[.int .i64 x.f0, .string x.f1], .pointer (some ⟨B, 0, none⟩)] w fun e w' => e = .returned (.bool (oddW n x)) ∧ Below w.heap.size w w' := by
  obtain ⟨at_, s⟩ := x
  simp only
  have ho := Aside0.mk (show oddW n ⟨at_, s⟩ = (decide (at_ < 0) || decide (at_ ≥ n) || longS s) from rfl)
  by_cases h1 : at_ < 0
  · have e1 : decide (at_ < 0) = true := decide_eq_true h1
    rw [e1] at ho
    go_enter Try.func48, Try.ntmps48
    go_wp2
    go_ret
    exact ⟨by rw [ho.out]; rfl, (Below.refl _ _).alloc (Nat.le_refl _) _⟩
  · have e1 : decide (at_ < 0) = false := decide_eq_false h1
    by_cases h2 : at_ ≥ n
    · have e2 : decide (n ≤ at_) = true := decide_eq_true h2
      rw [e1, show decide (at_ ≥ n) = true from decide_eq_true h2] at ho
      clear h1 h2
      go_enter Try.func48, Try.ntmps48
      go_wp2
      go_ret
      exact ⟨by rw [ho.out]; rfl, (Below.refl _ _).alloc (Nat.le_refl _) _⟩
    · have e2 : decide (n ≤ at_) = false := decide_eq_false h2
      rw [e1, show decide (at_ ≥ n) = false from decide_eq_false h2] at ho
      clear h1 h2
      obtain ⟨q, hq⟩ : ∃ q, q = longS s := ⟨_, rfl⟩
      have HO := Aside0.mk (disk_short_one w (.cells #[.int .i64 at_, .string s] 40) s)
      rw [← hq] at ho HO
      clear hq
      go_enter Try.func48, Try.ntmps48
      go_wp2_with (go_at_call 42; refine HO.out.mono ?_; rintro e w3 ⟨rfl, hb3⟩; have HB3 := Aside0.mk hb3; clear hb3)
      go_ret
      exact ⟨by rw [ho.out]; cases q <;> rfl, HB3.out⟩
/-- What disk.Check answers. -/
def disk_Check.f (l0_0 : List ByteArray) (l0_1 : List S40) : Option Bool := some (checkB l0_0 l0_1)

theorem check1_pred (n : Int) (B : Nat) (l : List S40) (w : World) (hb : w.cell? ⟨B, 0, none⟩ = some (.int .i64 n)) (hB : B < w.heap.size) :
    PredAt 48 #[.pointer (some ⟨B, 0, none⟩)] encWrite (oddW n) l w :=
  ⟨enters_of Try.func48 (by kernel_rfl) rfl, fun x _ w1 h1 => disk_Check1_calls n B x w1 ((h1.cell (p := ⟨B, 0, none⟩) hB).trans hb) (Nat.lt_of_lt_of_le hB h1.size)⟩

set_option maxHeartbeats 4000000 in
set_option maxRecDepth 100000 in
theorem disk_Check.calls (A0_0 : Option Addr) (c0_0 : Nat) (l0_0 : List ByteArray) (A0_1 : Option Addr) (c0_1 : Nat) (l0_1 : List S40) (r : Bool) (w : World) (hr0_0 : Kd.C Kd.string w A0_0 l0_0.length l0_0) (hc0_0 : l0_0.length ≤ c0_0) (hr0_1 : Kd.C k40 w A0_1 l0_1.length l0_1) (hc0_1 : l0_1.length ≤ c0_1) (h : disk_Check.f l0_0 l0_1 = some r) :
    Calls Try.prog 24 #[.agg #[.slice A0_0 l0_0.length c0_0, .slice A0_1 l0_1.length c0_1]] w fun e w' => e = .returned (.bool r) ∧ Below w.heap.size w w' := by
  have hck : r = checkB l0_0 l0_1 := by simpa [disk_Check.f] using h.symm
  clear h
  have m0 := hr0_0.2.1
  have m1 := hr0_1.2.1
  unfold checkB at hck
  obtain ⟨D, hD⟩ : ∃ D, D = Obj.cells #[.slice A0_0 l0_0.length c0_0, .slice A0_1 l0_1.length c0_1] 25 := ⟨_, rfl⟩
  have hB2 : Below w.heap.size w ((w.alloc D).alloc (.cells #[.int .i64 (l0_0.length : Int)] 3)) := ((Below.refl _ _).alloc (Nat.le_refl _) _).alloc (by simp) _
  have HS := Aside0.mk (disk_short_calls A0_0 c0_0 l0_0 _ (Kd.C_below hr0_0 hB2))
  have HR1 := Aside0.mk hr0_1
  have HB2 := Aside0.mk hB2
  have hbx0 := Boxed.new (w.alloc D) 3 (.int .i64 (l0_0.length : Int))
  rw [World.size_alloc] at hbx0
  have hbx := Aside0.mk hbx0
  have hcD := Aside0.mk (show ∀ w3, Below ((w.alloc D).alloc (.cells #[.int .i64 (l0_0.length : Int)] 3)).heap.size ((w.alloc D).alloc (.cells #[.int .i64 (l0_0.length : Int)] 3)) w3 → w3.cell? ⟨w.heap.size, 1, none⟩ = some (.slice A0_1 l0_1.length c0_1) by
    intro w3 hb
    have h1 : w3.heap[w.heap.size]? = some D := (hb.block w.heap.size (by simp; omega)).trans ((Below.heap_alloc (w.alloc D) _ w.heap.size (by simp)).trans (World.alloc_heap_new w D))
    subst hD
    simp [World.cell?, h1])
  have hPR := Aside0.mk (show ∀ w3, Below ((w.alloc D).alloc (.cells #[.int .i64 (l0_0.length : Int)] 3)).heap.size ((w.alloc D).alloc (.cells #[.int .i64 (l0_0.length : Int)] 3)) w3 →
      Calls Try.prog 49 #[.slice A0_1 l0_1.length c0_1, .func (.func 48) #[] #[.pointer (some ⟨w.heap.size + 1, 0, none⟩)]] w3 fun e w' => e = .returned (.bool (l0_1.any (oddW l0_0.length))) ∧ Below w3.heap.size w3 w' by
    intro w3 hb
    have hs : w.heap.size + 1 < w3.heap.size := by have := hb.size; simp at this; omega
    exact ContainsFuncWrite _ _ _ A0_1 c0_1 l0_1 w3 (Kd.C_below hr0_1 (hB2.trans (hb.mono hB2.size))) (check1_pred _ _ _ w3 ((hb.block (w.heap.size + 1) (by simp)).trans hbx0 |> fun h => by simp [World.cell?, h]) hs))
  clear hbx0
  subst hD
  clear hB2 hr0_0 hr0_1
  by_cases h1 : 1 ≤ l0_0.length
  · by_cases h2 : l0_0.length ≤ 200
    · by_cases h3 : l0_1.length ≤ 100
      · rw [decide_eq_true h1, decide_eq_true h2, decide_eq_true h3] at hck
        cases h4 : l0_0.any longS
        · rw [h4] at hck HS
          have HK := Aside0.mk hck
          clear hck h4
          go_enter Try.func24, Try.ntmps24
          obtain ⟨q, hq⟩ : ∃ q, q = l0_1.any (oddW l0_0.length) := ⟨_, rfl⟩
          rw [← hq] at hPR HK
          clear hq
          go_wp2_with (first | (go_at_call 42; refine HS.out.mono ?_; rintro e w3 ⟨rfl, hb3⟩; have HB3 := Aside0.mk hb3; have hc1 := hcD.out w3 hb3; have HP := Aside0.mk (hPR.out w3 hb3); clear hb3) | (go_at_call 49; refine HP.out.mono ?_; rintro e w4 ⟨rfl, hb4⟩; have HB4 := Aside0.mk hb4; clear hb4))
          go_ret
          exact ⟨by rw [HK.out]; cases q <;> rfl, (HB2.out.trans (HB3.out.mono HB2.out.size)).trans (HB4.out.mono (HB2.out.trans (HB3.out.mono HB2.out.size)).size)⟩
        · rw [h4] at hck HS
          have HK := Aside0.mk hck
          clear hck h4
          go_enter Try.func24, Try.ntmps24
          go_wp2_with (go_at_call 42; refine HS.out.mono ?_; rintro e w3 ⟨rfl, hb3⟩; have HB3 := Aside0.mk hb3; clear hb3)
          go_ret
          exact ⟨by rw [HK.out]; rfl, HB2.out.trans (HB3.out.mono HB2.out.size)⟩
      · rw [decide_eq_true h1, decide_eq_true h2, decide_eq_false h3] at hck
        have HK := Aside0.mk hck
        clear hck
        go_enter Try.func24, Try.ntmps24
        go_wp2
        go_ret
        exact ⟨by rw [HK.out]; rfl, HB2.out⟩
    · rw [decide_eq_true h1, decide_eq_false h2] at hck
      have HK := Aside0.mk hck
      clear hck
      go_enter Try.func24, Try.ntmps24
      go_wp2
      go_ret
      exact ⟨by rw [HK.out]; rfl, HB2.out⟩
  · rw [decide_eq_false h1] at hck
    have HK := Aside0.mk hck
    clear hck
    go_enter Try.func24, Try.ntmps24
    go_wp2
    go_ret
    exact ⟨by rw [HK.out]; rfl, HB2.out⟩
end Go.Proofs.Ytoibofhmlokglaa.P
/-
  copy of a row of texts into one of the call's own, as long.
-/
namespace Go.Proofs.Ytoibofhmlokglaa.P
open Go.RowKit Go.Proofs.YtoibofhmlokglaaW.PrintWords Go.Proofs.YtoibofhmlokglaaW.PrintLast Go.Proofs.Plain

theorem cstr_size : (Try.prog.info? 9).map (·.size) = some 1 := by kernel_rfl

theorem copy_strs {ops : Array Oper} {rest : List Oper} {o : Oper} {a : Act} {Q : Exit → Act → World → Prop} {W : World} {base : Nat} {ok : Nat → Prop} (hgd : o.guard = none) (d s : Operand)
    (ho : o.op = .call { callee := .builtin .copy, args := #[d, s], argTypes := #[22, 22] }) (v : Value) (hd : a.eval d = v) (A : Option Addr) (n c : Nat) (hs : a.eval s = .slice A n c)
    (xs l : List ByteArray) (HO : Kd.R Kd.string 9 W base ok v xs) (HR : Kd.C Kd.string W A n l) (hlen : xs.length = n) (h0 : 0 < n)
    (h : ∀ w1, Kd.R Kd.string 9 w1 base ok v l → W.grownBy w1 v.ownBlock → wpList Try.prog ops Q rest (a.put o.dst (goInt l.length)) w1) : wpList Try.prog ops Q (o :: rest) a W := by
  have hown := Kd.own_of_R (enc := Value.string) (h1 := fun _ => rfl) HO
  have hln : l.length = n := HR.1
  obtain ⟨ad, rfl, hcell⟩ := HR.2.2 h0
  rcases hown.2 with ⟨_, hz⟩ | ⟨g, cap, cur, rfl, hb, hg, hnc, hcm, hcs, htake⟩
  · omega
  · refine wpList_copy_own hgd d s 22 22 ho 9 Try.underlying22 cstr_size g 0 xs.length cap ad n c hd hs cur 9 hg (encs Value.string l) (by rw [hlen]; simp [encs, hln]) ?_ (by simp [encs]; omega) (by intro u hu; simp [encs] at hu; obtain ⟨x, _, rfl⟩ := hu; rfl) ?_
    · intro j u hj
      simp only [encs, List.getElem?_map, Option.map_eq_some_iff] at hj
      obtain ⟨p, hp, rfl⟩ := hj
      obtain ⟨cs, hl, hK, hc⟩ := hcell j p hp
      have hK' : cs = [.string p] := hK
      subst hK'
      have := hc 0 _ rfl
      simpa [Kd.string, Kd.scalar] using this
    · have e1 : (encs Value.string l).length = l.length := by simp [encs]
      rw [e1]
      refine h _ (Kd.R_of_own ⟨by simp [encs], .inr ⟨g, cap, _, by rw [hln, ← hlen], hb, setRow_heap W g cur _ 9 (0, 0) hg, by omega, hcm, ?_, ?_⟩⟩ (fun k hk => HO.1 k hk)) ?_
      · simp [encs]; omega
      · show List.take (l.length * 1) (List.take 0 cur.toList ++ (encs Value.string l ++ _)) = _
        rw [List.take_zero, List.nil_append, Nat.mul_one, List.take_append_of_le_length (by simp [encs]), List.take_of_length_le (by simp [encs])]
      · refine ⟨rfl, rfl, rfl, by simp [World.setRow], fun k _ hk => setRow_other W g k _ (fun e => hk (by rw [e]; rfl))⟩
end Go.Proofs.Ytoibofhmlokglaa.P
/-
  slices.Clone over texts, by hand: the same elements in a row of its own. For every row of no more than 1000000000 elements.
-/
namespace Go.Proofs.Ytoibofhmlokglaa.P
open Go.RowKit Go.Proofs.YtoibofhmlokglaaW.PrintWords Go.Proofs.YtoibofhmlokglaaW.PrintLast Go.Proofs.YtoibofhmlokglaaW.PrintMore Go.Proofs.Plain

/-- What slices.Clone answers. -/
def slices_Clone_string_string.f (l0 : List ByteArray) : Option (List ByteArray) := if l0.length ≤ 1000000000 then some l0 else none
theorem slices_Clone_string_string_info : (Try.prog.info? 9).map (fun i => (i.zero, i.size, i.bytes)) = some (some (.string ⟨#[]⟩), 1, 16) := by kernel_rfl

set_option maxHeartbeats 2000000 in
theorem slices_Clone_string_string.calls (A0 : Option Addr) (c0 : Nat) (l0 : List ByteArray) (r : List ByteArray) (w : World) (hr0 : Kd.C Kd.string w A0 l0.length l0) (hc0 : l0.length ≤ c0) (h : slices_Clone_string_string.f l0 = some r) :
    Calls Try.prog 57 #[.slice A0 l0.length c0] w fun e w' => ∃ v0_ : Value, e = .returned (v0_) ∧ Kd.R Kd.string 9 w' w.heap.size (fun _ => True) v0_ r ∧ Below w.heap.size w w' := by
  unfold slices_Clone_string_string.f at h
  split at h
  · rename_i hlen
    obtain rfl := Option.some.inj h
    have HR := Aside0.mk hr0
    have HL := Aside0.mk hlen
    have heq := fun (W : World) => Lib.run_eql_slice_nil (P := Try.prog) W 22 9 A0 l0.length c0 0 0 Try.underlying22
    clear h hlen
    cases A0 with
    | none =>
      have h0 : l0 = [] := by
        cases l0 with
        | nil => rfl
        | cons x l => obtain ⟨_, e, _⟩ := hr0.2.2 (by simp); cases e
      have HN := Aside0.mk h0
      clear hr0 h0
      go_enter Try.func57, Try.ntmps57
      go_wp2
      go_ret
      exact ⟨_, rfl, by rw [HN.out]; exact Kd.R_nil _ _ _ _ _, Below.refl _ _⟩
    | some ad =>
      clear hr0
      have HR0 := Aside0.mk (show Kd.R Kd.string 9 (w.alloc (.cells #[] 9)) w.heap.size (fun _ => True) (.slice (some ⟨w.heap.size, 0, none⟩) 0 0) [] from ⟨fun _ _ => trivial, [], World.ownsRow_lit w #[] 0 (Nat.le_refl _) (by simp [maxLen]) rfl, Reps.none _ _⟩)
      have HB := Aside0.mk (show Below w.heap.size w (w.alloc (.cells #[] 9)) from (Below.refl _ _).alloc (Nat.le_refl _) _)
      go_enter Try.func57, Try.ntmps57
      go_wp2_with (at_builtin; refine Kd.R_append_rows Kd.string (w0 := w) w.heap.size rfl (.tmp 5) (.tmp 6) 22 9 (.string ⟨#[]⟩) 16 rfl Try.underlying22 slices_Clone_string_string_info rfl (by decide) (by omega) (.slice (some ⟨w.heap.size, 0, none⟩) 0 0) ([] : List ByteArray) l0 _ _ _ (fun _ => True) (fun _ => False) rfl rfl HR0.out (Kd.C_below HR.out HB.out) (fun _ _ h => h) (fun _ h => h.elim) (fun _ _ => trivial) HB.out HB.out.size (by have := HL.out; simp; omega) ?_; intro v1 w1 ho hb _ _; have HO := Aside0.mk ho; have HB1 := Aside0.mk hb; clear ho hb)
      go_ret
      exact ⟨_, rfl, HO.out, HB1.out⟩
  · cases h
end Go.Proofs.Ytoibofhmlokglaa.P
/-
  disk.done, by hand: a disk with those of its writes done that a function value chooses. For every disk and every such function value.
-/
namespace Go.Proofs.Ytoibofhmlokglaa.P
open Go.RowKit Go.Shelf Go.Proofs.YtoibofhmlokglaaW.PrintWords Go.Proofs.YtoibofhmlokglaaW.PrintLast Go.Proofs.YtoibofhmlokglaaW.PrintMore Go.Proofs.Plain

/-- Blocks behind those writes, from number i on, that p chooses. -/
def applyW (p : Int → Bool) : Nat → List S40 → List ByteArray → List ByteArray
  | _, [], b => b
  | i, x :: l, b => applyW p (i + 1) l (if p (i : Int) = true then b.set x.f0.toNat x.f1 else b)
theorem applyW_snoc (p : Int → Bool) : ∀ (l : List S40) (i : Nat) (x : S40) (b : List ByteArray), applyW p i (l ++ [x]) b = (if p ((i + l.length : Nat) : Int) = true then (applyW p i l b).set x.f0.toNat x.f1 else applyW p i l b)
  | [], i, x, b => by simp [applyW]
  | y :: l, i, x, b => by
    simp only [List.cons_append, applyW, List.length_cons]
    rw [applyW_snoc p l (i + 1) x]
    rw [show i + 1 + l.length = i + (l.length + 1) by omega]
theorem applyW_length (p : Int → Bool) : ∀ (l : List S40) (i : Nat) (b : List ByteArray), (applyW p i l b).length = b.length
  | [], i, b => rfl
  | y :: l, i, b => by
    simp only [applyW]
    rw [applyW_length p l]
    split <;> simp

/-- The function value answers p at every number that is no less than 0, and turns nothing that lies, from w on. -/
def PredI (g : Nat) (lb : Array Value) (p : Int → Bool) (w : World) : Prop :=
  (∀ args w, (callFunc g args).run Try.prog w = .ok (.enter g args) w) ∧
  ∀ (i : Nat) w1, Below w.heap.size w w1 → Calls Try.prog g (#[.int .i64 (i : Int)] ++ lb) w1 fun e w2 => e = .returned (.bool (p i)) ∧ Below w1.heap.size w1 w2

theorem check_len {l0 : List ByteArray} {l1 : List S40} (h : checkB l0 l1 = true) : 1 ≤ l0.length ∧ l0.length ≤ 200 ∧ l1.length ≤ 100 ∧ (∀ s ∈ l0, s.size ≤ 256) ∧ ∀ x ∈ l1, 0 ≤ x.f0 ∧ x.f0 < (l0.length : Int) ∧ x.f1.size ≤ 256 := by
  unfold checkB at h
  simp only [Bool.and_eq_true, decide_eq_true_eq, Bool.not_eq_true'] at h
  obtain ⟨⟨⟨⟨h1, h2⟩, h3⟩, h4⟩, h5⟩ := h
  refine ⟨h1, h2, h3, fun s hs => ?_, fun x hx => ?_⟩
  · have := List.any_eq_false.1 h4 s hs
    unfold longS at this
    simp at this
    exact this
  · have := List.any_eq_false.1 h5 x hx
    unfold oddW longS at this
    simp at this
    exact ⟨this.1.1, this.1.2, this.2⟩

set_option maxHeartbeats 8000000 in
set_option maxRecDepth 100000 in
theorem disk_done_yes (g : Nat) (lb : Array Value) (p : Int → Bool) (A0 : Option Addr) (c0 : Nat) (l0 : List ByteArray) (A1 : Option Addr) (c1 : Nat) (l1 : List S40) (w : World)
    (hr0 : Kd.C Kd.string w A0 l0.length l0) (hc0 : l0.length ≤ c0) (hr1 : Kd.C k40 w A1 l1.length l1) (hc1 : l1.length ≤ c1) (hck : checkB l0 l1 = true) (hp : PredI g lb p w) :
    Calls Try.prog 45 #[.agg #[.slice A0 l0.length c0, .slice A1 l1.length c1], .func (.func g) #[] lb] w fun e w' => ∃ v0 : Value, e = .returned (.tuple #[.agg #[v0, .slice none 0 0], .int .i64 0]) ∧ Kd.R Kd.string 9 w' w.heap.size (fun _ => True) v0 (applyW p 0 l1 l0) ∧ Below w.heap.size w w' := by
  obtain ⟨k1, k2, k3, k4, k5⟩ := check_len hck
  obtain ⟨eg, hpr⟩ := hp
  have HP := Aside0.mk hpr
  have HR0 := Aside0.mk hr0
  have HR1 := Aside0.mk hr1
  have HK5 := Aside0.mk k5
  obtain ⟨D, hD⟩ : ∃ D, D = Obj.cells #[.slice A0 l0.length c0, .slice A1 l1.length c1] 25 := ⟨_, rfl⟩
  have hB2 : Below w.heap.size w ((w.alloc D).alloc (.cells #[.slice none 0 0, .slice none 0 0] 25)) := ((Below.refl _ _).alloc (Nat.le_refl _) _).alloc (by simp) _
  have HB2 := Aside0.mk hB2
  have HC := Aside0.mk (disk_Check.calls A0 c0 l0 A1 c1 l1 true _ (Kd.C_below hr0 hB2) hc0 (Kd.C_below hr1 hB2) hc1 (by unfold disk_Check.f; rw [hck]))
  have hE := blk_new (w.alloc D) (.cells #[.slice none 0 0, .slice none 0 0] 25)
  rw [World.size_alloc] at hE
  have HE := Aside0.mk hE
  have HD := Aside0.mk (blk_alloc (blk_new w D) (.cells #[.slice none 0 0, .slice none 0 0] 25))
  subst hD
  clear hB2 hE hr0 hr1 hck hpr k4 k5
  go_enter Try.func45, Try.ntmps45
  go_wp2_with (first | (go_at_call 24; refine HC.out.mono ?_; rintro e w3 ⟨rfl, hb3⟩; have HE3 := Aside0.mk (blk_below HE.out hb3); have HD3 := Aside0.mk (blk_below HD.out hb3); have d0 := blk_cell HD3.out 0; have d1 := blk_cell HD3.out 1; have HB3 := Aside0.mk (HB2.out.trans (hb3.mono HB2.out.size)); clear hb3) | ((with_reducible refine gate_dst (N := 16) rfl ?_); refine Kd.R_make Kd.string (w0 := w) w.heap.size 9 rfl rfl 22 (.tmp 15) (.tmp 15) rfl (l0.length : Int) rfl rfl Try.underlying22 (.string ⟨#[]⟩) 16 slices_Clone_string_string_info rfl (by decide) (by omega) ⟨#[]⟩ (ok := fun _ => True) (okp := fun _ => False) rfl (fun _ h => h.elim) trivial (by omega) (by omega) HB3.out HB3.out.size ?_; intro v4 w4 ho4 hb4 hg4 _; have HO4 := Aside0.mk ho4; have HB4 := Aside0.mk hb4; have HE4 := Aside0.mk (blk_grown HE3.out hg4 (by simp)); have HD4 := Aside0.mk (blk_grown HD3.out hg4 (by simp)); clear ho4 hb4 hg4 d0 d1; have d0 := blk_cell HD4.out 0; have d1 := blk_cell HD4.out 1) | ((with_reducible refine gate_builtin (b := .copy) (xs := #[.tmp 17, .tmp 19]) rfl ?_); refine copy_strs rfl (.tmp 17) (.tmp 19) rfl v4 rfl A0 l0.length c0 rfl (List.replicate (l0.length : Int).toNat ⟨#[]⟩) l0 HO4.out (Kd.C_below HR0.out HB4.out) (by simp) (by omega) ?_; intro w5 ho5 hg5; have HO5 := Aside0.mk ho5; have HB5 := Aside0.mk (HB4.out.grown hg5 HB4.out.size (fun k e => (Kd.R_bound HO4.out).1 k e |>.2.1)); have HE5 := Aside0.mk (blk_grown HE4.out hg5 (Kd.R_ne HO4.out HE4.out (by decide))); have HD5 := Aside0.mk (blk_grown HD4.out hg5 (Kd.R_ne HO4.out HD4.out (by decide))); clear ho5 hg5 d0 d1; have d0 := blk_cell HD5.out 0; have d1 := blk_cell HD5.out 1))
  clear d0 d1 HC HE HD HE3 HD3 HB3 HE4 HD4 HO4 HB4 HD5 HB2
  obtain ⟨A, c, rfl⟩ := Kd.R_slice HO5.out
  obtain ⟨go, rfl⟩ : ∃ go, A = some ⟨go, 0, none⟩ := by
    obtain ⟨inner, ho⟩ := Kd.R_own HO5.out
    rcases ho.2 with ⟨he, h0⟩ | ⟨g', cap, cur, he, _⟩
    · omega
    · injection he with ha _ _; exact ⟨g', ha⟩
  go_loopw [24] (fun i wr => ∃ k : Nat, k ≤ l1.length ∧ i = .int .i64 k ∧ Aside0 (Kd.R Kd.string 9 wr w.heap.size (fun _ => True) (.slice (some ⟨go, 0, none⟩) l0.length c) (applyW p 0 (l1.take k) l0)) ∧ Aside0 (Below w.heap.size w wr) ∧ Aside0 (wr.heap[w.heap.size + 1]? = some (.cells #[.slice none 0 0, .slice none 0 0] 25 (0, 0))))
    (fun i _ => l1.length - (intOf i).toNat)
  case atStart => exact ⟨0, Nat.zero_le _, rfl, ⟨by simpa [applyW] using HO5.out⟩, HB5, HE5⟩
  case round =>
    clear HO5 HB5 HE5
    obtain ⟨k, hk, rfl, HO, HB, HE⟩ := hrel
    by_cases hlt : k < l1.length
    · have h5 := HK5.out l1[k] (List.getElem_mem hlt)
      obtain ⟨ad, rfl, hx0, hx1⟩ := at_T40 (Kd.C_below HR1.out HB.out) (k : Int) (by omega) (by omega)
      rw [rdWrite l1 k hlt, Int.toNat_natCast] at hx0 hx1
      have happ := applyW_snoc p (l1.take k) 0 l1[k] l0
      rw [← List.take_succ_eq_append_getElem hlt, List.length_take, Nat.min_eq_left (by omega), Nat.zero_add] at happ
      have HA := Aside0.mk happ
      have HL := Aside0.mk (applyW_length p (l1.take k) 0 l0)
      clear happ
      generalize l1[k] = x at *
      obtain ⟨at_, s⟩ := x
      simp only at h5 hx0 hx1
      obtain ⟨N, rfl⟩ : ∃ N : Nat, at_ = N := ⟨at_.toNat, by omega⟩
      have HB1 := Aside0.mk (show Below w.heap.size w (wr.alloc (.cells #[.int .i64 (N : Int), .string s] 40)) from HB.out.alloc HB.out.size _)
      have HCL := Aside0.mk (HP.out k _ HB1.out)
      have HW := Aside0.mk (blk_new wr (.cells #[.int .i64 (N : Int), .string s] 40))
      have HO1 := Aside0.mk (Kd.R_below HO.out ((Below.refl wr.heap.size wr).alloc (Nat.le_refl _) (.cells #[.int .i64 (N : Int), .string s] 40)))
      have HE1 := Aside0.mk (blk_alloc HE.out (.cells #[.int .i64 (N : Int), .string s] 40))
      have hN : N < l0.length := by omega
      clear h5
      cases hpk : p (k : Int)
      · rw [hpk] at HCL HA
        rw [if_neg (by decide)] at HA
        clear hpk
        go_wp2_with (go_at_fn g; refine HCL.out.mono ?_; rintro e w3 ⟨rfl, hb3⟩; have HO3 := Aside0.mk (Kd.R_below HO1.out hb3); have HE3 := Aside0.mk (blk_below HE1.out hb3); have HB3 := Aside0.mk (HB1.out.trans (hb3.mono HB1.out.size)); clear hb3)
        go_roundw
        case rel => exact ⟨k + 1, by omega, by go_num, ⟨by rw [HA.out]; exact HO3.out⟩, HB3, HE3⟩
        case measure => simp [intOf]; omega
      · rw [hpk] at HCL HA
        rw [if_pos rfl] at HA
        clear hpk
        go_wp2_with (go_at_fn g; refine HCL.out.mono ?_; rintro e w3 ⟨rfl, hb3⟩; have HO3 := Aside0.mk (Kd.R_below HO1.out hb3); have HE3 := Aside0.mk (blk_below HE1.out hb3); have HB3 := Aside0.mk (HB1.out.trans (hb3.mono HB1.out.size)); have hw3 := blk_below HW.out hb3; have dw0 := blk_cell hw3 0; have dw1 := blk_cell hw3 1; clear hb3 hw3; obtain ⟨hcg, hfg⟩ := Kd.R_cell (⟨#[]⟩ : ByteArray) (by rw [HL.out]; exact HO3.out) (N : Int) (by omega) (by rw [HL.out]; omega); rw [Int.toNat_natCast] at hcg hfg)
        obtain ⟨hR, hG⟩ := Kd.R_put (by rw [HL.out]; exact HO3.out) (N : Int) s
        rw [Int.toNat_natCast] at hR hG
        rw [HL.out] at hR
        have hge := (Kd.R_bound HO3.out).1 go rfl
        have hne : w.heap.size + 1 ≠ go := fun e => Kd.R_ne HO3.out HE3.out (by decide) (by rw [e]; rfl)
        refine ⟨⟨k + 1, by omega, by go_num, ⟨by rw [HA.out]; exact hR⟩, ⟨HB3.out.grown hG HB3.out.size (fun k e => by cases e; exact hge.2.1)⟩, ⟨blk_far HE3.out hne _⟩⟩, ?_⟩
        simp [intOf]; omega
    · obtain rfl : k = l1.length := by omega
      have e0 := blk_cell HE.out 0
      have e1 := blk_cell HE.out 1
      have f0 := blk_frozen HE.out 0
      have f1 := blk_frozen HE.out 1
      have hx : applyW p 0 (l1.take l1.length) l0 = applyW p 0 l1 l0 := by rw [List.take_length]
      rw [hx] at HO
      clear hx
      have HO' := Aside0.mk (Kd.R_set (Kd.R_set HO.out HE.out (by intro q hq; simp [Kd.string, Kd.scalar] at hq; subst hq; decide) 0 (.slice (some ⟨go, 0, none⟩) l0.length c)) (blk_set HE.out 0 (.slice (some ⟨go, 0, none⟩) l0.length c)) (by intro q hq; simp [Kd.string, Kd.scalar] at hq; subst hq; decide) 1 (.slice none 0 0))
      have HB' := Aside0.mk ((HB.out.setCell (p := ⟨w.heap.size + 1, 0, none⟩) (by simp) (.slice (some ⟨go, 0, none⟩) l0.length c)).setCell (p := ⟨w.heap.size + 1, 1, none⟩) (by simp) (.slice none 0 0))
      go_wp2
      have g0 := blk_cell (blk_set (blk_set HE.out 0 (.slice (some ⟨go, 0, none⟩) l0.length c)) 1 (.slice none 0 0)) 0
      have g1 := blk_cell (blk_set (blk_set HE.out 0 (.slice (some ⟨go, 0, none⟩) l0.length c)) 1 (.slice none 0 0)) 1
      refine bodyPost_ret (v := .tuple #[.agg #[.slice (some ⟨go, 0, none⟩) l0.length c, .slice none 0 0], .int .i64 0]) ?_ rfl ⟨_, rfl, HO'.out, HB'.out⟩
      simp [results, Try.results45, go_sem, g0, g1]
end Go.Proofs.Ytoibofhmlokglaa.P
/-
  disk.Sync and disk.Crash, by hand. For every disk and choice.
-/
namespace Go.Proofs.Ytoibofhmlokglaa.P
open Go.RowKit Go.Shelf Go.Proofs.YtoibofhmlokglaaW.PrintWords Go.Proofs.YtoibofhmlokglaaW.PrintLast Go.Proofs.YtoibofhmlokglaaW.PrintMore Go.Proofs.Plain

set_option maxHeartbeats 4000000 in
set_option maxRecDepth 100000 in
theorem disk_done_no (g : Nat) (lb : Array Value) (A0 : Option Addr) (c0 : Nat) (l0 : List ByteArray) (A1 : Option Addr) (c1 : Nat) (l1 : List S40) (w : World)
    (hr0 : Kd.C Kd.string w A0 l0.length l0) (hc0 : l0.length ≤ c0) (hr1 : Kd.C k40 w A1 l1.length l1) (hc1 : l1.length ≤ c1) (hck : checkB l0 l1 = false) :
    Calls Try.prog 45 #[.agg #[.slice A0 l0.length c0, .slice A1 l1.length c1], .func (.func g) #[] lb] w fun e w' => e = .returned (.tuple #[.agg #[.slice none 0 0, .slice none 0 0], .int .i64 1]) ∧ Below w.heap.size w w' := by
  obtain ⟨D, hD⟩ : ∃ D, D = Obj.cells #[.slice A0 l0.length c0, .slice A1 l1.length c1] 25 := ⟨_, rfl⟩
  have hB2 : Below w.heap.size w ((w.alloc D).alloc (.cells #[.slice none 0 0, .slice none 0 0] 25)) := ((Below.refl _ _).alloc (Nat.le_refl _) _).alloc (by simp) _
  have HB2 := Aside0.mk hB2
  have HC := Aside0.mk (disk_Check.calls A0 c0 l0 A1 c1 l1 false _ (Kd.C_below hr0 hB2) hc0 (Kd.C_below hr1 hB2) hc1 (by unfold disk_Check.f; rw [hck]))
  have hE := blk_new (w.alloc D) (.cells #[.slice none 0 0, .slice none 0 0] 25)
  rw [World.size_alloc] at hE
  have HE := Aside0.mk hE
  subst hD
  clear hB2 hE hr0 hr1 hck
  go_enter Try.func45, Try.ntmps45
  go_wp2_with (go_at_call 24; refine HC.out.mono ?_; rintro e w3 ⟨rfl, hb3⟩; have HE3 := Aside0.mk (blk_below HE.out hb3); have HB3 := Aside0.mk (HB2.out.trans (hb3.mono HB2.out.size)); have e0 := blk_cell HE3.out 0; have e1 := blk_cell HE3.out 1; have f0 := blk_frozen HE3.out 0; have f1 := blk_frozen HE3.out 1; clear hb3)
  have g0 := blk_cell (blk_set (blk_set HE3.out 0 (.slice none 0 0)) 1 (.slice none 0 0)) 0
  have g1 := blk_cell (blk_set (blk_set HE3.out 0 (.slice none 0 0)) 1 (.slice none 0 0)) 1
  refine bodyPost_ret (v := .tuple #[.agg #[.slice none 0 0, .slice none 0 0], .int .i64 1]) ?_ rfl ⟨rfl, (HB3.out.setCell (p := ⟨w.heap.size + 1, 0, none⟩) (by simp) _).setCell (p := ⟨w.heap.size + 1, 1, none⟩) (by simp) _⟩
  simp [results, Try.results45, go_sem, g0, g1]

/-- What disk.Sync and disk.Crash answer, the chosen writes being those of p. -/
def doneV (p : Int → Bool) (l0 : List ByteArray) (l1 : List S40) : List ByteArray × List S40 × Int :=
  if checkB l0 l1 = true then (applyW p 0 l1 l0, [], 0) else ([], [], 1)

theorem disk_done_any (g : Nat) (lb : Array Value) (p : Int → Bool) (A0 : Option Addr) (c0 : Nat) (l0 : List ByteArray) (A1 : Option Addr) (c1 : Nat) (l1 : List S40) (w : World)
    (hr0 : Kd.C Kd.string w A0 l0.length l0) (hc0 : l0.length ≤ c0) (hr1 : Kd.C k40 w A1 l1.length l1) (hc1 : l1.length ≤ c1) (hp : PredI g lb p w) :
    Calls Try.prog 45 #[.agg #[.slice A0 l0.length c0, .slice A1 l1.length c1], .func (.func g) #[] lb] w fun e w' => ∃ v0 : Value, e = .returned (.tuple #[.agg #[v0, .slice none 0 0], .int .i64 (doneV p l0 l1).2.2]) ∧ Kd.R Kd.string 9 w' w.heap.size (fun _ => True) v0 (doneV p l0 l1).1 ∧ Below w.heap.size w w' := by
  cases hck : checkB l0 l1
  · refine (disk_done_no g lb A0 c0 l0 A1 c1 l1 w hr0 hc0 hr1 hc1 hck).mono ?_
    rintro e w' ⟨rfl, hb⟩
    have : doneV p l0 l1 = ([], [], 1) := by unfold doneV; rw [hck, if_neg (by decide)]
    rw [this]
    exact ⟨_, rfl, Kd.R_nil _ _ _ _ _, hb⟩
  · refine (disk_done_yes g lb p A0 c0 l0 A1 c1 l1 w hr0 hc0 hr1 hc1 hck hp).mono ?_
    rintro e w' ⟨v0, rfl, hR, hb⟩
    have : doneV p l0 l1 = (applyW p 0 l1 l0, [], 0) := by unfold doneV; rw [hck, if_pos rfl]
    rw [this]
    exact ⟨_, rfl, hR, hb⟩

set_option maxHeartbeats 1000000 in
theorem disk_Sync1_calls (i : Int) (w : World) : Calls Try.prog 46 #[.int .i64 i] w fun e w' => e = .returned (.bool true) ∧ w' = w := by
  go_enter Try.func46, Try.ntmps46
  go_wp2
  go_ret
  exact ⟨rfl, rfl⟩
theorem sync_pred (w : World) : PredI 46 #[] (fun _ => true) w :=
  ⟨enters_of Try.func46 (by kernel_rfl) rfl, fun i w1 _ => (disk_Sync1_calls i w1).mono (by rintro e w2 ⟨rfl, rfl⟩; exact ⟨rfl, Below.refl _ _⟩)⟩

/-- What disk.Sync answers. -/
def disk_Sync.f (l0_0 : List ByteArray) (l0_1 : List S40) : Option (List ByteArray × List S40 × Int) := some (doneV (fun _ => true) l0_0 l0_1)

theorem doneV_wait (p : Int → Bool) (l0 : List ByteArray) (l1 : List S40) : (doneV p l0 l1).2.1 = [] := by unfold doneV; split <;> rfl

set_option maxHeartbeats 4000000 in
set_option maxRecDepth 100000 in
theorem disk_Sync.calls (A0_0 : Option Addr) (c0_0 : Nat) (l0_0 : List ByteArray) (A0_1 : Option Addr) (c0_1 : Nat) (l0_1 : List S40) (r1 : List ByteArray) (r2 : List S40) (r3 : Int) (w : World) (hr0_0 : Kd.C Kd.string w A0_0 l0_0.length l0_0) (hc0_0 : l0_0.length ≤ c0_0) (hr0_1 : Kd.C k40 w A0_1 l0_1.length l0_1) (hc0_1 : l0_1.length ≤ c0_1) (h : disk_Sync.f l0_0 l0_1 = some (r1, r2, r3)) :
    Calls Try.prog 17 #[.agg #[.slice A0_0 l0_0.length c0_0, .slice A0_1 l0_1.length c0_1]] w fun e w' => ∃ v0_ v1_ : Value, e = .returned (.tuple #[.agg #[v0_, v1_], .int .i64 r3]) ∧ Kd.R Kd.string 9 w' w.heap.size (fun _ => True) v0_ r1 ∧ Kd.R k40 40 w' w.heap.size (fun _ => True) v1_ r2 ∧ Below w.heap.size w w' := by
  have hv : doneV (fun _ => true) l0_0 l0_1 = (r1, r2, r3) := by simpa [disk_Sync.f] using h
  have hw := doneV_wait (fun _ => true) l0_0 l0_1
  rw [hv] at hw
  simp only at hw
  subst hw
  obtain ⟨D, hD⟩ : ∃ D, D = Obj.cells #[.slice A0_0 l0_0.length c0_0, .slice A0_1 l0_1.length c0_1] 25 := ⟨_, rfl⟩
  have hB2 : Below w.heap.size w ((w.alloc D).alloc (.cells #[.slice none 0 0, .slice none 0 0] 25)) := ((Below.refl _ _).alloc (Nat.le_refl _) _).alloc (by simp) _
  have HB2 := Aside0.mk hB2
  have hC := disk_done_any 46 #[] (fun _ => true) A0_0 c0_0 l0_0 A0_1 c0_1 l0_1 _ (Kd.C_below hr0_0 hB2) hc0_0 (Kd.C_below hr0_1 hB2) hc0_1 (sync_pred _)
  rw [hv] at hC
  have HC := Aside0.mk hC
  have hE := blk_new (w.alloc D) (.cells #[.slice none 0 0, .slice none 0 0] 25)
  rw [World.size_alloc] at hE
  have HE := Aside0.mk hE
  subst hD
  clear hB2 hE hr0_0 hr0_1 hC hv h
  go_enter Try.func17, Try.ntmps17
  go_wp2_with (go_at_call 45; refine HC.out.mono ?_; rintro e w3 ⟨v0, rfl, hR3, hb3⟩; have HR3 := Aside0.mk (Kd.R_lower hR3 HB2.out.size); have HE3 := Aside0.mk (blk_below HE.out hb3); have HB3 := Aside0.mk (HB2.out.trans (hb3.mono HB2.out.size)); have e0 := blk_cell HE3.out 0; have e1 := blk_cell HE3.out 1; have f0 := blk_frozen HE3.out 0; have f1 := blk_frozen HE3.out 1; obtain ⟨A, c, rfl⟩ := Kd.R_slice hR3; clear hb3 hR3)
  have g0 := blk_cell (blk_set (blk_set HE3.out 0 (.slice A r1.length c)) 1 (.slice none 0 0)) 0
  have g1 := blk_cell (blk_set (blk_set HE3.out 0 (.slice A r1.length c)) 1 (.slice none 0 0)) 1
  refine bodyPost_ret (v := .tuple #[.agg #[.slice A r1.length c, .slice none 0 0], .int .i64 r3]) ?_ rfl ⟨_, _, rfl, Kd.R_set (Kd.R_set HR3.out HE3.out (by intro q hq; simp [Kd.string, Kd.scalar] at hq; subst hq; decide) 0 _) (blk_set HE3.out 0 _) (by intro q hq; simp [Kd.string, Kd.scalar] at hq; subst hq; decide) 1 _, Kd.R_nil _ _ _ _ _, (HB3.out.setCell (p := ⟨w.heap.size + 1, 0, none⟩) (by simp) _).setCell (p := ⟨w.heap.size + 1, 1, none⟩) (by simp) _⟩
  simp [results, Try.results17, go_sem, g0, g1]
end Go.Proofs.Ytoibofhmlokglaa.P
/-
  slices.Clone over writes, by hand: the same elements in a row of its own. For every row of no more than 1000000000 elements.
-/
namespace Go.Proofs.Ytoibofhmlokglaa.P
open Go.RowKit Go.Proofs.YtoibofhmlokglaaW.PrintWords Go.Proofs.YtoibofhmlokglaaW.PrintLast Go.Proofs.YtoibofhmlokglaaW.PrintMore Go.Proofs.Plain

/-- What slices.Clone answers. -/
def slices_Clone_WN.f (l0 : List S40) : Option (List S40) := if l0.length ≤ 1000000000 then some l0 else none
theorem slices_Clone_WN_info : (Try.prog.info? 40).map (fun i => (i.zero, i.size, i.bytes)) = some (some (.agg #[(.int .i64 0), (.string ⟨#[]⟩)]), 2, 24) := by kernel_rfl

set_option maxHeartbeats 2000000 in
theorem slices_Clone_WN.calls (A0 : Option Addr) (c0 : Nat) (l0 : List S40) (r : List S40) (w : World) (hr0 : Kd.C k40 w A0 l0.length l0) (hc0 : l0.length ≤ c0) (h : slices_Clone_WN.f l0 = some r) :
    Calls Try.prog 43 #[.slice A0 l0.length c0] w fun e w' => ∃ v0_ : Value, e = .returned (v0_) ∧ Kd.R k40 40 w' w.heap.size (fun _ => True) v0_ r ∧ Below w.heap.size w w' := by
  unfold slices_Clone_WN.f at h
  split at h
  · rename_i hlen
    obtain rfl := Option.some.inj h
    have HR := Aside0.mk hr0
    have HL := Aside0.mk hlen
    have heq := fun (W : World) => Lib.run_eql_slice_nil (P := Try.prog) W 23 40 A0 l0.length c0 0 0 Try.underlying23
    clear h hlen
    cases A0 with
    | none =>
      have h0 : l0 = [] := by
        cases l0 with
        | nil => rfl
        | cons x l => obtain ⟨_, e, _⟩ := hr0.2.2 (by simp); cases e
      have HN := Aside0.mk h0
      clear hr0 h0
      go_enter Try.func43, Try.ntmps43
      go_wp2
      go_ret
      exact ⟨_, rfl, by rw [HN.out]; exact Kd.R_nil _ _ _ _ _, Below.refl _ _⟩
    | some ad =>
      clear hr0
      have HR0 := Aside0.mk (show Kd.R k40 40 (w.alloc (.cells #[] 40)) w.heap.size (fun _ => True) (.slice (some ⟨w.heap.size, 0, none⟩) 0 0) [] from ⟨fun _ _ => trivial, [], World.ownsRow_lit w #[] 0 (Nat.le_refl _) (by simp [maxLen]) rfl, Reps.none _ _⟩)
      have HB := Aside0.mk (show Below w.heap.size w (w.alloc (.cells #[] 40)) from (Below.refl _ _).alloc (Nat.le_refl _) _)
      go_enter Try.func43, Try.ntmps43
      go_wp2_with (at_builtin; refine Kd.R_append_rows k40 (w0 := w) w.heap.size rfl (.tmp 5) (.tmp 6) 23 40 (.agg #[(.int .i64 0), (.string ⟨#[]⟩)]) 24 rfl Try.underlying23 slices_Clone_WN_info rfl (by decide) (by omega) (.slice (some ⟨w.heap.size, 0, none⟩) 0 0) ([] : List S40) l0 _ _ _ (fun _ => True) (fun _ => False) rfl rfl HR0.out (Kd.C_below HR.out HB.out) (fun _ _ h => h) (fun _ h => h.elim) (fun _ _ => trivial) HB.out HB.out.size (by have := HL.out; simp; omega) ?_; intro v1 w1 ho hb _ _; have HO := Aside0.mk ho; have HB1 := Aside0.mk hb; clear ho hb)
      go_ret
      exact ⟨_, rfl, HO.out, HB1.out⟩
  · cases h
end Go.Proofs.Ytoibofhmlokglaa.P
