/-
  Texts that the claims of this chapter share, joined.
-/
import Derived.Lib.Strings
import Derived.Lib.Slices
import Derived.Lib.Walk
import Derived.Lib.Builder
import Derived.Lib.AppendStr
import Derived.Lib.UnsafeStr
import Derived.WalkKit
import Derived.Laws.Externs
import Derived.Laws.IdiomCopy
import Derived.Shelf.Strings.BuilderX
import Derived.Test.YtfdpebipnapelaaShelf
import Derived.Test.YtfdpebipnapelaaProg
import Derived.OwnWalk
import Derived.Test.YtfdpebipnapelaaWMore
import Derived.Laws.BytesArg
import Derived.RangeFuncNested
import Derived.RangeFuncBound
import Derived.RangeFuncCalls
import Derived.RangeFuncLeaves
import Derived.RangeFuncBox
import Derived.Shelf.Abstract
import Derived.Shelf.RegionOpen
import Derived.OwnWalkIn
import Derived.TacticsInMore
import Derived.LoopNIn
import Derived.LoopIn
import Derived.Maps.AppendAt
import Derived.Outline
import Derived.Laws.OwnMore
import Derived.Test.YtfdpebipnapelaaPx0
import Derived.LoopTactic
import Derived.IntWalk
import Derived.Deep.QuietTactic
import Derived.BigQuiet
import Derived.Laws.BitsLemmas
import Derived.Laws.Slices
import Derived.WalkLawsBesides
import Derived.Defers
import Derived.Recover
import Derived.StillTactics
import Derived.Deep.RegionWith
/-
  strings.Builder's copyCheck and WriteString, by hand, at a builder that the call has made itself.
-/
namespace Go.Proofs.Ytfdpebipnapelaa.P
open Go.RowKit Go.Shelf Go.Proofs

theorem bld_size : (Try.prog.info? 61).map (fun i => i.size) = some 2 := by kernel_rfl
theorem bld_lies : liesAt Try.prog Try.prog.depth 61 (2 / Try.prog.cellsOf 61) 0 61 1 = true := by kernel_rfl
theorem bld_byte : (Try.prog.info? 5).map (fun i => (i.zero, i.size, i.bytes)) = some (some (.int .u8 0), 1, 1) := by kernel_rfl

set_option maxHeartbeats 1000000 in
set_option maxRecDepth 100000 in
theorem Builder_copyCheck_used (b : Nat) (w : World) (h0 : w.cell? ⟨b, 0, none⟩ = some (.pointer (some ⟨b, 0, none⟩))) :
    Calls Try.prog 64 #[.pointer (some ⟨b, 0, none⟩)] w fun e w' => e = .returned (.tuple #[]) ∧ w' = w := by
  obtain ⟨j, hj, _⟩ := Option.map_eq_some_iff.1 bld_size
  go_enter Try.func64, Try.ntmps64
  go_wp2
  rw [Lib.run_neq_ptr_same w _ Try.underlying58 hj]
  go_wp2
  go_end0
  exact ⟨rfl, rfl⟩

set_option maxHeartbeats 1000000 in
set_option maxRecDepth 100000 in
theorem Builder_copyCheck_fresh (b : Nat) (w : World) (h0 : w.cell? ⟨b, 0, none⟩ = some (.pointer none)) (hsh : w.shape? b = some (61, 2)) (hfz : w.frozen? ⟨b, 0, none⟩ = false) :
    Calls Try.prog 64 #[.pointer (some ⟨b, 0, none⟩)] w fun e w' => e = .returned (.tuple #[]) ∧ w' = w.setCell ⟨b, 0, none⟩ (.pointer (some ⟨b, 0, none⟩)) := by
  obtain ⟨j, hj, hjs⟩ := Option.map_eq_some_iff.1 bld_size
  go_enter Try.func64, Try.ntmps64
  go_wp2
  rw [Lib.run_to_unsafe w ⟨b, 0, none⟩ Try.underlying58 Try.underlying107 hj (by rw [hjs]; decide) hsh (Nat.zero_lt_succ 1)]
  simp only [Result.andThen]
  rw [Oper.upon_value]
  go_wp2
  rw [run_callFunc_extern Try.func73 (by kernel_rfl) (by kernel_rfl) (by kernel_rfl) (e := Extern.AbiNoEscape.same) (by kernel_rfl)]
  rw [Lib.run_noEscape]
  simp only [Result.andThen]
  rw [Oper.upon_value]
  go_wp2
  rw [Lib.run_from_unsafe w ⟨b, 0, none⟩ Try.underlying107 Try.underlying58 hj hsh bld_lies]
  simp only [Result.andThen]
  rw [Oper.upon_value]
  go_wp2
  go_end0
  exact ⟨rfl, rfl⟩

theorem Builder_copyCheck (B b : Nat) (bs : List Value) (w : World) (h : Lib.IsBuilder 61 5 B b bs w) :
    Calls Try.prog 64 #[.pointer (some ⟨b, 0, none⟩)] w fun e w' => e = .returned (.tuple #[]) ∧ (Lib.BuilderAt 61 5 B b (.pointer (some ⟨b, 0, none⟩)) bs w' ∧ Below B w w') := by
  rcases h with h | h
  · refine (Builder_copyCheck_fresh b w h.cell0 h.shape h.frozen0).mono ?_
    rintro e w' ⟨rfl, rfl⟩
    exact ⟨rfl, h.used _, (Below.refl B w).setCell (p := ⟨b, 0, none⟩) h.1 _⟩
  · refine (Builder_copyCheck_used b w h.cell0).mono ?_
    rintro e w' ⟨rfl, rfl⟩
    exact ⟨rfl, h, Below.refl B _⟩

set_option maxHeartbeats 2000000 in
set_option maxRecDepth 100000 in
theorem Builder_WriteString (B b : Nat) (bs : List Value) (s : ByteArray) (w : World) (h : Lib.IsBuilder 61 5 B b bs w) (hlen : bs.length + s.size ≤ 140737488355328) (hBw : B ≤ w.heap.size) :
    Calls Try.prog 44 #[.pointer (some ⟨b, 0, none⟩), .string s] w fun e w' => e = .returned (.tuple #[.int .i64 s.size, .nilIface]) ∧ (Lib.BuilderAt 61 5 B b (.pointer (some ⟨b, 0, none⟩)) (bs ++ Lib.strCells s) w' ∧ Below B w w') := by
  obtain ⟨i0, hi, hz0, hz1, hz2⟩ := info_parts bld_byte
  go_enter Try.func44, Try.ntmps44
  go_wp2_with (go_at_call 64; refine (Builder_copyCheck B b bs _ h).mono ?_)
  rintro e w1 ⟨rfl, h1, hb1⟩
  obtain ⟨hB, v, hbk, hown, hne⟩ := h1
  have c0 : w1.cell? ⟨b, 0, none⟩ = some (.pointer (some ⟨b, 0, none⟩)) := by rw [Lib.cell_of_heap hbk]; rfl
  have c1 : w1.cell? ⟨b, 1, none⟩ = some v := by rw [Lib.cell_of_heap hbk]; rfl
  go_wp2_with (at_builtin; refine Lib.wpList_append_own_string _ rfl _ _ 59 9 rfl B 5 i0 Try.underlying59 Try.underlying9 hi hz0 hz1 hz2 _ _ _ rfl hown s rfl ?c3 ?c4 ?c5 ?_)
  case c3 => unfold maxLen; omega
  case c4 => omega
  case c5 => have := hb1.size; omega
  intro v' w2 hown' hgrow _
  have hlt : b < w1.heap.size := by
    rcases Nat.lt_or_ge b w1.heap.size with h' | h'
    · exact h'
    · simp [Array.getElem?_eq_none h'] at hbk
  have hb2 : w2.heap[b]? = some (.cells #[.pointer (some ⟨b, 0, none⟩), v] 61 (0, 0)) := by
    rw [hgrow.block b hlt (fun e => hne e.symm)]
    exact hbk
  have d0 : w2.cell? ⟨b, 0, none⟩ = some (.pointer (some ⟨b, 0, none⟩)) := by rw [Lib.cell_of_heap hb2]; rfl
  have d1 : w2.cell? ⟨b, 1, none⟩ = some v := by rw [Lib.cell_of_heap hb2]; rfl
  have f1 : w2.frozen? ⟨b, 1, none⟩ = false := Lib.frozen_of_heap hb2 1
  obtain ⟨ao, n', cap, rfl⟩ : ∃ ao n' cap, v' = .slice ao n' cap := by
    rcases hown'.2 with ⟨hv, _⟩ | ⟨g, cap, cur, hv, _⟩
    · exact ⟨_, _, _, hv⟩
    · exact ⟨_, _, _, hv⟩
  go_wp2
  go_ret2
  refine ⟨rfl, ?_, ?_⟩
  · exact Lib.BuilderAt.put (T := 61) (e := 5) hB hb2 (bs' := bs ++ Lib.strCells s) (by simpa [Lib.strCells_length] using hown') (by decide)
  · exact (hb1.grown hgrow (by have := hb1.size; omega) (fun k hk => (hown.lt k hk).1)).setCell (p := ⟨b, 1, none⟩) hB _
end Go.Proofs.Ytfdpebipnapelaa.P
/-
  strings.Builder's WriteString, by hand, with what stays: a block of another kind is as it was.
-/
namespace Go.Proofs.Ytfdpebipnapelaa.P
open Go.RowKit Go.Shelf Go.Proofs Go.Proofs.YtfdpebipnapelaaW.PrintWords Go.Proofs.YtfdpebipnapelaaW.PrintLast

theorem bldF_below {T e : TypeId} {B b : Nat} {p : Value} {bs : List Value} {w w' : World} (h : Lib.BuilderAt T e B b p bs w) (hb : Below w.heap.size w w') : Lib.BuilderAt T e B b p bs w' := by
  obtain ⟨hB, v, hbk, hown, hne⟩ := h
  have hlt : b < w.heap.size := (Array.getElem?_eq_some_iff.1 hbk).1
  exact ⟨hB, v, (hb.block b hlt).trans hbk, own_move hown (fun k hk => hb.block k (own_lt hown k hk)), hne⟩
theorem isBldF_below {T e : TypeId} {B b : Nat} {bs : List Value} {w w' : World} (h : Lib.IsBuilder T e B b bs w) (hb : Below w.heap.size w w') : Lib.IsBuilder T e B b bs w' :=
  h.elim (fun h => .inl (bldF_below h hb)) (fun h => .inr (bldF_below h hb))
theorem cellsF_snoc (L : List UInt8) (s : ByteArray) : Lib.byteCells L ++ Lib.strCells s = Lib.byteCells (L ++ s.data.toList) := by simp [Lib.byteCells, Lib.strCells]
/-- Blocks that are neither a builder nor bytes are as they were. -/
def FarB (w w' : World) : Prop := ∀ (k : Nat) (cells : Array Value) (t : TypeId), w.heap[k]? = some (.cells cells t (0, 0)) → t ≠ 61 → t ≠ 5 → w'.heap[k]? = some (.cells cells t (0, 0))
theorem FarB.R {α : Type} {d : Kd α} {e : Nat} {w w' : World} {base : Nat} {ok : Nat → Prop} {v : Value} {xs : List α} (hf : FarB w w') (h : d.R e w base ok v xs) (hE : ∀ q, q ∈ e :: d.E → q ≠ 61 ∧ q ≠ 5) : d.R e w' base ok v xs :=
  Kd.R_mono (Kd.R_step (Kd.R_bound h) (fun k hk _ => by
    obtain ⟨_, _, _, q, hq, cells, hc⟩ := hk
    rw [hf k cells q hc (hE q hq).1 (hE q hq).2, hc])) (fun _ hk => hk.1)
theorem copyCheck_far (B b : Nat) (bs : List Value) (w : World) (h : Lib.IsBuilder 61 5 B b bs w) :
    Calls Try.prog 64 #[.pointer (some ⟨b, 0, none⟩)] w fun e w' => e = .returned (.tuple #[]) ∧ (Lib.BuilderAt 61 5 B b (.pointer (some ⟨b, 0, none⟩)) bs w' ∧ Below B w w' ∧ FarB w w') := by
  rcases h with h | h
  · refine (Builder_copyCheck_fresh b w h.cell0 h.shape h.frozen0).mono ?_
    rintro e w' ⟨rfl, rfl⟩
    refine ⟨rfl, h.used _, (Below.refl B w).setCell (p := ⟨b, 0, none⟩) h.1 _, fun k cells t hk h1 _ => ?_⟩
    rw [Below.heap_setCell w ⟨b, 0, none⟩ _ k (by
      rintro rfl
      obtain ⟨_, v, hb, _⟩ := h
      rw [hk] at hb
      injection hb with hb
      injection hb with _ hb
      exact h1 hb)]
    exact hk
  · refine (Builder_copyCheck_used b w h.cell0).mono ?_
    rintro e w' ⟨rfl, rfl⟩
    exact ⟨rfl, h, Below.refl B _, fun _ _ _ hk _ _ => hk⟩

set_option maxHeartbeats 2000000 in
set_option maxRecDepth 100000 in
theorem WriteString_far (B b : Nat) (bs : List Value) (s : ByteArray) (w : World) (h : Lib.IsBuilder 61 5 B b bs w) (hlen : bs.length + s.size ≤ 140737488355328) (hBw : B ≤ w.heap.size) :
    Calls Try.prog 44 #[.pointer (some ⟨b, 0, none⟩), .string s] w fun e w' => e = .returned (.tuple #[.int .i64 s.size, .nilIface]) ∧ (Lib.BuilderAt 61 5 B b (.pointer (some ⟨b, 0, none⟩)) (bs ++ Lib.strCells s) w' ∧ Below B w w' ∧ FarB w w') := by
  obtain ⟨i0, hi, hz0, hz1, hz2⟩ := info_parts bld_byte
  go_enter Try.func44, Try.ntmps44
  go_wp2_with (go_at_call 64; refine (copyCheck_far B b bs _ h).mono ?_)
  rintro e w1 ⟨rfl, h1, hb1, hf1⟩
  have HF1 := Aside0.mk hf1
  clear hf1
  obtain ⟨hB, v, hbk, hown, hne⟩ := h1
  have c0 : w1.cell? ⟨b, 0, none⟩ = some (.pointer (some ⟨b, 0, none⟩)) := by rw [Lib.cell_of_heap hbk]; rfl
  have c1 : w1.cell? ⟨b, 1, none⟩ = some v := by rw [Lib.cell_of_heap hbk]; rfl
  go_wp2_with (at_builtin; refine Lib.wpList_append_own_string _ rfl _ _ 59 9 rfl B 5 i0 Try.underlying59 Try.underlying9 hi hz0 hz1 hz2 _ _ _ rfl hown s rfl ?c3 ?c4 ?c5 ?_)
  case c3 => unfold maxLen; omega
  case c4 => omega
  case c5 => have := hb1.size; omega
  intro v' w2 hown' hgrow _
  have hlt : b < w1.heap.size := by
    rcases Nat.lt_or_ge b w1.heap.size with h' | h'
    · exact h'
    · simp [Array.getElem?_eq_none h'] at hbk
  have hb2 : w2.heap[b]? = some (.cells #[.pointer (some ⟨b, 0, none⟩), v] 61 (0, 0)) := by
    rw [hgrow.block b hlt (fun e => hne e.symm)]
    exact hbk
  have d0 : w2.cell? ⟨b, 0, none⟩ = some (.pointer (some ⟨b, 0, none⟩)) := by rw [Lib.cell_of_heap hb2]; rfl
  have d1 : w2.cell? ⟨b, 1, none⟩ = some v := by rw [Lib.cell_of_heap hb2]; rfl
  have f1 : w2.frozen? ⟨b, 1, none⟩ = false := Lib.frozen_of_heap hb2 1
  obtain ⟨ao, n', cap, rfl⟩ : ∃ ao n' cap, v' = .slice ao n' cap := by
    rcases hown'.2 with ⟨hv, _⟩ | ⟨g, cap, cur, hv, _⟩
    · exact ⟨_, _, _, hv⟩
    · exact ⟨_, _, _, hv⟩
  have HF := Aside0.mk (show FarB w (w2.setCell ⟨b, 1, none⟩ (.slice ao n' cap)) by
    intro k cells t hk h1 h2
    have hk1 := HF1.out k cells t hk h1 h2
    have hkb : k ≠ b := by
      rintro rfl
      rw [hk1] at hbk
      injection hbk with hbk
      injection hbk with _ hbk
      exact h1 hbk
    rw [Below.heap_setCell w2 ⟨b, 1, none⟩ _ k hkb, hgrow.block k (blk_lt hk1) (fun e => by
      obtain ⟨cells', hc⟩ := own_typed hown k e.symm
      rw [hk1] at hc
      injection hc with hc
      injection hc with _ hc
      exact h2 hc)]
    exact hk1)
  go_wp2
  go_ret2
  refine ⟨rfl, ?_, ?_, HF.out⟩
  · exact Lib.BuilderAt.put (T := 61) (e := 5) hB hb2 (bs' := bs ++ Lib.strCells s) (by simpa [Lib.strCells_length] using hown') (by decide)
  · exact (hb1.grown hgrow (by have := hb1.size; omega) (fun k hk => (hown.lt k hk).1)).setCell (p := ⟨b, 1, none⟩) hB _

/-- 'b.WriteString(s)'. -/
theorem bld_write_far (B b : Nat) (L : List UInt8) (s : ByteArray) (w : World) (h : Lib.IsBuilder 61 5 B b (Lib.byteCells L) w) (hlen : L.length + s.size ≤ 140737488355328) (hBw : B ≤ w.heap.size) :
    Calls Try.prog 44 #[.pointer (some ⟨b, 0, none⟩), .string s] w fun e w' => e = .returned (.tuple #[.int .i64 s.size, .nilIface]) ∧ Aside0 (Lib.IsBuilder 61 5 B b (Lib.byteCells (L ++ s.data.toList)) w') ∧ Aside0 (Below B w w') ∧ Aside0 (FarB w w') := by
  refine (WriteString_far B b (Lib.byteCells L) s w h (by simpa [Lib.byteCells] using hlen) hBw).mono ?_
  rintro e w' ⟨rfl, h1, h2, h3⟩
  exact ⟨rfl, ⟨.inr (by rw [← cellsF_snoc]; exact h1)⟩, ⟨h2⟩, ⟨h3⟩⟩
end Go.Proofs.Ytfdpebipnapelaa.P
/-
  Plain laws on a number's bytes, highest first, without the leading zeros: no program in sight.
-/
namespace Go.Proofs.CodecPlain

/-- A fact that the walk is not to see. -/
structure As (p : Prop) : Prop where mk :: (out : p)

/-- The byte of n at place k. -/
def nbyte (n : Int) (k : Nat) : Int := n / 256 ^ k % 256
/-- Without the zeros at its head. -/
def lead : List Int → List Int
  | [] => []
  | b :: l => if b = 0 then lead l else b :: l
/-- The first j of the four bytes, the highest first. -/
def tops (n : Int) : Nat → List Int
  | 0 => []
  | j + 1 => tops n j ++ [nbyte n (3 - j)]
/-- A number's bytes. -/
def nbytes (n : Int) : List Int := lead (tops n 4)

/-- A number's text: how many bytes, and the bytes. -/
def numStr (n : Int) : ByteArray := Go.strOfNums (((nbytes n).length : Int) :: nbytes n)

theorem lead_snoc_nil {l : List Int} (h : lead l = []) (b : Int) : lead (l ++ [b]) = if b = 0 then [] else [b] := by
  induction l with
  | nil => by_cases e : b = 0 <;> simp [lead, e]
  | cons c l ih =>
    unfold lead at h
    split at h
    · rename_i e; subst e; simp [lead, ih h]
    · cases h
theorem lead_snoc {l : List Int} (h : lead l ≠ []) (b : Int) : lead (l ++ [b]) = lead l ++ [b] := by
  induction l with
  | nil => exact absurd rfl h
  | cons c l ih =>
    by_cases e : c = 0
    · subst e
      have : lead l ≠ [] := by intro e'; exact h (by simp [lead, e'])
      simp [lead, ih this]
    · simp [lead, e]
theorem tops_length (n : Int) (j : Nat) : (tops n j).length = j := by
  induction j with
  | zero => rfl
  | succ j ih => simp [tops, ih]
theorem lead_length (l : List Int) : (lead l).length ≤ l.length := by
  induction l with
  | nil => simp [lead]
  | cons c l ih => unfold lead; split <;> simp <;> omega
theorem nbytes_length (n : Int) : (nbytes n).length ≤ 4 := by
  have := lead_length (tops n 4); rw [tops_length] at this; exact this
theorem nbyte_lt (n : Int) (k : Nat) : 0 ≤ nbyte n k ∧ nbyte n k < 256 := by unfold nbyte; omega
theorem numStr_size (n : Int) : 1 ≤ (numStr n).size ∧ (numStr n).size ≤ 5 := by
  have := nbytes_length n
  have h : (numStr n).size = (nbytes n).length + 1 := by simp [numStr, Go.strOfNums, ByteArray.size]
  omega
/-- A text's text. -/
def textStr (s : ByteArray) : ByteArray := numStr (s.size : Int) ++ s
/-- Texts one behind the other. -/
def catStr : List ByteArray → ByteArray
  | [] => ⟨#[]⟩
  | s :: l => s ++ catStr l
/-- A row's text. -/
def rowStr (l : List ByteArray) : ByteArray := numStr (l.length : Int) ++ catStr (l.map textStr)
theorem size_append (a b : ByteArray) : (a ++ b).size = a.size + b.size := ByteArray.size_append
theorem textStr_size (s : ByteArray) : (textStr s).size ≤ s.size + 5 := by
  have := numStr_size (s.size : Int); unfold textStr; rw [size_append]; omega
theorem catStr_append (a b : List ByteArray) : catStr (a ++ b) = catStr a ++ catStr b := by
  induction a with
  | nil => simp [catStr]; rfl
  | cons x a ih => simp [catStr, ih, ByteArray.append_assoc]
theorem catStr_size (l : List ByteArray) (h : ∀ s ∈ l, s.size ≤ 4000) : (catStr (l.map textStr)).size ≤ l.length * 4005 := by
  induction l with
  | nil => simp [catStr, ByteArray.size]
  | cons x l ih =>
    have h1 := ih (fun s hs => h s (List.mem_cons_of_mem _ hs))
    have h2 := textStr_size x
    have h3 := h x List.mem_cons_self
    simp only [List.map_cons, catStr, size_append, List.length_cons]
    omega
theorem row_next (l : List ByteArray) (k : Nat) (h : k < l.length) :
    (numStr l.length ++ catStr ((l.take k).map textStr)).data.toList ++ (textStr l[k]).data.toList = (numStr l.length ++ catStr ((l.take (k + 1)).map textStr)).data.toList := by
  rw [List.take_succ_eq_append_getElem h, List.map_append, catStr_append]
  simp [catStr]

end Go.Proofs.CodecPlain
/-
  codec.bytes, by hand: what the iterator gives to whatever loop. For every number that has bytes.
-/
namespace Go.Proofs.Ytfdpebipnapelaa.P
open Go.RowKit Go.Shelf Go.Proofs.CodecPlain

attribute [local go_sem] Oper.semAt_some

set_option maxHeartbeats 1000000 in
/-- 'bytes(n)': n lies in a block of its own; the function value captures it. -/
theorem codec_bytes_in (F : Fence) (m : Nat) (h : F.fn 63) (hro : F.round = none) (n : Int) (w : World) :
    CallsIn F m Try.prog 63 #[.int .i64 n] w fun e w' => e = .returned (.func (.func 72) #[] #[.pointer (some ⟨w.heap.size, 0, none⟩)]) ∧ w' = w.alloc (.cells #[.int .i64 n] 3) := by
  refine callsIn_of_wp Try.func63 rfl h ?_ hro
  simp only [Try.ntmps63, List.size_toArray, List.length_cons, List.length_nil, Nat.reduceAdd, Nat.reduceSub, Array.replicate_succ, Array.replicate_zero, List.push_toArray, List.append_toArray, List.nil_append, List.cons_append]
  gi_wp2
  go_ret
  exact ⟨rfl, rfl⟩

theorem step_zero (n : Int) (j : Nat) (e : Int) (h : As (nbyte n (3 - j) = e)) (hb : As (false = !(lead (tops n j)).isEmpty)) (hz : e = 0) :
    As (false = !(lead (tops n (j + 1))).isEmpty ∧ lead (tops n j) = lead (tops n (j + 1))) := by
  have h0 : lead (tops n j) = [] := by have := hb.out; simpa using this.symm
  have := lead_snoc_nil h0 (nbyte n (3 - j))
  rw [h.out, if_pos hz] at this
  constructor
  simp [tops, h.out, this, h0]
theorem step_on (n : Int) (j : Nat) (e : Int) (h : As (nbyte n (3 - j) = e)) (hb : As (true = !(lead (tops n j)).isEmpty) ∨ ¬ e = 0) :
    As (true = !(lead (tops n (j + 1))).isEmpty ∧ lead (tops n j) ++ [e] = lead (tops n (j + 1))) := by
  have hk : lead (tops n (j + 1)) = lead (tops n j) ++ [e] := by
    by_cases h0 : lead (tops n j) = []
    · have := lead_snoc_nil h0 (nbyte n (3 - j))
      rw [h.out, if_neg (hb.elim (fun z => by have := z.out; simp [h0] at this) id)] at this
      simp [tops, h.out, this, h0]
    · have := lead_snoc h0 (nbyte n (3 - j))
      rw [h.out] at this
      simp [tops, h.out, this]
  exact ⟨by simp [hk], hk.symm⟩

set_option maxRecDepth 100000 in
set_option maxHeartbeats 4000000 in
theorem codec_bytes1_in (F : Fence) (m : Nat) (h : F.fn 72) (hro : F.round = none) (hm : 1 ≤ m) (l Bn : Nat) (n : Int) (h0n : 0 ≤ n) (h1n : n ≤ 4294967295) (J Jx : List Int → World → Prop)
    (hY : ∀ pre x W, J pre W → pre.length < 4 → YieldAt F (m - 1) Try.prog l #[.int .u8 x] W fun e W' =>
      (e = .returned (.bool true) ∧ J (pre ++ [x]) W' ∧ (∀ v, Boxed W Bn 3 v → Boxed W' Bn 3 v)) ∨ (e = .returned (.bool false) ∧ Jx (pre ++ [x]) W'))
    (W : World) (hBn : Boxed W Bn 3 (.int .i64 n)) (h0 : J [] W) :
    CallsIn F m Try.prog 72 #[.func (.yield l) #[] #[], .pointer (some ⟨Bn, 0, none⟩)] W fun e W' => (∃ v, e = .returned v) ∧
      ((∃ ys, ys = nbytes n ∧ J ys W') ∨ (∃ pre, True ∧ Jx pre W')) := by
  refine callsIn_of_wp Try.func72 rfl h ?_ hro
  simp only [Try.ntmps72, List.size_toArray, List.length_cons, List.length_nil, Nat.reduceAdd, Nat.reduceSub, Array.replicate_succ, Array.replicate_zero, List.push_toArray, List.append_toArray, List.nil_append, List.cons_append]
  gi_wp2
  gi_loopw [3, 4] (fun s k wr => ∃ (j : Nat) (z : Int) (b : Bool), As ((j = 0 ∧ z = 3) ∨ (j = 1 ∧ z = 2) ∨ (j = 2 ∧ z = 1) ∨ (j = 3 ∧ z = 0) ∨ (j = 4 ∧ z = -1)) ∧ s = .bool b ∧ k = .int .i64 z ∧ As (b = !(lead (tops n j)).isEmpty) ∧ As (Boxed wr Bn 3 (.int .i64 n)) ∧ J (lead (tops n j)) wr)
    (fun _ k _ => (intOf k + 1).toNat)
  case atStart => exact ⟨0, 3, false, ⟨.inl ⟨rfl, rfl⟩⟩, rfl, rfl, ⟨rfl⟩, ⟨hBn⟩, h0⟩
  case round =>
    obtain ⟨j, z, b, hjz, rfl, rfl, hb, hbx, hJ⟩ := hrel
    have hc := hbx.out.cell
    rcases hjz.out with ⟨rfl, rfl⟩ | ⟨rfl, rfl⟩ | ⟨rfl, rfl⟩ | ⟨rfl, rfl⟩ | ⟨rfl, rfl⟩
    · clear hjz
      have hbyte : As (nbyte n 3 = n / 16777216) := ⟨by unfold nbyte; omega⟩
      by_cases hz : n / 16777216 = 0
      · cases b
        · have hnew := step_zero n 0 (n / 16777216) hbyte hb hz
          have e1 : (n / 16777216 == 0) = true := by simpa using hz
          have e2 : (n / 16777216 != 0) = false := by simpa using hz
          clear hz
          gi_wp2
          refine ⟨fun _ h => (by cases h), ?_⟩
          gi_wp2
          go_roundw
          case rel => exact ⟨1, (2), false, ⟨(.inr (.inl ⟨rfl, rfl⟩))⟩, rfl, rfl, ⟨hnew.out.1⟩, hbx, hnew.out.2 ▸ hJ⟩
          case measure => simp [intOf]
        · have hnew := step_on n 0 (n / 16777216) hbyte (.inl hb)
          have e1 : (n / 16777216 == 0) = true := by simpa using hz
          have e2 : (n / 16777216 != 0) = false := by simpa using hz
          clear hz
          obtain ⟨fn, tmps, assign, body, hy, hR⟩ := hY (lead (tops n 0)) (n / 16777216) wr hJ (by have := lead_length (tops n 0); rw [tops_length] at this; omega)
          gi_wp2
          refine hR.mono ?_
          rintro e W3 (⟨rfl, hJ3, hk3⟩ | ⟨rfl, hJx3⟩)
          · have hb3 := (hk3 _ hbx.out); clear hk3
            gi_wp2
            go_roundw
            case rel => exact ⟨1, (2), true, ⟨(.inr (.inl ⟨rfl, rfl⟩))⟩, rfl, rfl, ⟨hnew.out.1⟩, ⟨hb3⟩, hnew.out.2 ▸ hJ3⟩
            case measure => simp [intOf]
          · gi_wp2
            refine bodyPost_ret (results_none rfl _ _ _) rfl ?_
            exact ⟨⟨_, rfl⟩, .inr ⟨_, trivial, hJx3⟩⟩
      · have hnew := step_on n 0 (n / 16777216) hbyte (.inr hz)
        have e1 : (n / 16777216 == 0) = false := by simpa using hz
        have e2 : (n / 16777216 != 0) = true := by simpa using hz
        clear hz
        cases b
        · clear hb
          obtain ⟨fn, tmps, assign, body, hy, hR⟩ := hY (lead (tops n 0)) (n / 16777216) wr hJ (by have := lead_length (tops n 0); rw [tops_length] at this; omega)
          gi_wp2
          refine hR.mono ?_
          rintro e W3 (⟨rfl, hJ3, hk3⟩ | ⟨rfl, hJx3⟩)
          · have hb3 := (hk3 _ hbx.out); clear hk3
            gi_wp2
            go_roundw
            case rel => exact ⟨1, (2), true, ⟨(.inr (.inl ⟨rfl, rfl⟩))⟩, rfl, rfl, ⟨hnew.out.1⟩, ⟨hb3⟩, hnew.out.2 ▸ hJ3⟩
            case measure => simp [intOf]
          · gi_wp2
            refine bodyPost_ret (results_none rfl _ _ _) rfl ?_
            exact ⟨⟨_, rfl⟩, .inr ⟨_, trivial, hJx3⟩⟩
        · clear hb
          obtain ⟨fn, tmps, assign, body, hy, hR⟩ := hY (lead (tops n 0)) (n / 16777216) wr hJ (by have := lead_length (tops n 0); rw [tops_length] at this; omega)
          gi_wp2
          refine hR.mono ?_
          rintro e W3 (⟨rfl, hJ3, hk3⟩ | ⟨rfl, hJx3⟩)
          · have hb3 := (hk3 _ hbx.out); clear hk3
            gi_wp2
            go_roundw
            case rel => exact ⟨1, (2), true, ⟨(.inr (.inl ⟨rfl, rfl⟩))⟩, rfl, rfl, ⟨hnew.out.1⟩, ⟨hb3⟩, hnew.out.2 ▸ hJ3⟩
            case measure => simp [intOf]
          · gi_wp2
            refine bodyPost_ret (results_none rfl _ _ _) rfl ?_
            exact ⟨⟨_, rfl⟩, .inr ⟨_, trivial, hJx3⟩⟩
    · clear hjz
      have hbyte : As (nbyte n 2 = n / 65536 % 256) := ⟨by unfold nbyte; omega⟩
      by_cases hz : n / 65536 % 256 = 0
      · cases b
        · have hnew := step_zero n 1 (n / 65536 % 256) hbyte hb hz
          have e1 : (n / 65536 % 256 == 0) = true := by simpa using hz
          have e2 : (n / 65536 % 256 != 0) = false := by simpa using hz
          clear hz
          gi_wp2
          refine ⟨fun _ h => (by cases h), ?_⟩
          gi_wp2
          go_roundw
          case rel => exact ⟨2, (1), false, ⟨(.inr (.inr (.inl ⟨rfl, rfl⟩)))⟩, rfl, rfl, ⟨hnew.out.1⟩, hbx, hnew.out.2 ▸ hJ⟩
          case measure => simp [intOf]
        · have hnew := step_on n 1 (n / 65536 % 256) hbyte (.inl hb)
          have e1 : (n / 65536 % 256 == 0) = true := by simpa using hz
          have e2 : (n / 65536 % 256 != 0) = false := by simpa using hz
          clear hz
          obtain ⟨fn, tmps, assign, body, hy, hR⟩ := hY (lead (tops n 1)) (n / 65536 % 256) wr hJ (by have := lead_length (tops n 1); rw [tops_length] at this; omega)
          gi_wp2
          refine hR.mono ?_
          rintro e W3 (⟨rfl, hJ3, hk3⟩ | ⟨rfl, hJx3⟩)
          · have hb3 := (hk3 _ hbx.out); clear hk3
            gi_wp2
            go_roundw
            case rel => exact ⟨2, (1), true, ⟨(.inr (.inr (.inl ⟨rfl, rfl⟩)))⟩, rfl, rfl, ⟨hnew.out.1⟩, ⟨hb3⟩, hnew.out.2 ▸ hJ3⟩
            case measure => simp [intOf]
          · gi_wp2
            refine bodyPost_ret (results_none rfl _ _ _) rfl ?_
            exact ⟨⟨_, rfl⟩, .inr ⟨_, trivial, hJx3⟩⟩
      · have hnew := step_on n 1 (n / 65536 % 256) hbyte (.inr hz)
        have e1 : (n / 65536 % 256 == 0) = false := by simpa using hz
        have e2 : (n / 65536 % 256 != 0) = true := by simpa using hz
        clear hz
        cases b
        · clear hb
          obtain ⟨fn, tmps, assign, body, hy, hR⟩ := hY (lead (tops n 1)) (n / 65536 % 256) wr hJ (by have := lead_length (tops n 1); rw [tops_length] at this; omega)
          gi_wp2
          refine hR.mono ?_
          rintro e W3 (⟨rfl, hJ3, hk3⟩ | ⟨rfl, hJx3⟩)
          · have hb3 := (hk3 _ hbx.out); clear hk3
            gi_wp2
            go_roundw
            case rel => exact ⟨2, (1), true, ⟨(.inr (.inr (.inl ⟨rfl, rfl⟩)))⟩, rfl, rfl, ⟨hnew.out.1⟩, ⟨hb3⟩, hnew.out.2 ▸ hJ3⟩
            case measure => simp [intOf]
          · gi_wp2
            refine bodyPost_ret (results_none rfl _ _ _) rfl ?_
            exact ⟨⟨_, rfl⟩, .inr ⟨_, trivial, hJx3⟩⟩
        · clear hb
          obtain ⟨fn, tmps, assign, body, hy, hR⟩ := hY (lead (tops n 1)) (n / 65536 % 256) wr hJ (by have := lead_length (tops n 1); rw [tops_length] at this; omega)
          gi_wp2
          refine hR.mono ?_
          rintro e W3 (⟨rfl, hJ3, hk3⟩ | ⟨rfl, hJx3⟩)
          · have hb3 := (hk3 _ hbx.out); clear hk3
            gi_wp2
            go_roundw
            case rel => exact ⟨2, (1), true, ⟨(.inr (.inr (.inl ⟨rfl, rfl⟩)))⟩, rfl, rfl, ⟨hnew.out.1⟩, ⟨hb3⟩, hnew.out.2 ▸ hJ3⟩
            case measure => simp [intOf]
          · gi_wp2
            refine bodyPost_ret (results_none rfl _ _ _) rfl ?_
            exact ⟨⟨_, rfl⟩, .inr ⟨_, trivial, hJx3⟩⟩
    · clear hjz
      have hbyte : As (nbyte n 1 = n / 256 % 256) := ⟨by unfold nbyte; omega⟩
      by_cases hz : n / 256 % 256 = 0
      · cases b
        · have hnew := step_zero n 2 (n / 256 % 256) hbyte hb hz
          have e1 : (n / 256 % 256 == 0) = true := by simpa using hz
          have e2 : (n / 256 % 256 != 0) = false := by simpa using hz
          clear hz
          gi_wp2
          refine ⟨fun _ h => (by cases h), ?_⟩
          gi_wp2
          go_roundw
          case rel => exact ⟨3, (0), false, ⟨(.inr (.inr (.inr (.inl ⟨rfl, rfl⟩))))⟩, rfl, rfl, ⟨hnew.out.1⟩, hbx, hnew.out.2 ▸ hJ⟩
          case measure => simp [intOf]
        · have hnew := step_on n 2 (n / 256 % 256) hbyte (.inl hb)
          have e1 : (n / 256 % 256 == 0) = true := by simpa using hz
          have e2 : (n / 256 % 256 != 0) = false := by simpa using hz
          clear hz
          obtain ⟨fn, tmps, assign, body, hy, hR⟩ := hY (lead (tops n 2)) (n / 256 % 256) wr hJ (by have := lead_length (tops n 2); rw [tops_length] at this; omega)
          gi_wp2
          refine hR.mono ?_
          rintro e W3 (⟨rfl, hJ3, hk3⟩ | ⟨rfl, hJx3⟩)
          · have hb3 := (hk3 _ hbx.out); clear hk3
            gi_wp2
            go_roundw
            case rel => exact ⟨3, (0), true, ⟨(.inr (.inr (.inr (.inl ⟨rfl, rfl⟩))))⟩, rfl, rfl, ⟨hnew.out.1⟩, ⟨hb3⟩, hnew.out.2 ▸ hJ3⟩
            case measure => simp [intOf]
          · gi_wp2
            refine bodyPost_ret (results_none rfl _ _ _) rfl ?_
            exact ⟨⟨_, rfl⟩, .inr ⟨_, trivial, hJx3⟩⟩
      · have hnew := step_on n 2 (n / 256 % 256) hbyte (.inr hz)
        have e1 : (n / 256 % 256 == 0) = false := by simpa using hz
        have e2 : (n / 256 % 256 != 0) = true := by simpa using hz
        clear hz
        cases b
        · clear hb
          obtain ⟨fn, tmps, assign, body, hy, hR⟩ := hY (lead (tops n 2)) (n / 256 % 256) wr hJ (by have := lead_length (tops n 2); rw [tops_length] at this; omega)
          gi_wp2
          refine hR.mono ?_
          rintro e W3 (⟨rfl, hJ3, hk3⟩ | ⟨rfl, hJx3⟩)
          · have hb3 := (hk3 _ hbx.out); clear hk3
            gi_wp2
            go_roundw
            case rel => exact ⟨3, (0), true, ⟨(.inr (.inr (.inr (.inl ⟨rfl, rfl⟩))))⟩, rfl, rfl, ⟨hnew.out.1⟩, ⟨hb3⟩, hnew.out.2 ▸ hJ3⟩
            case measure => simp [intOf]
          · gi_wp2
            refine bodyPost_ret (results_none rfl _ _ _) rfl ?_
            exact ⟨⟨_, rfl⟩, .inr ⟨_, trivial, hJx3⟩⟩
        · clear hb
          obtain ⟨fn, tmps, assign, body, hy, hR⟩ := hY (lead (tops n 2)) (n / 256 % 256) wr hJ (by have := lead_length (tops n 2); rw [tops_length] at this; omega)
          gi_wp2
          refine hR.mono ?_
          rintro e W3 (⟨rfl, hJ3, hk3⟩ | ⟨rfl, hJx3⟩)
          · have hb3 := (hk3 _ hbx.out); clear hk3
            gi_wp2
            go_roundw
            case rel => exact ⟨3, (0), true, ⟨(.inr (.inr (.inr (.inl ⟨rfl, rfl⟩))))⟩, rfl, rfl, ⟨hnew.out.1⟩, ⟨hb3⟩, hnew.out.2 ▸ hJ3⟩
            case measure => simp [intOf]
          · gi_wp2
            refine bodyPost_ret (results_none rfl _ _ _) rfl ?_
            exact ⟨⟨_, rfl⟩, .inr ⟨_, trivial, hJx3⟩⟩
    · clear hjz
      have hbyte : As (nbyte n 0 = n % 256) := ⟨by unfold nbyte; omega⟩
      by_cases hz : n % 256 = 0
      · cases b
        · have hnew := step_zero n 3 (n % 256) hbyte hb hz
          have e1 : (n % 256 == 0) = true := by simpa using hz
          have e2 : (n % 256 != 0) = false := by simpa using hz
          clear hz
          gi_wp2
          refine ⟨fun _ h => (by cases h), ?_⟩
          gi_wp2
          go_roundw
          case rel => exact ⟨4, (-1), false, ⟨(.inr (.inr (.inr (.inr ⟨rfl, rfl⟩))))⟩, rfl, rfl, ⟨hnew.out.1⟩, hbx, hnew.out.2 ▸ hJ⟩
          case measure => simp [intOf]
        · have hnew := step_on n 3 (n % 256) hbyte (.inl hb)
          have e1 : (n % 256 == 0) = true := by simpa using hz
          have e2 : (n % 256 != 0) = false := by simpa using hz
          clear hz
          obtain ⟨fn, tmps, assign, body, hy, hR⟩ := hY (lead (tops n 3)) (n % 256) wr hJ (by have := lead_length (tops n 3); rw [tops_length] at this; omega)
          gi_wp2
          refine hR.mono ?_
          rintro e W3 (⟨rfl, hJ3, hk3⟩ | ⟨rfl, hJx3⟩)
          · have hb3 := (hk3 _ hbx.out); clear hk3
            gi_wp2
            go_roundw
            case rel => exact ⟨4, (-1), true, ⟨(.inr (.inr (.inr (.inr ⟨rfl, rfl⟩))))⟩, rfl, rfl, ⟨hnew.out.1⟩, ⟨hb3⟩, hnew.out.2 ▸ hJ3⟩
            case measure => simp [intOf]
          · gi_wp2
            refine bodyPost_ret (results_none rfl _ _ _) rfl ?_
            exact ⟨⟨_, rfl⟩, .inr ⟨_, trivial, hJx3⟩⟩
      · have hnew := step_on n 3 (n % 256) hbyte (.inr hz)
        have e1 : (n % 256 == 0) = false := by simpa using hz
        have e2 : (n % 256 != 0) = true := by simpa using hz
        clear hz
        cases b
        · clear hb
          obtain ⟨fn, tmps, assign, body, hy, hR⟩ := hY (lead (tops n 3)) (n % 256) wr hJ (by have := lead_length (tops n 3); rw [tops_length] at this; omega)
          gi_wp2
          refine hR.mono ?_
          rintro e W3 (⟨rfl, hJ3, hk3⟩ | ⟨rfl, hJx3⟩)
          · have hb3 := (hk3 _ hbx.out); clear hk3
            gi_wp2
            go_roundw
            case rel => exact ⟨4, (-1), true, ⟨(.inr (.inr (.inr (.inr ⟨rfl, rfl⟩))))⟩, rfl, rfl, ⟨hnew.out.1⟩, ⟨hb3⟩, hnew.out.2 ▸ hJ3⟩
            case measure => simp [intOf]
          · gi_wp2
            refine bodyPost_ret (results_none rfl _ _ _) rfl ?_
            exact ⟨⟨_, rfl⟩, .inr ⟨_, trivial, hJx3⟩⟩
        · clear hb
          obtain ⟨fn, tmps, assign, body, hy, hR⟩ := hY (lead (tops n 3)) (n % 256) wr hJ (by have := lead_length (tops n 3); rw [tops_length] at this; omega)
          gi_wp2
          refine hR.mono ?_
          rintro e W3 (⟨rfl, hJ3, hk3⟩ | ⟨rfl, hJx3⟩)
          · have hb3 := (hk3 _ hbx.out); clear hk3
            gi_wp2
            go_roundw
            case rel => exact ⟨4, (-1), true, ⟨(.inr (.inr (.inr (.inr ⟨rfl, rfl⟩))))⟩, rfl, rfl, ⟨hnew.out.1⟩, ⟨hb3⟩, hnew.out.2 ▸ hJ3⟩
            case measure => simp [intOf]
          · gi_wp2
            refine bodyPost_ret (results_none rfl _ _ _) rfl ?_
            exact ⟨⟨_, rfl⟩, .inr ⟨_, trivial, hJx3⟩⟩
    · clear hjz
      gi_wp2
      go_end0
      exact ⟨⟨_, rfl⟩, .inl ⟨_, rfl, hJ⟩⟩
end Go.Proofs.Ytfdpebipnapelaa.P
/-
  codec.Number, by hand: its text for numbers 0 to 4294967295, an error for others. For every int.
-/
namespace Go.Proofs.Ytfdpebipnapelaa.P
open Go.RowKit Go.Shelf Go.Proofs.CodecPlain Go.Proofs.YtfdpebipnapelaaW.PrintWords

attribute [local go_sem] Oper.semAt_some

/-! NUMBER -/
theorem codec_bytes_stops (F : Fence) (m : Nat) (h : F.fn 72) (hro : F.round = none) (hm : 1 ≤ m) (Bn : Nat) (n : Int) (h0n : 0 ≤ n) (h1n : n ≤ 4294967295) (w : World)
    (hc : Boxed w Bn 3 (.int .i64 n)) :
    SeqStopsK F m Try.prog 72 #[.pointer (some ⟨Bn, 0, none⟩)] (fun x : Int => #[Value.int .u8 x]) (fun W W' => ∀ v, Boxed W Bn 3 v → Boxed W' Bn 3 v) (fun ys => ys = nbytes n) (fun _ => True) 4 w := fun l J Jx W hW _ _ hY h0 =>
  codec_bytes1_in F m h hro hm l Bn n h0n h1n J Jx hY W ((hW.block Bn hc.lt).trans hc) h0

theorem boxK_b {w : World} (Bn : Nat) (T : TypeId) (W : World) (l : Nat) (o o' : Obj) (_ : w.heap.size ≤ l) (h : W.heap[l]? = some o) (hn : o.isCells = false) (_ : o.isWalk = false) : ∀ v, Boxed W Bn T v → Boxed (W.putObj l o') Bn T v := fun v hv =>
  hv.kept (grownBy_putObj' W l o') (fun e => by cases e; rw [show W.heap[Bn]? = _ from hv] at h; cases h; cases hn)

theorem infoU8 : (Try.prog.info? 5).map (fun i => (i.zero, i.size, i.bytes)) = some (some (.int .u8 0), 1, 1) := by kernel_rfl

set_option maxRecDepth 100000 in
set_option maxHeartbeats 4000000 in
theorem codec_Number_in (F : Fence) (m : Nat) (h10 : F.fn 43) (h25 : F.fn 63) (h29 : F.fn 72) (hro : F.round = none) (hm : 3 ≤ m) (n : Int) (h0n : 0 ≤ n) (h1n : n ≤ 4294967295) (w : World) :
    CallsIn F m Try.prog 43 #[.int .i64 n] w fun e W' => e = .returned (.tuple #[.string (numStr n), .int .i64 0]) ∧ Below w.heap.size w W' := by
  have h1 : 1 ≤ m := by omega
  obtain ⟨i0, hi, hz0, hz1, hz2⟩ := info_parts infoU8
  refine callsIn_of_wp_marks Try.func43 rfl h10 ?_ hro
  simp only [Try.ntmps43, List.size_toArray, List.length_cons, List.length_nil, Nat.reduceAdd, Nat.reduceSub, Array.replicate_succ, Array.replicate_zero, List.push_toArray, List.append_toArray, List.nil_append, List.cons_append]
  gi_wp2_with (gi_at_call 63; refine (codec_bytes_in F (m - 1) h25 hro _ _).mono ?_; rintro e w' ⟨rfl, rfl⟩)
  have bL := Boxed.new (w.alloc (Obj.cells #[Value.int IntKind.u8 0] 5)) 59 (.slice (some ⟨w.heap.size, 0, none⟩) 1 1)
  have bN := Boxed.new ((w.alloc (Obj.cells #[Value.int IntKind.u8 0] 5)).alloc (Obj.cells #[Value.slice (some ⟨w.heap.size, 0, none⟩) 1 1] 59)) 3 (.int .i64 n)
  simp only [World.size_alloc] at bL bN
  have hB0 : Below w.heap.size w (((w.alloc (Obj.cells #[Value.int IntKind.u8 0] 5)).alloc (Obj.cells #[Value.slice (some ⟨w.heap.size, 0, none⟩) 1 1] 59)).alloc (Obj.cells #[Value.int IntKind.i64 n] 3)) := (((Below.refl _ w).alloc (Nat.le_refl _) _).alloc (by simp) _).alloc (by simp; omega) _
  have hown0 : (w.alloc (Obj.cells #[Value.int IntKind.u8 0] 5)).ownsRow w.heap.size 5 1 (.slice (some ⟨w.heap.size, 0, none⟩) 1 1) (([] : List Int).length + 1) (nums .u8 (0 :: [])) :=
    World.ownsRow_lit w #[.int .u8 0] 1 (Nat.le_refl _) (by simp [maxLen]) rfl
  refine wpIn_rangeFunc_ownG hro h1 (gf := 72) (lb := #[.pointer (some ⟨w.heap.size + 1 + 1, 0, none⟩)]) rfl h29 (enters_of Try.func72 (by kernel_rfl) rfl)
    (codec_bytes_stops F (m - 1) h29 hro (by omega) (w.heap.size + 1 + 1) n h0n h1n _ bN) (fun h k v hv => k v (h v hv)) (boxK_b _ _) (Below.refl _ _) (fun _ => rfl)
    (fun pre W => ((∃ v, Boxed W (w.heap.size + 1) 59 v ∧ W.ownsRow w.heap.size 5 1 v (pre.length + 1) (nums .u8 (0 :: pre)) ∧ True)) ∧ Below w.heap.size w W)
    (fun _ _ _ => False)
    (OwnFrom.and (Own.from (holdsRow_own w.heap.size (w.heap.size + 1) 59 5 1 (fun pre => pre.length + 1) (fun pre => nums .u8 (0 :: pre)) (fun _ _ => True)) _) (ownFrom_below (Nat.le_refl _) (by simp; omega)))
    (fun _ _ _ _ _ hs _ _ => hs)
    ⟨⟨_, bL.alloc _, (hown0.alloc _).alloc _, trivial⟩, hB0⟩
    (fun x => {
      tmps :=
        #[Value.int IntKind.i64 n, undef, Value.string { data := #[] }, Value.int IntKind.i64 0,
          Value.pointer (some { block := w.heap.size + 1, off := 0 }), Value.int IntKind.u8 x, Value.int IntKind.i64 n,
          Value.bool (decide (n < 0)), Value.bool (decide (n < 0)), Value.int IntKind.i64 n,
          Value.bool (decide (4294967295 < n)), Value.bool (decide (n < 0) || decide (4294967295 < n)),
          Value.slice (some { block := w.heap.size, off := 0 }) 1 1, Value.int IntKind.i64 n,
          Value.func (Fn.func 72) #[] #[Value.pointer (some { block := w.heap.size + 1 + 1, off := 0 })], Value.int IntKind.u8 x, undef,
          undef, undef, undef, undef, undef, undef, undef, undef, undef, undef, undef],
      defers := [] }) ?assign ?body ?done ?stop
  case assign =>
    intro l x W K hK
    gi_wp2
    exact hK
  case body =>
    rintro l pre x W ⟨⟨v, hv, hrow, _⟩, hB⟩ hlt
    have hc := hv.cell
    gi_wp2_with (gi_at_builtin; refine wpListIn_append_own _ rfl _ _ 59 rfl w.heap.size 5 i0 (.int .u8 0) 1 1 Try.underlying59 hi hz0 hz1 hz2 rfl (by decide) _ _ _ rfl (hrow.alloc _) ⟨W.heap.size, 0, none⟩ 1 1 [.int .u8 x] rfl rfl (cell_one_new _ _ _) (by simp [Value.oneCell']) (by simp [maxLen]; omega) (by omega) (by have := hB.size; simp; omega) ?_; intro v' w1 hown' hgrow _; obtain ⟨g', cap', rfl⟩ := ownsRow_succ hown'; obtain ⟨hv1, hv2, hr2, hk2, hb2⟩ := hv.appended (by decide) hrow hB.size (by omega) hown' hgrow; have hc1 := hv1.cell; have hf1 := hv1.frozen)
    refine ⟨hk2.from _, fun u hu => ?_, ⟨⟨_, hv2, ?_, trivial⟩, hB.trans hb2⟩⟩
    · have hu1 := (hu.alloc (.cells #[.int .u8 x] 5)).kept hgrow (hu.not_row (by decide) hrow)
      exact hu1.other (by omega) _
    · simpa [nums] using hr2
  case done =>
    rintro D ys W hD rfl ⟨⟨v, hv, hrow, _⟩, hB⟩ hK
    obtain ⟨g, cap, rfl⟩ := ownsRow_succ hrow
    have hc := hv.cell
    have hl4 := nbytes_length n
    have hne := (hv.not_row (by decide) hrow)
    have hgne : w.heap.size + 1 ≠ g := fun e => hne (by rw [e]; rfl)
    have hcg : W.cell? ⟨g, 0, none⟩ = some (.int .u8 0) := by rw [hrow.cellAt 0 (by omega)]; rfl
    have hfg : W.frozen? ⟨g, 0, none⟩ = false := hrow.frozenAt 0
    obtain ⟨hrow1, hgr1⟩ := hrow.stored 0 (.int .u8 ((nbytes n).length : Int))
    have hrow2 : (W.setCell ⟨g, 0, none⟩ (.int .u8 ((nbytes n).length : Int))).ownsRow w.heap.size 5 1 (.slice (some ⟨g, 0, none⟩) ((nbytes n).length + 1) cap) ((nbytes n).length + 1) (nums .u8 (((nbytes n).length : Int) :: nbytes n)) := by simpa [nums] using hrow1
    have hv1 := hv.other hgne (.int .u8 ((nbytes n).length : Int))
    have hc1 := hv1.cell
    have hcv := own_string (P := Try.prog) Try.underlying59 Try.underlying5 Try.underlying9 hrow2
    have hB2 : Below w.heap.size w (W.setCell ⟨g, 0, none⟩ (.int .u8 ((nbytes n).length : Int))) := hB.grown hgr1 hB.size (fun k e => by cases e; exact own_base hrow g rfl)
    have hK2 := (KeepsOthers.setCell W ⟨g, 0, none⟩ (.int .u8 ((nbytes n).length : Int))).same D _ hK rfl
    clear hrow1 hrow2 hgr1 hv1 hrow hv hne hK
    gi_wp2
    refine ⟨by simp, .inl ⟨_, _, rfl, run_takeDeferred hK2, ?_⟩⟩
    exact ⟨_, results_tmp2 rfl _ _ _, rfl, hB2.trans (belowK_b (w := w) (Nat.le_refl _) _ D _ _ (by simp at hD; omega) hK2 rfl rfl)⟩
  case stop =>
    rintro D c pre W _ _ h _
    exact h.elim

/-- What codec.Number answers. -/
def codec_Number.f (a0 : Int) : Option (ByteArray × Int) := if 0 ≤ a0 ∧ a0 ≤ 4294967295 then some (numStr a0, 0) else some (⟨#[]⟩, 1)

set_option maxHeartbeats 1000000 in
theorem codec_Number.bad (n : Int) (h : n < 0 ∨ 4294967295 < n) (w : World) :
    Calls Try.prog 43 #[.int .i64 n] w fun e w' => e = .returned (.tuple #[.string ⟨#[]⟩, .int .i64 1]) ∧ w' = w := by
  rcases h with h | h
  · have e1 : decide (n < 0) = true := decide_eq_true h
    clear h
    go_enter Try.func43, Try.ntmps43
    go_wp2
    go_ret2
    exact ⟨rfl, rfl⟩
  · have e1 : decide (n < 0) = false := decide_eq_false (by omega)
    have e2 : decide (4294967295 < n) = true := decide_eq_true h
    clear h
    go_enter Try.func43, Try.ntmps43
    go_wp2
    go_ret2
    exact ⟨rfl, rfl⟩

theorem codec_Number.calls (a0 : Int) (r1 : ByteArray) (r2 : Int) (w : World) (h : codec_Number.f a0 = some (r1, r2)) :
    Calls Try.prog 43 #[.int .i64 a0] w fun e w' => e = .returned (.tuple #[.string r1, .int .i64 r2]) ∧ Below w.heap.size w w' := by
  unfold codec_Number.f at h
  split at h
  · rename_i hn
    simp only [Option.some.injEq, Prod.mk.injEq] at h
    obtain ⟨rfl, rfl⟩ := h
    exact (callsIn_wide (n := 3)).1 (codec_Number_in Fence.wide 3 trivial trivial trivial rfl (by omega) a0 hn.1 hn.2 w)
  · rename_i hn
    simp only [Option.some.injEq, Prod.mk.injEq] at h
    obtain ⟨rfl, rfl⟩ := h
    exact (codec_Number.bad a0 (by omega) w).mono (by rintro e w' ⟨rfl, rfl⟩; exact ⟨rfl, Below.refl _ _⟩)
end Go.Proofs.Ytfdpebipnapelaa.P
/-
  Plain laws on reading a number's bytes: no program in sight.
-/
namespace Go.Proofs.CodecPlain

/-- The number that bytes say, the highest first. -/
def accB (l : List UInt8) : Int := l.foldl (fun a b => a * 256 + (b.toNat : Int)) 0
theorem accB_snoc (l : List UInt8) (b : UInt8) : accB (l ++ [b]) = accB l * 256 + (b.toNat : Int) := by simp [accB]
theorem accB_from (l : List UInt8) : ∀ a : Int, 0 ≤ a → 0 ≤ l.foldl (fun a b => a * 256 + (b.toNat : Int)) a ∧ l.foldl (fun a b => a * 256 + (b.toNat : Int)) a < (a + 1) * 256 ^ l.length := by
  induction l with
  | nil => intro a h; simp; omega
  | cons b l ih =>
    intro a h
    have hb := b.toNat_lt
    have h1 := ih (a * 256 + (b.toNat : Int)) (by omega)
    rw [List.foldl_cons, List.length_cons, Int.pow_succ]
    refine ⟨h1.1, Int.lt_of_lt_of_le h1.2 ?_⟩
    rw [Int.mul_comm (256 ^ l.length) 256, ← Int.mul_assoc]
    exact Int.mul_le_mul_of_nonneg_right (by omega) (Int.le_of_lt (Int.pow_pos (by omega)))
theorem accB_bd (l : List UInt8) : 0 ≤ accB l ∧ accB l < 256 ^ l.length := by
  have := accB_from l 0 (by omega)
  simpa [accB] using this

/-- The first byte of bytes. -/
def hd (s : ByteArray) : Nat := if h : 0 < s.size then (s[0]'h).toNat else 0

/-- What reads as a number at the begin of bytes: it, what stands behind, and whether there is one. -/
def getNum (s : ByteArray) : Int × ByteArray × Bool :=
  if s.size = 0 ∨ 4 < hd s ∨ s.size ≤ hd s then (0, ⟨#[]⟩, false)
  else if hd s ≠ 0 ∧ hd (s.extract 1 (1 + hd s)) = 0 then (0, ⟨#[]⟩, false)
  else (accB (s.extract 1 (1 + hd s)).data.toList, s.extract (1 + hd s) s.size, true)

end Go.Proofs.CodecPlain
/-
  Plain laws on reading texts and rows: no program in sight.
-/
namespace Go.Proofs.CodecPlain

/-- What reads as a text at the begin of bytes. -/
def getText (s : ByteArray) : ByteArray × ByteArray × Bool :=
  if (getNum s).2.2 = true ∧ (getNum s).1 ≤ 4000 ∧ (getNum s).1 ≤ ((getNum s).2.1.size : Int) then
    ((getNum s).2.1.extract 0 (getNum s).1.toNat, (getNum s).2.1.extract (getNum s).1.toNat (getNum s).2.1.size, true)
  else (⟨#[]⟩, ⟨#[]⟩, false)
/-- What reads as n texts, one behind the other. -/
def getTexts : Nat → ByteArray → List ByteArray × ByteArray × Bool
  | 0, s => ([], s, true)
  | n + 1, s => if (getText s).2.2 = true then
      (if (getTexts n (getText s).2.1).2.2 = true then ((getText s).1 :: (getTexts n (getText s).2.1).1, (getTexts n (getText s).2.1).2.1, true) else ([], ⟨#[]⟩, false))
    else ([], ⟨#[]⟩, false)
/-- What reads as a row at the begin of bytes. -/
def getRow (s : ByteArray) : List ByteArray × ByteArray × Bool :=
  if (getNum s).2.2 = true ∧ (getNum s).1 ≤ 1000 then getTexts (getNum s).1.toNat (getNum s).2.1 else ([], ⟨#[]⟩, false)
/-- What is told where some have been read. -/
def withL (l : List ByteArray) (r : List ByteArray × ByteArray × Bool) : List ByteArray × ByteArray × Bool := if r.2.2 = true then (l ++ r.1, r.2.1, true) else ([], ⟨#[]⟩, false)

theorem getNum_bd (s : ByteArray) : 0 ≤ (getNum s).1 ∧ (getNum s).1 < 4294967296 := by
  unfold getNum
  split
  · exact ⟨by decide, by decide⟩
  · split
    · exact ⟨by decide, by decide⟩
    · rename_i h _
      have h1 := accB_bd (s.extract 1 (1 + hd s)).data.toList
      have hl : (s.extract 1 (1 + hd s)).data.toList.length = hd s := by
        rw [Array.length_toList]
        show (s.extract 1 (1 + hd s)).size = _
        rw [ByteArray.size_extract]; omega
      rw [hl] at h1
      refine ⟨h1.1, Int.lt_of_lt_of_le h1.2 ?_⟩
      have : hd s ≤ 4 := by omega
      match hd s, this with
      | 0, _ => decide
      | 1, _ => decide
      | 2, _ => decide
      | 3, _ => decide
      | 4, _ => decide
theorem getTexts_len : ∀ (n : Nat) (s : ByteArray), (getTexts n s).2.2 = true → (getTexts n s).1.length = n
  | 0, s, _ => rfl
  | n + 1, s, h => by
    unfold getTexts at h ⊢
    split at h
    · rename_i h1
      rw [if_pos h1]
      split at h
      · rename_i h2
        rw [if_pos h2]
        simp [getTexts_len n _ h2]
      · cases h
    · cases h
theorem withL_stop (l : List ByteArray) (n : Nat) (s : ByteArray) (h : (getText s).2.2 = false) : withL l (getTexts (n + 1) s) = ([], ⟨#[]⟩, false) := by
  simp [getTexts, h, withL]
theorem withL_step (l : List ByteArray) (n : Nat) (s : ByteArray) (h : (getText s).2.2 = true) : withL l (getTexts (n + 1) s) = withL (l ++ [(getText s).1]) (getTexts n (getText s).2.1) := by
  by_cases h2 : (getTexts n (getText s).2.1).2.2 = true <;> simp [getTexts, h, withL, h2]
theorem withL_nil (n : Nat) (s : ByteArray) : withL [] (getTexts n s) = getTexts n s := by
  cases n with
  | zero => simp [withL, getTexts]
  | succ n =>
    unfold getTexts
    split
    · split <;> simp [withL]
    · simp [withL]

end Go.Proofs.CodecPlain
/-
  Plain laws on numbers', texts' and rows' bytes: what is laid is read, what is read is laid. No program in sight.
-/
namespace Go.Proofs.CodecPlain

theorem ba_ext {a b : ByteArray} (h : a.data.toList = b.data.toList) : a = b := by
  cases a; cases b
  rename_i x y
  have : x = y := by cases x; cases y; simpa using h
  rw [this]
theorem ext_list (s : ByteArray) (a b : Nat) : (s.extract a b).data.toList = (s.data.toList.drop a).take (b - a) := by
  rw [ByteArray.data_extract, Array.toList_extract]
theorem app_list (a b : ByteArray) : (a ++ b).data.toList = a.data.toList ++ b.data.toList := by
  rw [ByteArray.data_append, Array.toList_append]
theorem len_list (a : ByteArray) : a.data.toList.length = a.size := by rw [Array.length_toList]; rfl

/-! ### a number's bytes -/
theorem nbytes_zero : nbytes 0 = [] := by decide
theorem tops4 (x : Int) : tops x 4 = [nbyte x 3, nbyte x 2, nbyte x 1, nbyte x 0] := rfl
theorem nbytes_rec (x : Int) (h0 : 0 < x) (h1 : x < 4294967296) : nbytes x = nbytes (x / 256) ++ [x % 256] := by
  have e3 : nbyte (x / 256) 3 = 0 := by unfold nbyte; omega
  have e2 : nbyte (x / 256) 2 = nbyte x 3 := by unfold nbyte; omega
  have e1 : nbyte (x / 256) 1 = nbyte x 2 := by unfold nbyte; omega
  have e0 : nbyte (x / 256) 0 = nbyte x 1 := by unfold nbyte; omega
  have e : nbyte x 0 = x % 256 := by unfold nbyte; omega
  have hl : nbytes (x / 256) = lead [nbyte x 3, nbyte x 2, nbyte x 1] := by
    unfold nbytes; rw [tops4, e3, e2, e1, e0]; simp [lead]
  have hr : nbytes x = lead ([nbyte x 3, nbyte x 2, nbyte x 1] ++ [x % 256]) := by
    unfold nbytes; rw [tops4, e]; rfl
  rw [hr, hl]
  by_cases hn : lead [nbyte x 3, nbyte x 2, nbyte x 1] = []
  · rw [lead_snoc_nil hn, hn]
    have : x % 256 ≠ 0 := by
      have z3 : nbyte x 3 = 0 := by
        by_cases z : nbyte x 3 = 0
        · exact z
        · simp [lead, z] at hn
      have z2 : nbyte x 2 = 0 := by
        by_cases z : nbyte x 2 = 0
        · exact z
        · simp [lead, z, z3] at hn
      have z1 : nbyte x 1 = 0 := by
        by_cases z : nbyte x 1 = 0
        · exact z
        · simp [lead, z, z2, z3] at hn
      unfold nbyte at z1 z2 z3
      omega
    rw [if_neg this]; rfl
  · rw [lead_snoc hn]
/-- A byte's number as a byte. -/
def u8 (n : Int) : UInt8 := UInt8.ofNat n.toNat
theorem u8_toNat {n : Int} (h0 : 0 ≤ n) (h1 : n < 256) : ((u8 n).toNat : Int) = n := by
  have : (u8 n).toNat = n.toNat % 256 := by simp [u8, UInt8.toNat_ofNat']
  omega
theorem u8_of (b : UInt8) : u8 (b.toNat : Int) = b := by
  apply UInt8.toNat_inj.1
  have h := b.toNat_lt
  have := u8_toNat (n := (b.toNat : Int)) (by omega) (by omega)
  omega
theorem nat_ind {P : Int → Prop} (h : ∀ x, 0 ≤ x → (∀ y, 0 ≤ y → y < x → P y) → P x) : ∀ x, 0 ≤ x → P x := by
  have key : ∀ n : Nat, ∀ x : Int, 0 ≤ x → x.toNat < n → P x := by
    intro n
    induction n with
    | zero => intro x _ hx; omega
    | succ n ih => intro x h0 hx; exact h x h0 (fun y hy hlt => ih y hy (by omega))
  exact fun x hx => key (x.toNat + 1) x hx (by omega)
theorem accB_nbytes : ∀ x : Int, 0 ≤ x → x < 4294967296 → accB ((nbytes x).map u8) = x := by
  apply nat_ind
  intro x h0 ih h1
  by_cases hz : x = 0
  · subst hz; rw [nbytes_zero]; rfl
  · rw [nbytes_rec x (by omega) h1, List.map_append, List.map_singleton, accB_snoc, ih (x / 256) (by omega) (by omega) (by omega), u8_toNat (by omega) (by omega)]
    omega
theorem nbytes_head : ∀ x : Int, 0 ≤ x → x < 4294967296 → ∀ b l, nbytes x = b :: l → 0 < b ∧ b < 256 := by
  apply nat_ind
  intro x h0 ih h1 b l hb
  by_cases hz : x = 0
  · subst hz; rw [nbytes_zero] at hb; cases hb
  · rw [nbytes_rec x (by omega) h1] at hb
    cases hc : nbytes (x / 256) with
    | nil =>
      rw [hc] at hb
      simp at hb
      by_cases hy : x / 256 = 0
      · omega
      · exfalso
        rw [nbytes_rec (x / 256) (by omega) (by omega)] at hc
        simp at hc
    | cons c m =>
      rw [hc] at hb
      simp at hb
      have := ih (x / 256) (by omega) (by omega) (by omega) c m hc
      omega
theorem nbytes_pos (x : Int) (h0 : 0 ≤ x) (h1 : x < 4294967296) (h : nbytes x = []) : x = 0 := by
  by_cases hz : x = 0
  · exact hz
  · rw [nbytes_rec x (by omega) h1] at h; simp at h
theorem nbytes_accB : ∀ (n : Nat) (l : List UInt8), l.length = n → n ≤ 4 → (∀ b m, l = b :: m → b.toNat ≠ 0) → (nbytes (accB l)).map u8 = l ∧ (l ≠ [] → 0 < accB l) := by
  intro n
  induction n with
  | zero => intro l hl _ _; cases l with | nil => exact ⟨rfl, fun h => absurd rfl h⟩ | cons _ _ => simp at hl
  | succ n ih =>
    intro l hl h4 hh
    have hne : l ≠ [] := by intro e; rw [e] at hl; simp at hl
    have hsp := List.dropLast_concat_getLast hne
    generalize l.dropLast = m at hsp
    generalize l.getLast hne = b at hsp
    subst hsp
    have hm : m.length = n := by simp at hl; exact hl
    have hb := b.toNat_lt
    have hbd := accB_bd (m ++ [b])
    have hbm := accB_bd m
    have h256 : accB (m ++ [b]) < 4294967296 := Int.lt_of_lt_of_le hbd.2 (by
      rw [hl]
      match n, h4 with
      | 0, _ => decide
      | 1, _ => decide
      | 2, _ => decide
      | 3, _ => decide)
    have hsn := accB_snoc m b
    have ih' := ih m hm (by omega) (fun c k e => hh c (k ++ [b]) (by rw [e]; rfl))
    have hpos : 0 < accB (m ++ [b]) := by
      cases m with
      | nil => have := hh b [] rfl; rw [hsn]; simp [accB]; omega
      | cons c k => have := ih'.2 (by simp); omega
    refine ⟨?_, fun _ => hpos⟩
    rw [nbytes_rec _ hpos h256]
    have e1 : accB (m ++ [b]) / 256 = accB m := by omega
    have e2 : accB (m ++ [b]) % 256 = (b.toNat : Int) := by omega
    rw [e1, e2, List.map_append, ih'.1, List.map_singleton, u8_of]

theorem numStr_list (n : Int) : (numStr n).data.toList = u8 ((nbytes n).length : Int) :: (nbytes n).map u8 := by
  simp [numStr, Go.strOfNums, u8]
theorem numStr_sz (n : Int) : (numStr n).size = 1 + (nbytes n).length := by rw [← len_list, numStr_list]; simp; omega
theorem hd_list (s : ByteArray) : hd s = match s.data.toList with | [] => 0 | b :: _ => b.toNat := by
  cases s with | mk d => cases d with | mk l =>
    cases l with
    | nil => unfold hd; rw [dif_neg (by show ¬ 0 < 0; omega)]
    | cons b l => unfold hd; rw [dif_pos (by show 0 < l.length + 1; omega)]; rfl

/-- What is laid is read. -/
theorem getNum_put (n : Int) (h0 : 0 ≤ n) (h1 : n ≤ 4294967295) (rest : ByteArray) : getNum (numStr n ++ rest) = (n, rest, true) := by
  have hl := nbytes_length n
  have hlist : (numStr n ++ rest).data.toList = u8 ((nbytes n).length : Int) :: ((nbytes n).map u8 ++ rest.data.toList) := by rw [app_list, numStr_list]; rfl
  have hhd : hd (numStr n ++ rest) = (nbytes n).length := by
    rw [hd_list, hlist]
    have := u8_toNat (n := ((nbytes n).length : Int)) (by omega) (by omega)
    show (u8 _).toNat = _
    omega
  have hsz : (numStr n ++ rest).size = 1 + (nbytes n).length + rest.size := by rw [size_append, numStr_sz]
  have hb : ((numStr n ++ rest).extract 1 (1 + (nbytes n).length)).data.toList = (nbytes n).map u8 := by
    rw [ext_list, hlist, Nat.add_sub_cancel_left, List.drop_one, List.tail_cons]
    rw [List.take_append_of_le_length (by simp)]
    rw [List.take_of_length_le (by simp)]
  have hr : (numStr n ++ rest).extract (1 + (nbytes n).length) (numStr n ++ rest).size = rest := by
    apply ba_ext
    rw [ext_list, hlist, Nat.add_comm 1, List.drop_succ_cons, List.drop_append_of_le_length (by simp), List.drop_of_length_le (by simp), List.nil_append]
    rw [List.take_of_length_le]
    rw [len_list]; omega
  unfold getNum
  rw [hhd, if_neg (by omega), if_neg, hb, hr, accB_nbytes n h0 (by omega)]
  rintro ⟨hne, hz⟩
  rw [hd_list, hb] at hz
  cases hc : nbytes n with
  | nil => rw [hc] at hne; simp at hne
  | cons b l =>
    rw [hc] at hz
    have := nbytes_head n h0 (by omega) b l hc
    have h2 := u8_toNat (n := b) (by omega) this.2
    simp at hz
    omega
/-- What is read is laid. -/
theorem getNum_got {s : ByteArray} {n : Int} {rest : ByteArray} (h : getNum s = (n, rest, true)) : 0 ≤ n ∧ n ≤ 4294967295 ∧ s = numStr n ++ rest := by
  have hbd := getNum_bd s
  rw [h] at hbd
  refine ⟨hbd.1, by have := hbd.2; simp only at this; omega, ?_⟩
  unfold getNum at h
  split at h
  · simp at h
  · rename_i h1
    split at h
    · simp at h
    · rename_i h2
      simp only [Prod.mk.injEq, and_true] at h
      obtain ⟨rfl, rfl⟩ := h
      have hbl : ((s.extract 1 (1 + hd s)).data.toList).length = hd s := by rw [len_list, ByteArray.size_extract]; omega
      have hk := nbytes_accB (hd s) _ hbl (by omega) (by
        intro b m e hz
        apply h2
        refine ⟨fun h0 => by rw [e] at hbl; simp at hbl; omega, ?_⟩
        rw [hd_list, e]; exact hz)
      apply ba_ext
      have hlen : (nbytes (accB (s.extract 1 (1 + hd s)).data.toList)).length = hd s := by
        have := congrArg List.length hk.1
        rw [List.length_map, hbl] at this
        exact this
      rw [app_list, numStr_list, hk.1, hlen, ext_list, ext_list]
      cases hs : s.data.toList with
      | nil => have := len_list s; rw [hs] at this; simp at this; omega
      | cons b l =>
        have hb : hd s = b.toNat := by rw [hd_list, hs]
        have hsz : s.size = l.length + 1 := by rw [← len_list, hs]; rfl
        rw [hb, u8_of, Nat.add_comm 1, Nat.add_sub_cancel, List.drop_one, List.tail_cons, List.drop_succ_cons, List.cons_append]
        rw [List.take_of_length_le (l := l.drop b.toNat) (by rw [List.length_drop]; omega), List.take_append_drop]

/-! ### texts -/
theorem getText_put (t : ByteArray) (h : t.size ≤ 4000) (rest : ByteArray) : getText (textStr t ++ rest) = (t, rest, true) := by
  have hg : getNum (textStr t ++ rest) = ((t.size : Int), t ++ rest, true) := by
    unfold textStr
    rw [ByteArray.append_assoc]
    exact getNum_put _ (by omega) (by omega) _
  unfold getText
  rw [hg]
  simp only
  rw [if_pos ⟨trivial, by omega, by rw [size_append]; omega⟩]
  have e1 : (t ++ rest).extract 0 (t.size : Int).toNat = t := by
    apply ba_ext; rw [ext_list, app_list, Int.toNat_natCast, List.drop_zero, Nat.sub_zero, List.take_append_of_le_length (by rw [len_list]; exact Nat.le_refl _), List.take_of_length_le (by rw [len_list]; exact Nat.le_refl _)]
  have e2 : (t ++ rest).extract (t.size : Int).toNat (t ++ rest).size = rest := by
    apply ba_ext
    rw [ext_list, app_list, Int.toNat_natCast, List.drop_append_of_le_length (by rw [len_list]; exact Nat.le_refl _), List.drop_of_length_le (by rw [len_list]; exact Nat.le_refl _), List.nil_append, size_append, Nat.add_sub_cancel_left]
    rw [List.take_of_length_le (by rw [len_list]; exact Nat.le_refl _)]
  rw [e1, e2]
theorem getText_got {s t rest : ByteArray} (h : getText s = (t, rest, true)) : t.size ≤ 4000 ∧ s = textStr t ++ rest := by
  unfold getText at h
  split at h
  · rename_i hc
    obtain ⟨n, r, ok, hn⟩ : ∃ n r ok, getNum s = (n, r, ok) := ⟨_, _, _, rfl⟩
    rw [hn] at h hc
    simp only at h hc
    obtain ⟨rfl, hc1, hc2⟩ := hc
    obtain ⟨h0, h1, hs⟩ := getNum_got hn
    simp only [Prod.mk.injEq, and_true] at h
    obtain ⟨rfl, rfl⟩ := h
    have hsz : ((r.extract 0 n.toNat).size : Int) = n := by rw [ByteArray.size_extract]; omega
    refine ⟨by omega, ?_⟩
    unfold textStr
    rw [hsz, ByteArray.append_assoc, hs]
    congr 1
    apply ba_ext
    rw [app_list, ext_list, ext_list, List.drop_zero, Nat.sub_zero]
    rw [List.take_of_length_le (l := r.data.toList.drop n.toNat) (by rw [List.length_drop, len_list]; omega), List.take_append_drop]
  · simp at h
theorem getText_no {s : ByteArray} (h : (getText s).2.2 = false) : getText s = (⟨#[]⟩, ⟨#[]⟩, false) := by
  unfold getText at h ⊢
  split
  · rename_i hc; rw [if_pos hc] at h; simp at h
  · rfl
theorem getNum_no' {s : ByteArray} (h : (getNum s).2.2 = false) : getNum s = (0, ⟨#[]⟩, false) := by
  unfold getNum at h ⊢
  split
  · rfl
  · split
    · rfl
    · rename_i h1 h2; rw [if_neg h1, if_neg h2] at h; simp at h

/-! ### rows -/
theorem getTexts_put : ∀ (l : List ByteArray) (_ : ∀ t ∈ l, t.size ≤ 4000) (rest : ByteArray), getTexts l.length (catStr (l.map textStr) ++ rest) = (l, rest, true)
  | [], _, rest => by
    have : (⟨#[]⟩ : ByteArray) ++ rest = rest := ba_ext (by rw [app_list]; rfl)
    simp [getTexts, catStr, this]
  | t :: l, h, rest => by
    have hg : getText (catStr ((t :: l).map textStr) ++ rest) = (t, catStr (l.map textStr) ++ rest, true) := by
      rw [List.map_cons, catStr, ByteArray.append_assoc]
      exact getText_put t (h t List.mem_cons_self) _
    have ih := getTexts_put l (fun x hx => h x (List.mem_cons_of_mem _ hx)) rest
    rw [List.length_cons, getTexts, hg]
    simp [ih]
theorem getTexts_got : ∀ (n : Nat) (s : ByteArray) (l : List ByteArray) (rest : ByteArray), getTexts n s = (l, rest, true) → l.length = n ∧ (∀ t ∈ l, t.size ≤ 4000) ∧ s = catStr (l.map textStr) ++ rest
  | 0, s, l, rest, h => by
    simp [getTexts] at h
    obtain ⟨rfl, rfl⟩ := h
    exact ⟨rfl, by simp, ba_ext (by rw [app_list]; rfl)⟩
  | n + 1, s, l, rest, h => by
    unfold getTexts at h
    obtain ⟨t, r, ok, ht⟩ : ∃ t r ok, getText s = (t, r, ok) := ⟨_, _, _, rfl⟩
    rw [ht] at h
    simp only at h
    split at h
    · rename_i hok
      subst hok
      obtain ⟨m, q, k, hm⟩ : ∃ m q k, getTexts n r = (m, q, k) := ⟨_, _, _, rfl⟩
      rw [hm] at h
      simp only at h
      split at h
      · rename_i hk
        subst hk
        simp only [Prod.mk.injEq, and_true] at h
        obtain ⟨rfl, rfl⟩ := h
        obtain ⟨h1, h2, h3⟩ := getTexts_got n r m q hm
        obtain ⟨h4, h5⟩ := getText_got ht
        refine ⟨by simp [h1], fun x hx => ?_, ?_⟩
        · rcases List.mem_cons.1 hx with rfl | hx
          · exact h4
          · exact h2 x hx
        · rw [List.map_cons, catStr, ByteArray.append_assoc, ← h3, h5]
      · simp at h
    · simp at h
theorem getRow_put (l : List ByteArray) (hl : l.length ≤ 1000) (h : ∀ t ∈ l, t.size ≤ 4000) (rest : ByteArray) : getRow (rowStr l ++ rest) = (l, rest, true) := by
  have hg : getNum (rowStr l ++ rest) = ((l.length : Int), catStr (l.map textStr) ++ rest, true) := by
    unfold rowStr
    rw [ByteArray.append_assoc]
    exact getNum_put _ (by omega) (by omega) _
  unfold getRow
  rw [hg]
  simp only
  rw [if_pos ⟨trivial, by omega⟩, Int.toNat_natCast]
  exact getTexts_put l h rest
theorem getRow_got {s : ByteArray} {l : List ByteArray} {rest : ByteArray} (h : getRow s = (l, rest, true)) : l.length ≤ 1000 ∧ (∀ t ∈ l, t.size ≤ 4000) ∧ s = rowStr l ++ rest := by
  unfold getRow at h
  split at h
  · rename_i hc
    obtain ⟨n, r, ok, hn⟩ : ∃ n r ok, getNum s = (n, r, ok) := ⟨_, _, _, rfl⟩
    rw [hn] at h hc
    simp only at h hc
    obtain ⟨rfl, hc1⟩ := hc
    obtain ⟨h0, h1, hs⟩ := getNum_got hn
    obtain ⟨h2, h3, h4⟩ := getTexts_got _ _ _ _ h
    refine ⟨by omega, h3, ?_⟩
    unfold rowStr
    rw [h2, ByteArray.append_assoc, ← h4, hs]
    congr 2
    omega
  · simp at h
theorem getTexts_no : ∀ (n : Nat) (s : ByteArray), (getTexts n s).2.2 = false → getTexts n s = ([], ⟨#[]⟩, false)
  | 0, s, h => by simp [getTexts] at h
  | n + 1, s, h => by
    unfold getTexts at h ⊢
    split
    · rename_i h1
      rw [if_pos h1] at h
      split
      · rename_i h2; rw [if_pos h2] at h; simp at h
      · rfl
    · rfl
theorem getRow_no {s : ByteArray} (h : (getRow s).2.2 = false) : getRow s = ([], ⟨#[]⟩, false) := by
  unfold getRow at h ⊢
  split
  · rename_i hc; rw [if_pos hc] at h; exact getTexts_no _ _ h
  · rfl

end Go.Proofs.CodecPlain
/-
  Plain laws on numbers, one behind the other: no program in sight.
-/
namespace Go.Proofs.CodecPlain

/-- What reads as n numbers, one behind the other; what is none ends it. -/
def readNs : Nat → ByteArray → List Int × ByteArray × Bool
  | 0, s => ([], s, true)
  | n + 1, s => if (getNum s).2.2 = true then ((getNum s).1 :: (readNs n (getNum s).2.1).1, (readNs n (getNum s).2.1).2.1, (readNs n (getNum s).2.1).2.2) else ([], ⟨#[]⟩, false)
/-- Where some have been read. -/
def aftNs (a : List Int) (r : List Int × ByteArray × Bool) : List Int × ByteArray × Bool := (a ++ r.1, r.2.1, r.2.2)
theorem readNs_step (a : List Int) (n : Nat) (s : ByteArray) (h : (getNum s).2.2 = true) : aftNs a (readNs (n + 1) s) = aftNs (a ++ [(getNum s).1]) (readNs n (getNum s).2.1) := by
  unfold aftNs
  simp only [readNs]
  rw [if_pos h]
  simp
theorem readNs_stop (a : List Int) (n : Nat) (s : ByteArray) (h : (getNum s).2.2 = false) : (aftNs a (readNs (n + 1) s)).2.2 = false := by
  unfold aftNs
  simp only [readNs]
  rw [if_neg (by rw [h]; decide)]
theorem cat_snoc_num (ns : List Int) (n : Int) : catStr ((ns ++ [n]).map numStr) = catStr (ns.map numStr) ++ numStr n := by
  rw [List.map_append, catStr_append]
  rw [show catStr ([n].map numStr) = numStr n ++ ByteArray.empty from rfl, ByteArray.append_empty]
theorem cat_size_num : ∀ ns : List Int, (catStr (ns.map numStr)).size ≤ ns.length * 5
  | [] => by show (ByteArray.empty).size ≤ _; simp
  | n :: ns => by
    have := cat_size_num ns
    have h2 := numStr_size n
    show (numStr n ++ catStr (ns.map numStr)).size ≤ _
    rw [CodecPlain.size_append]; simp only [List.length_cons]; omega
end Go.Proofs.CodecPlain
-- Written by a program of this session (xprint.py) over the kit's print.py.
namespace Go.Proofs.Ytfdpebipnapelaa.P
open Go.RowKit Go.Proofs.YtfdpebipnapelaaW.PrintWords Go.Proofs.YtfdpebipnapelaaW.PrintLast Go.Proofs.YtfdpebipnapelaaW.PrintMore
attribute [local go_sem] max2_int min2_int max_two min_two max_three min_three max_four min_four   -- for this text's walks alone
set_option linter.unusedVariables false
set_option linter.unusedSimpArgs false

/-! ### meta_within: function 51 -/
def meta_within.f (a0 : Int) (a1 : Int) : Option (Bool) := if a0 ≥ 0 then (some (decide (a0 ≤ a1))) else (some false)
set_option maxHeartbeats 8000000 in
set_option maxRecDepth 100000 in
theorem meta_within.calls (a0 : Int) (a1 : Int) (r : Bool) (w : World) (h : meta_within.f a0 a1 = some r) :
    Calls Try.prog 51 #[.int .i64 a0, .int .i64 a1] w fun e w' => e = .returned (.bool r) ∧ Drawn0 w w' := by
  have H : (if a0 ≥ 0 then (some (decide (a0 ≤ a1))) else (some false)) = some r := h
  clear h
  by_cases c3 : a0 ≥ 0
  · rw [if_pos c3] at H
    have c3b0 : decide (0 ≤ a0) = true := decide_eq_true c3
    clear c3
    obtain rfl := Option.some.inj H
    go_enter Try.func51, Try.ntmps51
    go_wp2
    go_ret
    exact ⟨by first | rfl | (simp; done) | (simp [*]; done), by repeat (first | exact Drawn0.refl _ | apply Drawn0.step)⟩
  · rw [if_neg c3] at H
    have c3b0 : decide (0 ≤ a0) = false := decide_eq_false c3
    clear c3
    obtain rfl := Option.some.inj H
    go_enter Try.func51, Try.ntmps51
    go_wp2
    go_ret
    exact ⟨by first | rfl | (simp; done) | (simp [*]; done), by repeat (first | exact Drawn0.refl _ | apply Drawn0.step)⟩

end Go.Proofs.Ytfdpebipnapelaa.P
-- Written by a program of this session (xprint.py) over the kit's print.py.
namespace Go.Proofs.Ytfdpebipnapelaa.P
open Go.RowKit Go.Proofs.YtfdpebipnapelaaW.PrintWords Go.Proofs.YtfdpebipnapelaaW.PrintLast Go.Proofs.YtfdpebipnapelaaW.PrintMore
attribute [local go_sem] max2_int min2_int max_two min_two max_three min_three max_four min_four   -- for this text's walks alone
set_option linter.unusedVariables false
set_option linter.unusedSimpArgs false

/-! ### meta_Is: function 23 -/
def meta_Is.l0 : Nat → List Int → Int → Int → Int → Int → List Int → Option (Bool)
  | 0, _, _, _, _, _, _ => none
  | k + 1, x6, x7, x8, x109000, x109001, x109002 => if x8 < x7 then (if 0 ≤ x8 then (if x8 < (x6.length : Int) then ((meta_within.f (rd x6 x8) 4294967295).bind fun t110 => (if t110 = true then (meta_Is.l0 k x6 x7 (wrap64 (x8 + 1)) x109000 x109001 x109002) else (some false))) else (none)) else (none)) else ((meta_within.f x109000 1000000000).bind fun t111 => (if t111 = true then ((meta_within.f x109001 4095).bind fun t112 => (if t112 = true then (some (decide ((x109002.length : Int) ≤ 16))) else (some false))) else (some false)))
def meta_Is.f (k : Nat) (a0_0 : Int) (a0_1 : Int) (l0_2 : List Int) : Option (Bool) := meta_Is.l0 k l0_2 (l0_2.length : Int) 0 a0_0 a0_1 l0_2
theorem meta_Is.mono_l : ∀ k, (∀ y0 y1 y2 y3 y4 y5, LeO (meta_Is.l0 k y0 y1 y2 y3 y4 y5) (meta_Is.l0 (k + 1) y0 y1 y2 y3 y4 y5))
  | 0 => fun _ _ _ _ _ _ r h => by simp [meta_Is.l0] at h
  | k + 1 => by
    have ih0 := meta_Is.mono_l k
    · intro y0 y1 y2 y3 y4 y5
      unfold meta_Is.l0
      repeat' first
      | (with_reducible exact ih0 _ _ _ _ _ _)
      | (with_reducible exact LeO.refl _)
      | (with_reducible exact LeO.none _)
      | (with_reducible refine LeO.ite ?_ ?_)
      | (with_reducible refine LeO.bind ?_ (fun _ => ?_))
      | exact ih0 _ _ _ _ _ _
      | exact LeO.none _
      | refine LeO.ite ?_ ?_
      | refine LeO.bind ?_ (fun _ => ?_)
theorem meta_Is.mono : ∀ a0 a1 a2 k, LeO (meta_Is.f k a0 a1 a2) (meta_Is.f (k + 1) a0 a1 a2) := by
  intro a0 a1 a2 k
  have ih0 := meta_Is.mono_l k
  unfold meta_Is.f
  repeat' first
      | (with_reducible exact ih0 _ _ _ _ _ _)
      | (with_reducible exact LeO.refl _)
      | (with_reducible exact LeO.none _)
      | (with_reducible refine LeO.ite ?_ ?_)
      | (with_reducible refine LeO.bind ?_ (fun _ => ?_))
      | exact ih0 _ _ _ _ _ _
      | exact LeO.none _
      | refine LeO.ite ?_ ?_
      | refine LeO.bind ?_ (fun _ => ?_)
set_option maxHeartbeats 8000000 in
set_option maxRecDepth 100000 in
theorem meta_Is.calls (k : Nat) (a0_0 : Int) (a0_1 : Int) (A0_2 : Option Addr) (c0_2 : Nat) (l0_2 : List Int) (r : Bool) (w : World) (hr0_2 : Kd.C (Kd.int .i64) w A0_2 l0_2.length l0_2) (hc0_2 : l0_2.length ≤ c0_2) (h : meta_Is.f k a0_0 a0_1 l0_2 = some r) :
    Calls Try.prog 23 #[.agg #[.int .i64 a0_0, .int .i64 a0_1, .slice A0_2 l0_2.length c0_2]] w fun e w' => e = .returned (.bool r) ∧ Below w.heap.size w w' := by
  have hu24 := Try.underlying24
  have HR0_2 := Aside0.mk hr0_2
  have HC0_2 := Aside0.mk hc0_2
  clear hr0_2 hc0_2
  have HB := Aside0.mk (Below.refl w.heap.size w)
  have H : (meta_Is.l0 k l0_2 (l0_2.length : Int) 0 a0_0 a0_1 l0_2) = some r := h
  clear h
  have H' := Aside0.mk H
  clear H
  go_enter Try.func23, Try.ntmps23
  go_wp2_with (first | ((with_reducible refine gate_dst (N := 1) rfl ?_); (try (refine gate_guard (by rfl) ?_; dsimp only)); refine box_event ?hg (N := 1) ?hd (cs := #[.int .i64 a0_0, .int .i64 a0_1, .slice A0_2 l0_2.length c0_2]) (t := 24) ?hr ?_; (case hd => rfl); (case hg => rfl); (case hr => first | (go_simp; done) | (go_simp; rfl)); intro gb108 hg w2 hbox hb; have n0_ := Aside0.mk (below_step (by repeat (first | (with_reducible first | exact HB.out | apply below_alloc | apply pw_below_drewN | apply below_drew1) | exact HB.out)) hb); have n1_ := Aside0.mk (hbox); have n2_ := Aside0.mk ((by rw [hg]; exact (below_size (by repeat (first | (with_reducible first | exact HB.out | apply below_alloc | apply pw_below_drewN | apply below_drew1) | exact HB.out))) : w.heap.size ≤ gb108)); have n3_ := Aside0.mk ((by rw [hg]; exact (below_size (by repeat (first | (with_reducible first | exact HB.out | apply below_alloc | apply pw_below_drewN | apply below_drew1) | exact HB.out))) : w.heap.size ≤ gb108)); clear HB; have HB := n0_; have BK108 := n1_; have GW108 := n2_; have GE108 := n3_; clear n0_ n1_ n2_ n3_; clear hb hbox hg; have hcz3_0 : w2.cell? ⟨gb108, 0, none⟩ = some (.int .i64 a0_0) := (blk_cell BK108.out 0).trans rfl; have hcz3_1 : w2.cell? ⟨gb108, 1, none⟩ = some (.int .i64 a0_1) := (blk_cell BK108.out 1).trans rfl; have hcz3_2 : w2.cell? ⟨gb108, 2, none⟩ = some (.slice A0_2 l0_2.length c0_2) := (blk_cell BK108.out 2).trans rfl; have hfz3_0 := blk_frozen BK108.out 0; have hfz3_1 := blk_frozen BK108.out 1; have hfz3_2 := blk_frozen BK108.out 2))
  go_loopg [8] k (fun kq v8 w' => ∃ (x8_1 : Int), v8 = .int .i64 x8_1 ∧ Aside0 (meta_Is.l0 kq l0_2 (l0_2.length : Int) x8_1 a0_0 a0_1 l0_2 = some r) ∧ Aside0 (kq ≤ k) ∧ Aside0 (w'.heap[gb108]? = some (.cells #[.int .i64 a0_0, .int .i64 a0_1, (.slice A0_2 l0_2.length c0_2)] 24 (0, 0))) ∧ Aside0 (Below w.heap.size w w'))
  case atStart => exact ⟨(0), (by first | rfl | (simp; done) | (simp [*]; done)), H', ⟨Nat.le_refl _⟩, ⟨by (with_reducible repeat (first | refine blk_drewN ?_ _ | refine blk_drew ?_ | refine blk_alloc ?_ _)); exact BK108.out⟩, ⟨by repeat (first | (with_reducible first | exact HB.out | apply below_alloc | apply pw_below_drewN | apply below_drew1 | refine below_set ?_ GE108.out) | exact HB.out)⟩⟩
  case round =>
    clear H'
    try clear c2
    try clear p2
    try clear hcz3_0
    try clear hcz3_1
    try clear hcz3_2
    try clear hfz3_0
    try clear hfz3_1
    try clear hfz3_2
    obtain ⟨x8_1, rfl, HA, HK1, BK108, HB⟩ := hrel
    cases gk with
    | zero => exact absurd HA.out (by simp [meta_Is.l0])
    | succ k1 =>
      have H := HA.out
      clear HA
      simp only [meta_Is.l0] at H
      by_cases c4 : x8_1 < (l0_2.length : Int)
      · rw [if_pos c4] at H
        have c4b0 : decide (x8_1 < (l0_2.length : Int)) = true := decide_eq_true c4
        clear c4
        by_cases c5 : 0 ≤ x8_1
        · rw [if_pos c5] at H
          have c5b0 : decide (0 ≤ x8_1) = true := decide_eq_true c5
          clear c5
          by_cases c6 : x8_1 < (l0_2.length : Int)
          · rw [if_pos c6] at H
            have c6b0 : decide (x8_1 < (l0_2.length : Int)) = true := decide_eq_true c6
            clear c6
            replace H := Option.bind_eq_some_iff.mp H
            obtain ⟨t110, A70, H⟩ := H
            replace H : (if t110 = true then (meta_Is.l0 k1 l0_2 (l0_2.length : Int) (wrap64 (x8_1 + 1)) a0_0 a0_1 l0_2) else (some false)) = some r := H
            have A7 := Aside0.mk A70
            clear A70
            by_cases c8 : t110 = true
            · subst c8
              have H1 : (meta_Is.l0 k1 l0_2 (l0_2.length : Int) (wrap64 (x8_1 + 1)) a0_0 a0_1 l0_2) = some r := by rw [if_pos rfl] at H; exact H
              clear H
              have H := H1
              clear H1
              have H' := Aside0.mk H
              clear H
              have p109 : 0 ≤ (x8_1 : Int) := of_decide_eq_true (by first | (with_reducible assumption) | assumption)
              have q109 : x8_1 < (l0_2.length : Int) := of_decide_eq_true (by first | (with_reducible assumption) | assumption)
              obtain ⟨ad109, e109, hx109_0⟩ := Kd.at_int HR0_2.out x8_1 p109 q109
              cases e109
              replace hx109_0 := (HB.out.cell (World.block_lt_of_cell? w _ hx109_0)).trans hx109_0
              replace p109 := eq_true p109
              replace q109 := eq_true q109
              go_wp2_with (first | ((with_reducible refine gate_callee (f := 51) rfl ?_); refine goesL_ (some 13) rfl rfl Try.func51 (by kernel_rfl) rfl #[.int .i64 (rd l0_2 x8_1), .int .i64 4294967295] rfl (by (try simp only [List.map_toArray, List.map_cons, List.map_nil]); first | done | rfl | (simp only [List.length_drop, List.length_take]; rfl)) ?_; (with_reducible refine (meta_within.calls (rd l0_2 x8_1) 4294967295 true _ A7.out).mono ?_); rintro e w' ⟨rfl, ⟨nd, rfl⟩⟩; refine ⟨_, rfl, ?_⟩))
              go_roundg k1
              case measure => have := HK1.out; omega
              case rel => exact ⟨(wrap64 (x8_1 + 1)), (by first | rfl | (simp; done) | (simp [*]; done)), H', ⟨by have := HK1.out; omega⟩, ⟨by (with_reducible repeat (first | refine blk_drewN ?_ _ | refine blk_drew ?_ | refine blk_alloc ?_ _)); exact BK108.out⟩, ⟨by repeat (first | (with_reducible first | exact HB.out | apply below_alloc | apply pw_below_drewN | apply below_drew1 | refine below_set ?_ GE108.out) | exact HB.out)⟩⟩
            · replace c8 := Bool.eq_false_iff.mpr c8
              subst c8
              have H1 : (some false) = some r := by rw [if_neg (show ¬ (false = true) by decide)] at H; exact H
              clear H
              have H := H1
              clear H1
              obtain rfl := Option.some.inj H
              have p109 : 0 ≤ (x8_1 : Int) := of_decide_eq_true (by first | (with_reducible assumption) | assumption)
              have q109 : x8_1 < (l0_2.length : Int) := of_decide_eq_true (by first | (with_reducible assumption) | assumption)
              obtain ⟨ad109, e109, hx109_0⟩ := Kd.at_int HR0_2.out x8_1 p109 q109
              cases e109
              replace hx109_0 := (HB.out.cell (World.block_lt_of_cell? w _ hx109_0)).trans hx109_0
              replace p109 := eq_true p109
              replace q109 := eq_true q109
              go_wp2_with (first | ((with_reducible refine gate_callee (f := 51) rfl ?_); refine goesL_ (some 13) rfl rfl Try.func51 (by kernel_rfl) rfl #[.int .i64 (rd l0_2 x8_1), .int .i64 4294967295] rfl (by (try simp only [List.map_toArray, List.map_cons, List.map_nil]); first | done | rfl | (simp only [List.length_drop, List.length_take]; rfl)) ?_; (with_reducible refine (meta_within.calls (rd l0_2 x8_1) 4294967295 false _ A7.out).mono ?_); rintro e w' ⟨rfl, ⟨nd, rfl⟩⟩; refine ⟨_, rfl, ?_⟩))
              go_ret
              exact ⟨by first | rfl | (simp [errW_none, errW_some] <;> rfl) | (simp [*, errW_none, errW_some] <;> rfl), by repeat (first | (with_reducible first | exact HB.out | apply below_alloc | apply pw_below_drewN | apply below_drew1 | refine below_set ?_ GE108.out) | exact HB.out)⟩
          · rw [if_neg c6] at H
            exact absurd H (by simp)
        · rw [if_neg c5] at H
          exact absurd H (by simp)
      · rw [if_neg c4] at H
        have c4b0 : decide (x8_1 < (l0_2.length : Int)) = false := decide_eq_false c4
        clear c4
        replace H := Option.bind_eq_some_iff.mp H
        obtain ⟨t111, A90, H⟩ := H
        replace H : (if t111 = true then ((meta_within.f a0_1 4095).bind fun t112 => (if t112 = true then (some (decide ((l0_2.length : Int) ≤ 16))) else (some false))) else (some false)) = some r := H
        have A9 := Aside0.mk A90
        clear A90
        by_cases c10 : t111 = true
        · subst c10
          have H1 : ((meta_within.f a0_1 4095).bind fun t112 => (if t112 = true then (some (decide ((l0_2.length : Int) ≤ 16))) else (some false))) = some r := by rw [if_pos rfl] at H; exact H
          clear H
          have H := H1
          clear H1
          replace H := Option.bind_eq_some_iff.mp H
          obtain ⟨t112, A110, H⟩ := H
          replace H : (if t112 = true then (some (decide ((l0_2.length : Int) ≤ 16))) else (some false)) = some r := H
          have A11 := Aside0.mk A110
          clear A110
          by_cases c12 : t112 = true
          · subst c12
            have H1 : (some (decide ((l0_2.length : Int) ≤ 16))) = some r := by rw [if_pos rfl] at H; exact H
            clear H
            have H := H1
            clear H1
            obtain rfl := Option.some.inj H
            have hcz13_0 : wr.cell? ⟨gb108, 0, none⟩ = some (.int .i64 a0_0) := (blk_cell BK108.out 0).trans rfl
            have hcz13_1 : wr.cell? ⟨gb108, 1, none⟩ = some (.int .i64 a0_1) := (blk_cell BK108.out 1).trans rfl
            have hcz13_2 : wr.cell? ⟨gb108, 2, none⟩ = some (.slice A0_2 l0_2.length c0_2) := (blk_cell BK108.out 2).trans rfl
            have hfz13_0 := blk_frozen BK108.out 0
            have hfz13_1 := blk_frozen BK108.out 1
            have hfz13_2 := blk_frozen BK108.out 2
            go_wp2_with (first | ((with_reducible refine gate_callee (f := 51) rfl ?_); refine goesL_ (some 18) rfl rfl Try.func51 (by kernel_rfl) rfl #[.int .i64 a0_0, .int .i64 1000000000] rfl (by (try simp only [List.map_toArray, List.map_cons, List.map_nil]); first | done | rfl | (simp only [List.length_drop, List.length_take]; rfl)) ?_; (with_reducible refine (meta_within.calls a0_0 1000000000 true _ A9.out).mono ?_); rintro e w' ⟨rfl, ⟨nd, rfl⟩⟩; refine ⟨_, rfl, ?_⟩) | (go_at_call 51; (with_reducible refine (meta_within.calls a0_1 4095 true _ A11.out).mono ?_); rintro e w' ⟨rfl, ⟨nd, rfl⟩⟩))
            go_ret
            exact ⟨by first | rfl | (simp [errW_none, errW_some] <;> rfl) | (simp [*, errW_none, errW_some] <;> rfl), by repeat (first | (with_reducible first | exact HB.out | apply below_alloc | apply pw_below_drewN | apply below_drew1 | refine below_set ?_ GE108.out) | exact HB.out)⟩
          · replace c12 := Bool.eq_false_iff.mpr c12
            subst c12
            have H1 : (some false) = some r := by rw [if_neg (show ¬ (false = true) by decide)] at H; exact H
            clear H
            have H := H1
            clear H1
            obtain rfl := Option.some.inj H
            have hcz14_0 : wr.cell? ⟨gb108, 0, none⟩ = some (.int .i64 a0_0) := (blk_cell BK108.out 0).trans rfl
            have hcz14_1 : wr.cell? ⟨gb108, 1, none⟩ = some (.int .i64 a0_1) := (blk_cell BK108.out 1).trans rfl
            have hcz14_2 : wr.cell? ⟨gb108, 2, none⟩ = some (.slice A0_2 l0_2.length c0_2) := (blk_cell BK108.out 2).trans rfl
            have hfz14_0 := blk_frozen BK108.out 0
            have hfz14_1 := blk_frozen BK108.out 1
            have hfz14_2 := blk_frozen BK108.out 2
            go_wp2_with (first | ((with_reducible refine gate_callee (f := 51) rfl ?_); refine goesL_ (some 18) rfl rfl Try.func51 (by kernel_rfl) rfl #[.int .i64 a0_0, .int .i64 1000000000] rfl (by (try simp only [List.map_toArray, List.map_cons, List.map_nil]); first | done | rfl | (simp only [List.length_drop, List.length_take]; rfl)) ?_; (with_reducible refine (meta_within.calls a0_0 1000000000 true _ A9.out).mono ?_); rintro e w' ⟨rfl, ⟨nd, rfl⟩⟩; refine ⟨_, rfl, ?_⟩) | (go_at_call 51; (with_reducible refine (meta_within.calls a0_1 4095 false _ A11.out).mono ?_); rintro e w' ⟨rfl, ⟨nd, rfl⟩⟩))
            go_ret
            exact ⟨by first | rfl | (simp [errW_none, errW_some] <;> rfl) | (simp [*, errW_none, errW_some] <;> rfl), by repeat (first | (with_reducible first | exact HB.out | apply below_alloc | apply pw_below_drewN | apply below_drew1 | refine below_set ?_ GE108.out) | exact HB.out)⟩
        · replace c10 := Bool.eq_false_iff.mpr c10
          subst c10
          have H1 : (some false) = some r := by rw [if_neg (show ¬ (false = true) by decide)] at H; exact H
          clear H
          have H := H1
          clear H1
          obtain rfl := Option.some.inj H
          have hcz15_0 : wr.cell? ⟨gb108, 0, none⟩ = some (.int .i64 a0_0) := (blk_cell BK108.out 0).trans rfl
          have hcz15_1 : wr.cell? ⟨gb108, 1, none⟩ = some (.int .i64 a0_1) := (blk_cell BK108.out 1).trans rfl
          have hcz15_2 : wr.cell? ⟨gb108, 2, none⟩ = some (.slice A0_2 l0_2.length c0_2) := (blk_cell BK108.out 2).trans rfl
          have hfz15_0 := blk_frozen BK108.out 0
          have hfz15_1 := blk_frozen BK108.out 1
          have hfz15_2 := blk_frozen BK108.out 2
          go_wp2_with (first | ((with_reducible refine gate_callee (f := 51) rfl ?_); refine goesL_ (some 18) rfl rfl Try.func51 (by kernel_rfl) rfl #[.int .i64 a0_0, .int .i64 1000000000] rfl (by (try simp only [List.map_toArray, List.map_cons, List.map_nil]); first | done | rfl | (simp only [List.length_drop, List.length_take]; rfl)) ?_; (with_reducible refine (meta_within.calls a0_0 1000000000 false _ A9.out).mono ?_); rintro e w' ⟨rfl, ⟨nd, rfl⟩⟩; refine ⟨_, rfl, ?_⟩))
          go_ret
          exact ⟨by first | rfl | (simp [errW_none, errW_some] <;> rfl) | (simp [*, errW_none, errW_some] <;> rfl), by repeat (first | (with_reducible first | exact HB.out | apply below_alloc | apply pw_below_drewN | apply below_drew1 | refine below_set ?_ GE108.out) | exact HB.out)⟩

end Go.Proofs.Ytfdpebipnapelaa.P
/-
  meta.Put, by hand.
-/
namespace Go.Proofs.Ytfdpebipnapelaa.P
open Go.RowKit Go.Shelf Go.Proofs Go.Proofs.CodecPlain Go.Proofs.YtfdpebipnapelaaW.PrintWords Go.Proofs.YtfdpebipnapelaaW.PrintLast

def inM (n most : Int) : Bool := decide (0 ≤ n) && decide (n ≤ most)
/-- Whether a meta may be. -/
def metaB (a b : Int) (l : List Int) : Bool := l.all (fun n => inM n 4294967295) && (inM a 1000000000 && inM b 4095 && decide (l.length ≤ 16))
theorem within_m (n most : Int) : meta_within.f n most = some (inM n most) := by
  unfold meta_within.f inM
  by_cases h : n ≥ 0 <;> simp [h] <;> omega
theorem meta_is_l (a b : Int) (l : List Int) (hl : l.length ≤ 9223372036854775807) (d : Nat) : ∀ (k i : Nat), i + d = l.length → d < k → meta_Is.l0 k l (l.length : Int) (i : Int) a b l = some ((l.drop i).all (fun n => inM n 4294967295) && (inM a 1000000000 && inM b 4095 && decide (l.length ≤ 16))) := by
  induction d with
  | zero =>
    intro k i hi hk
    obtain ⟨k, rfl⟩ : ∃ m, k = m + 1 := ⟨k - 1, by omega⟩
    simp only [meta_Is.l0, within_m, Option.bind_some]
    rw [if_neg (by omega), List.drop_of_length_le (by omega)]
    cases inM a 1000000000 <;> cases inM b 4095 <;> simp <;> omega
  | succ d ih =>
    intro k i hi hk
    obtain ⟨k, rfl⟩ : ∃ m, k = m + 1 := ⟨k - 1, by omega⟩
    have hlt : i < l.length := by omega
    have hw : wrap64 ((i : Int) + 1) = ((i + 1 : Nat) : Int) := by unfold wrap64; omega
    simp only [meta_Is.l0, within_m, Option.bind_some]
    rw [if_pos (by omega), if_pos (by omega), if_pos (by omega), hw, ih k (i + 1) (by omega) (by omega)]
    rw [show l.drop i = l[i] :: l.drop (i + 1) from List.drop_eq_getElem_cons hlt]
    have hr : rd l (i : Int) = l[i] := by simp [rd, List.getD_eq_getElem?_getD, hlt]
    rw [hr, List.all_cons]
    cases inM l[i] 4294967295 <;> simp
theorem meta_is_f (k : Nat) (a b : Int) (l : List Int) (hl : l.length ≤ 9223372036854775807) (hk : l.length < k) : meta_Is.f k a b l = some (metaB a b l) := by
  unfold meta_Is.f metaB
  exact meta_is_l a b l hl l.length k 0 (by omega) hk
/-- A meta's bytes. -/
def metaStr (a b : Int) (l : List Int) : ByteArray := catStr (([a, b, (l.length : Int)] ++ l).map numStr)
/-- What meta.Put answers. -/
def meta_Put.f (a b : Int) (l : List Int) : Option (ByteArray × Int) := if metaB a b l = true then some (metaStr a b l, 0) else some (⟨#[]⟩, 1)
theorem metaB_bd {a b : Int} {l : List Int} (h : metaB a b l = true) : l.length ≤ 16 ∧ ∀ n ∈ [a, b, (l.length : Int)] ++ l, 0 ≤ n ∧ n ≤ 4294967295 := by
  unfold metaB inM at h
  simp only [Bool.and_eq_true, decide_eq_true_eq, List.all_eq_true] at h
  obtain ⟨h1, ⟨h2, h3⟩, h4⟩ := h
  refine ⟨h4, fun n hn => ?_⟩
  rcases List.mem_append.1 hn with hn | hn
  · simp only [List.mem_cons, List.not_mem_nil, or_false] at hn
    rcases hn with rfl | rfl | rfl <;> omega
  · exact h1 n hn

set_option maxHeartbeats 4000000 in
theorem meta_Put_no (a b : Int) (A : Option Addr) (c : Nat) (l : List Int) (w : World) (hr : Kd.C (Kd.int .i64) w A l.length l) (hc : l.length ≤ c) (hm : l.length ≤ 9223372036854775807) (h : metaB a b l = false) :
    Calls Try.prog 14 #[.agg #[.int .i64 a, .int .i64 b, .slice A l.length c]] w fun e w' => e = .returned (.tuple #[.string ⟨#[]⟩, .int .i64 1]) ∧ Below w.heap.size w w' := by
  have HB0 := Aside0.mk ((Below.refl w.heap.size w).alloc (Nat.le_refl _) (.cells #[.int .i64 a, .int .i64 b, .slice A l.length c] 24))
  have HI := Aside0.mk (meta_Is.calls (l.length + 1) a b A c l false _ (Kd.C_below hr HB0.out) hc (by rw [meta_is_f _ _ _ _ hm (by omega), h]))
  clear hr h
  go_enter Try.func14, Try.ntmps14
  go_wp2_with (first | (go_at_call 23; (with_reducible refine HI.out.mono ?_); rintro e w1 ⟨rfl, hb1⟩; have HB1 := Aside0.mk (HB0.out.trans (hb1.mono HB0.out.size)); clear hb1))
  go_ret2
  exact ⟨rfl, HB1.out⟩
set_option maxHeartbeats 8000000 in
set_option maxRecDepth 100000 in
theorem meta_Put_yes (a b : Int) (A : Option Addr) (c : Nat) (l : List Int) (w : World) (hr : Kd.C (Kd.int .i64) w A l.length l) (hc : l.length ≤ c) (hm : l.length ≤ 9223372036854775807) (h : metaB a b l = true) :
    Calls Try.prog 14 #[.agg #[.int .i64 a, .int .i64 b, .slice A l.length c]] w fun e w' => e = .returned (.tuple #[.string (metaStr a b l), .int .i64 0]) ∧ Below w.heap.size w w' := by
  obtain ⟨hl16, hbd⟩ := metaB_bd h
  have HBd := Aside0.mk hbd
  have HB0 := Aside0.mk ((Below.refl w.heap.size w).alloc (Nat.le_refl _) (.cells #[.int .i64 a, .int .i64 b, .slice A l.length c] 24))
  have HE0 := Aside0.mk (blk_new w (.cells #[.int .i64 a, .int .i64 b, .slice A l.length c] 24))
  have HI := Aside0.mk (meta_Is.calls (l.length + 1) a b A c l true _ (Kd.C_below hr HB0.out) hc (by rw [meta_is_f _ _ _ _ hm (by omega), h]))
  have HR := Aside0.mk hr
  obtain ⟨y, hy⟩ : ∃ y : List Int, y = [a, b, (l.length : Int)] := ⟨_, rfl⟩
  have Hy := Aside0.mk hy
  have HyL : Aside0 (y.length = 3) := ⟨by rw [hy]; rfl⟩
  obtain ⟨ys, hys⟩ : ∃ ys : List Int, ys = y ++ l := ⟨_, rfl⟩
  have HYL : Aside0 (ys.length = l.length + 3) := ⟨by rw [hys, List.length_append, HyL.out]; omega⟩
  have HYB : Aside0 (∀ n ∈ ys, 0 ≤ n ∧ n ≤ 4294967295) := ⟨by rw [hys, Hy.out]; exact HBd.out⟩
  have HYM : Aside0 (metaStr a b l = catStr (ys.map numStr)) := ⟨by rw [hys, Hy.out]; rfl⟩
  have Hys := Aside0.mk hys
  clear hr h hbd hy hys
  go_enter Try.func14, Try.ntmps14
  go_wp2_with (first | (go_at_call 23; (with_reducible refine HI.out.mono ?_); rintro e w1 ⟨rfl, hb1⟩; have HB1 := Aside0.mk (HB0.out.trans (hb1.mono HB0.out.size)); have HE1 := Aside0.mk (blk_below HE0.out hb1); clear hb1; have HBl1 := Aside0.mk (blk_new w1 (.cells #[.pointer none, .slice none 0 0] 61)); have HB2 := Aside0.mk (HB1.out.alloc HB1.out.size (.cells #[.pointer none, .slice none 0 0] 61)); have HE2 := Aside0.mk (blk_alloc HE1.out (.cells #[.pointer none, .slice none 0 0] 61)); have d0 := blk_cell HE2.out 0; have d1 := blk_cell HE2.out 1; have d2 := blk_cell HE2.out 2) | ((with_reducible refine gate_dst (N := 19) rfl ?_); refine Kd.R_lit (Kd.int .i64) _ 3 ?hg (N := 19) ?hd (xs := ([a, b, (l.length : Int)] : List Int)) (inner := [.int .i64 a, .int .i64 b, .int .i64 (l.length : Int)]) (ok := fun _ => True) (okp := fun _ => True) ?hr ?hp (fun _ hk => hk) trivial (Below.refl _ _) (Nat.le_refl _) (by simp) ?_; (case hd => rfl); (case hg => rfl); (case hr => first | (go_simp; done) | (go_simp; rfl)); (case hp => exact (Reps.one (show Kd.M (Kd.int .i64) _ _ _ a [.int .i64 a] from rfl) (Reps.one (show Kd.M (Kd.int .i64) _ _ _ b [.int .i64 b] from rfl) (Reps.one (show Kd.M (Kd.int .i64) _ _ _ (l.length : Int) [.int .i64 (l.length : Int)] from rfl) (Reps.none _ _))))); intro v3 w3 ho3 hb3 hg_ hnew_; clear hg_ hnew_; rw [← Hy.out] at ho3; have HO3 := Aside0.mk (Kd.R_lower ho3 HB2.out.size); have HE3 := Aside0.mk (blk_below HE2.out hb3); have HBl3 := Aside0.mk (blk_below HBl1.out hb3); have HB3 := Aside0.mk (HB2.out.trans (hb3.mono HB2.out.size)); clear ho3 hb3; have q2 := blk_cell HE3.out 2) | ((with_reducible refine gate_builtin (b := .append) (xs := #[.tmp 19, .tmp 21]) rfl ?_); at_builtin; refine Kd.R_append_rows (Kd.int .i64) (w0 := w) w.heap.size rfl (.tmp 19) (.tmp 21) 22 3 (.int .i64 0) 8 rfl Try.underlying22 info3 rfl (by decide) (by omega) v3 y l _ _ _ (fun _ => True) (fun _ => False) rfl rfl ?aO ?aR (fun _ _ h => h) (fun _ h => h.elim) ?aF ?aB ?aS ?aL ?_; (case aR => exact (Kd.C_below HR.out HB3.out)); (case aB => exact HB3.out); (case aF => exact (fun _ _ => trivial)); (case aO => exact HO3.out); (case aS => exact HB3.out.size); (case aL => rw [HyL.out]; omega); intro v4 w4 ho hb hg hat; rw [← Hys.out] at ho; obtain ⟨A4, c4, rfl⟩ := Kd.R_slice ho; have HO4 := Aside0.mk ho; have HB4 := Aside0.mk hb; have HBl4 := Aside0.mk (blk_grown HBl3.out hg (Kd.R_ne HO3.out HBl3.out (by decide))); clear ho hb hg hat))
  have hle : w.heap.size ≤ w1.heap.size := HB1.out.size
  have hylen : ys.length ≤ 19 := by have := HYL.out; omega
  have hbl0 : Aside0 (Lib.IsBuilder 61 5 w.heap.size w1.heap.size (Lib.byteCells (catStr ((ys.take 0).map numStr)).data.toList) w4) := ⟨.inl ⟨hle, .slice none 0 0, HBl4.out, World.ownsRow_nil _ _ _ _, by simp [Value.ownBlock]⟩⟩
  clear Hys HBl4 HBl3 HBl1 HO3 HI HE0 HE1 HE2 HE3 HB0 HB1 HB2 HB3 HBd Hy HyL d0 d1 d2 q2
  go_loopw [6, 7, 8, 24] (fun _ _ _ i wr => ∃ k : Nat, k ≤ ys.length ∧ i = .int .i64 k ∧ Aside0 (Lib.IsBuilder 61 5 w.heap.size w1.heap.size (Lib.byteCells (catStr ((ys.take k).map numStr)).data.toList) wr) ∧ Aside0 (Kd.R (Kd.int .i64) 3 wr w.heap.size (fun _ => True) (.slice A4 ys.length c4) ys) ∧ Aside0 (Below w.heap.size w wr))
    (fun _ _ _ i _ => ys.length - (intOf i).toNat)
  case atStart => exact ⟨0, Nat.zero_le _, rfl, hbl0, HO4, HB4⟩
  case round =>
    clear hbl0 HO4 HB4
    obtain ⟨k, hk, rfl, hbl, HO, HB⟩ := hrel
    by_cases hlt : k < ys.length
    · obtain ⟨ad, had, hx⟩ := Kd.at_int (Kd.R_reads' HO.out).2.2 (k : Int) (by omega) (by omega)
      cases had
      have hrd : rd ys (k : Int) = ys[k] := by simp [rd, List.getD_eq_getElem?_getD, hlt]
      rw [hrd, Int.toNat_natCast] at hx
      clear hrd
      obtain ⟨x, hxk⟩ : ∃ x, x = ys[k] := ⟨_, rfl⟩
      rw [← hxk] at hx
      have hxb : 0 ≤ x ∧ x ≤ 4294967295 := by rw [hxk]; exact HYB.out _ (List.getElem_mem hlt)
      have HN := Aside0.mk (fun W => codec_Number.calls x (numStr x) 0 W (by unfold codec_Number.f; rw [if_pos hxb]))
      have hnx : Aside0 (catStr ((ys.take (k + 1)).map numStr) = catStr ((ys.take k).map numStr) ++ numStr x) := ⟨by
        rw [List.take_succ_eq_append_getElem hlt, ← hxk, cat_snoc_num]⟩
      have hlen : Aside0 ((catStr ((ys.take k).map numStr)).data.toList.length + (numStr x).size ≤ 140737488355328) := ⟨by
        have h1 := cat_size_num (ys.take k)
        have h2 := numStr_size x
        rw [List.length_take] at h1
        rw [Array.length_toList]
        show (catStr ((ys.take k).map numStr)).size + _ ≤ _
        omega⟩
      clear hxk hxb
      go_wp2_with (first | (go_at_call 43; (with_reducible refine (HN.out _).mono ?_); rintro e w5 ⟨rfl, hb5⟩; have hbl5 := Aside0.mk (isBldF_below hbl.out hb5); have HO5 := Aside0.mk (Kd.R_below HO.out hb5); have HB5 := Aside0.mk (HB.out.trans (hb5.mono HB.out.size)); clear hb5) | (go_at_call 44; (refine (bld_write_far w.heap.size w1.heap.size _ (numStr x) _ hbl5.out hlen.out HB5.out.size).mono ?_); rintro e w6 ⟨rfl, hbw6, hB6, hF6⟩; have HO6 := Aside0.mk (hF6.out.R HO5.out (by intro q hq; simp [Kd.int, Kd.scalar] at hq; subst hq; decide)); have HB6 := Aside0.mk (HB5.out.trans hB6.out); clear hF6 hB6))
      go_roundw
      case measure => simp [intOf]; omega
      case rel =>
        refine ⟨k + 1, by omega, by go_num, ⟨?_⟩, HO6, HB6⟩
        have h5 := hbw6.out
        rw [show (catStr ((ys.take k).map numStr)).data.toList ++ (numStr x).data.toList = (catStr ((ys.take k).map numStr) ++ numStr x).data.toList from (by rw [ByteArray.toList_data_append]), ← hnx.out] at h5
        exact h5
    · obtain rfl : k = ys.length := by omega
      have hfin : Aside0 ((⟨(catStr ((ys.take ys.length).map numStr)).data.toList.toArray⟩ : ByteArray) = metaStr a b l) := ⟨by rw [HYM.out, List.take_length]⟩
      clear hlt
      go_wp2_with (first | (go_at_call 45; (refine (Try.Builder_String_any w.heap.size w1.heap.size _ _ hbl.out HB.out.size).mono ?_); rintro e w6 ⟨rfl, hb6⟩; have HB6 := Aside0.mk (HB.out.trans hb6); clear hb6))
      go_ret2
      exact ⟨by show Ending.returned (.tuple #[.string (catStr (List.map numStr ys)), .int .i64 0]) = _; rw [HYM.out], HB6.out⟩
theorem meta_Put.calls (a0_0 a0_1 : Int) (A0_2 : Option Addr) (c0_2 : Nat) (l0_2 : List Int) (r1 : ByteArray) (r2 : Int) (w : World) (hr0_2 : Kd.C (Kd.int .i64) w A0_2 l0_2.length l0_2) (hc0_2 : l0_2.length ≤ c0_2) (h : meta_Put.f a0_0 a0_1 l0_2 = some (r1, r2)) :
    Calls Try.prog 14 #[.agg #[.int .i64 a0_0, .int .i64 a0_1, .slice A0_2 l0_2.length c0_2]] w fun e w' => e = .returned (.tuple #[.string r1, .int .i64 r2]) ∧ Below w.heap.size w w' := by
  unfold meta_Put.f at h
  have hm : l0_2.length ≤ 9223372036854775807 := by exact hr0_2.2.1
  cases hb : metaB a0_0 a0_1 l0_2
  · rw [hb, if_neg (by decide)] at h
    simp only [Option.some.injEq, Prod.mk.injEq] at h
    obtain ⟨rfl, rfl⟩ := h
    exact meta_Put_no _ _ A0_2 c0_2 l0_2 w hr0_2 hc0_2 hm hb
  · rw [hb, if_pos rfl] at h
    simp only [Option.some.injEq, Prod.mk.injEq] at h
    obtain ⟨rfl, rfl⟩ := h
    exact meta_Put_yes _ _ A0_2 c0_2 l0_2 w hr0_2 hc0_2 hm hb
end Go.Proofs.Ytfdpebipnapelaa.P
-- Written by a program of this session (xprint.py) over the kit's print.py.
namespace Go.Proofs.Ytfdpebipnapelaa.P
open Go.RowKit Go.Proofs.YtfdpebipnapelaaW.PrintWords Go.Proofs.YtfdpebipnapelaaW.PrintLast Go.Proofs.YtfdpebipnapelaaW.PrintMore
attribute [local go_sem] max2_int min2_int max_two min_two max_three min_three max_four min_four   -- for this text's walks alone
set_option linter.unusedVariables false
set_option linter.unusedSimpArgs false

/-! ### meta_Value: function 18 -/
def meta_Value.f (a0_0 : Int) (a0_1 : Int) (l0_2 : List Int) (a1 : Bool) : Option (ByteArray × Int) := if a1 = true then (some ((⟨#[0]⟩ : ByteArray), 0)) else ((meta_Put.f a0_0 a0_1 l0_2).bind fun bt142 => (if bt142.2 = 0 then (if 1 + bt142.1.size ≤ 9223372036854775807 then (some ((⟨#[1]⟩ : ByteArray) ++ bt142.1, 0)) else (none)) else (some ((⟨#[]⟩ : ByteArray), bt142.2))))
set_option maxHeartbeats 8000000 in
set_option maxRecDepth 100000 in
theorem meta_Value.calls (a0_0 : Int) (a0_1 : Int) (A0_2 : Option Addr) (c0_2 : Nat) (l0_2 : List Int) (a1 : Bool) (r1 : ByteArray) (r2 : Int) (w : World) (hr0_2 : Kd.C (Kd.int .i64) w A0_2 l0_2.length l0_2) (hc0_2 : l0_2.length ≤ c0_2) (h : meta_Value.f a0_0 a0_1 l0_2 a1 = some (r1, r2)) :
    Calls Try.prog 18 #[.agg #[.int .i64 a0_0, .int .i64 a0_1, .slice A0_2 l0_2.length c0_2], .bool a1] w fun e w' => e = .returned (.tuple #[.string r1, .int .i64 r2]) ∧ Below w.heap.size w w' := by
  have hu24 := Try.underlying24
  have HR0_2 := Aside0.mk hr0_2
  have HC0_2 := Aside0.mk hc0_2
  clear hr0_2 hc0_2
  have HB := Aside0.mk (Below.refl w.heap.size w)
  have H : (if a1 = true then (some ((⟨#[0]⟩ : ByteArray), 0)) else ((meta_Put.f a0_0 a0_1 l0_2).bind fun bt142 => (if bt142.2 = 0 then (if 1 + bt142.1.size ≤ 9223372036854775807 then (some ((⟨#[1]⟩ : ByteArray) ++ bt142.1, 0)) else (none)) else (some ((⟨#[]⟩ : ByteArray), bt142.2))))) = some (r1, r2) := h
  clear h
  by_cases c3 : a1 = true
  · subst c3
    have H1 : (some ((⟨#[0]⟩ : ByteArray), 0)) = some (r1, r2) := by rw [if_pos rfl] at H; exact H
    clear H
    have H := H1
    clear H1
    simp only [Option.some.injEq, Prod.mk.injEq] at H
    obtain ⟨rfl, rfl⟩ := H
    go_enter Try.func18, Try.ntmps18
    go_wp2_with (first | ((with_reducible refine gate_dst (N := 2) rfl ?_); refine box_event ?hg (N := 2) ?hd (cs := #[.int .i64 a0_0, .int .i64 a0_1, .slice A0_2 l0_2.length c0_2]) (t := 24) ?hr ?_; (case hd => rfl); (case hg => rfl); (case hr => first | (go_simp; done) | (go_simp; rfl)); intro gb141 hg w4 hbox hb; have n0_ := Aside0.mk (below_step (by repeat (first | (with_reducible first | exact HB.out | apply below_alloc | apply pw_below_drewN | apply below_drew1) | exact HB.out)) hb); have n1_ := Aside0.mk (hbox); have n2_ := Aside0.mk ((by rw [hg]; exact (below_size (by repeat (first | (with_reducible first | exact HB.out | apply below_alloc | apply pw_below_drewN | apply below_drew1) | exact HB.out))) : w.heap.size ≤ gb141)); have n3_ := Aside0.mk ((by rw [hg]; exact (below_size (by repeat (first | (with_reducible first | exact HB.out | apply below_alloc | apply pw_below_drewN | apply below_drew1) | exact HB.out))) : w.heap.size ≤ gb141)); clear HB; have HB := n0_; have BK141 := n1_; have GW141 := n2_; have GE141 := n3_; clear n0_ n1_ n2_ n3_; clear hb hbox hg))
    go_ret2
    exact ⟨by first | rfl | (simp [errW_none, errW_some] <;> rfl) | (simp [*, errW_none, errW_some] <;> rfl), by repeat (first | (with_reducible first | exact HB.out | apply below_alloc | apply pw_below_drewN | apply below_drew1 | refine below_set ?_ GE141.out) | exact HB.out)⟩
  · replace c3 := Bool.eq_false_iff.mpr c3
    subst c3
    have H1 : ((meta_Put.f a0_0 a0_1 l0_2).bind fun bt142 => (if bt142.2 = 0 then (if 1 + bt142.1.size ≤ 9223372036854775807 then (some ((⟨#[1]⟩ : ByteArray) ++ bt142.1, 0)) else (none)) else (some ((⟨#[]⟩ : ByteArray), bt142.2)))) = some (r1, r2) := by rw [if_neg (show ¬ (false = true) by decide)] at H; exact H
    clear H
    have H := H1
    clear H1
    replace H := Option.bind_eq_some_iff.mp H
    obtain ⟨⟨t142, t143⟩, A50, H⟩ := H
    replace H : (if t143 = 0 then (if 1 + t142.size ≤ 9223372036854775807 then (some ((⟨#[1]⟩ : ByteArray) ++ t142, 0)) else (none)) else (some ((⟨#[]⟩ : ByteArray), t143))) = some (r1, r2) := H
    have A5 := Aside0.mk A50
    clear A50
    by_cases c6 : t143 = 0
    · rw [if_pos c6] at H
      have c6b0 : (t143 == 0) = true := beq_iff_eq.mpr c6
      have c6b1 : (t143 != 0) = false := bne_eq_false_iff_eq.mpr c6
      clear c6
      by_cases c7 : 1 + t142.size ≤ 9223372036854775807
      · rw [if_pos c7] at H
        have c7b0 := eq_true c7
        have c7b1 : decide (1 + t142.size ≤ 9223372036854775807) = true := decide_eq_true c7
        try have c7b2 : (9223372036854775807 < 1 + t142.size) = False := eq_false (Nat.not_lt.2 c7)
        simp only [Option.some.injEq, Prod.mk.injEq] at H
        obtain ⟨rfl, rfl⟩ := H
        go_enter Try.func18, Try.ntmps18
        go_wp2_with (first | ((with_reducible refine gate_dst (N := 2) rfl ?_); refine box_event ?hg (N := 2) ?hd (cs := #[.int .i64 a0_0, .int .i64 a0_1, .slice A0_2 l0_2.length c0_2]) (t := 24) ?hr ?_; (case hd => rfl); (case hg => rfl); (case hr => first | (go_simp; done) | (go_simp; rfl)); intro gb141 hg w8 hbox hb; have n0_ := Aside0.mk (below_step (by repeat (first | (with_reducible first | exact HB.out | apply below_alloc | apply pw_below_drewN | apply below_drew1) | exact HB.out)) hb); have n1_ := Aside0.mk (hbox); have n2_ := Aside0.mk ((by rw [hg]; exact (below_size (by repeat (first | (with_reducible first | exact HB.out | apply below_alloc | apply pw_below_drewN | apply below_drew1) | exact HB.out))) : w.heap.size ≤ gb141)); have n3_ := Aside0.mk ((by rw [hg]; exact (below_size (by repeat (first | (with_reducible first | exact HB.out | apply below_alloc | apply pw_below_drewN | apply below_drew1) | exact HB.out))) : w.heap.size ≤ gb141)); clear HB; have HB := n0_; have BK141 := n1_; have GW141 := n2_; have GE141 := n3_; clear n0_ n1_ n2_ n3_; clear hb hbox hg; have hcz9_0 : w8.cell? ⟨gb141, 0, none⟩ = some (.int .i64 a0_0) := (blk_cell BK141.out 0).trans rfl; have hcz9_1 : w8.cell? ⟨gb141, 1, none⟩ = some (.int .i64 a0_1) := (blk_cell BK141.out 1).trans rfl; have hcz9_2 : w8.cell? ⟨gb141, 2, none⟩ = some (.slice A0_2 l0_2.length c0_2) := (blk_cell BK141.out 2).trans rfl; have hfz9_0 := blk_frozen BK141.out 0; have hfz9_1 := blk_frozen BK141.out 1; have hfz9_2 := blk_frozen BK141.out 2) | ((with_reducible refine gate_callee (f := 14) rfl ?_); refine goesL_ (some 11) rfl rfl Try.func14 (by kernel_rfl) rfl #[.agg #[.int .i64 a0_0, .int .i64 a0_1, .slice A0_2 l0_2.length c0_2]] rfl (by (try simp only [List.map_toArray, List.map_cons, List.map_nil]); first | done | rfl | (simp only [List.length_drop, List.length_take]; rfl)) ?_; (with_reducible refine (meta_Put.calls a0_0 a0_1 _ _ l0_2 t142 t143 _ ?side1 ?side2 A5.out).mono ?_); (case side1 => repeat (first | exact (Kd.C_below HR0_2.out HB.out) | (with_reducible refine Kd.C_alloc ?_ _) | (with_reducible refine Kd.C_drewN ?_ _) | (with_reducible refine Kd.C_drew ?_))); (case side2 => exact HC0_2.out); rintro e w10 ⟨rfl, hb⟩; refine ⟨_, rfl, ?_⟩; have n0_ := Aside0.mk (blk_below (g := gb141) (o := .cells #[.int .i64 a0_0, .int .i64 a0_1, .slice A0_2 l0_2.length c0_2] 24 (0, 0)) (by (with_reducible repeat (first | refine blk_drewN ?_ _ | refine blk_drew ?_ | refine blk_alloc ?_ _)); exact BK141.out) hb); have n1_ := Aside0.mk (below_step (by repeat (first | (with_reducible first | exact HB.out | apply below_alloc | apply pw_below_drewN | apply below_drew1 | refine below_set ?_ GE141.out) | exact HB.out)) hb); clear BK141; clear HB; have BK141 := n0_; have HB := n1_; clear n0_ n1_; (try clear hb); (try clear hb2); (try clear hk); (try clear hi)))
        go_ret2
        exact ⟨by first | rfl | (simp [errW_none, errW_some] <;> rfl) | (simp [*, errW_none, errW_some] <;> rfl), by repeat (first | (with_reducible first | exact HB.out | apply below_alloc | apply pw_below_drewN | apply below_drew1 | refine below_set ?_ GE141.out) | exact HB.out)⟩
      · rw [if_neg c7] at H
        exact absurd H (by simp)
    · rw [if_neg c6] at H
      have c6b0 : (t143 == 0) = false := beq_eq_false_iff_ne.mpr c6
      have c6b1 : (t143 != 0) = true := bne_iff_ne.mpr c6
      simp only [Option.some.injEq, Prod.mk.injEq] at H
      obtain ⟨rfl, rfl⟩ := H
      go_enter Try.func18, Try.ntmps18
      go_wp2_with (first | ((with_reducible refine gate_dst (N := 2) rfl ?_); refine box_event ?hg (N := 2) ?hd (cs := #[.int .i64 a0_0, .int .i64 a0_1, .slice A0_2 l0_2.length c0_2]) (t := 24) ?hr ?_; (case hd => rfl); (case hg => rfl); (case hr => first | (go_simp; done) | (go_simp; rfl)); intro gb141 hg w11 hbox hb; have n0_ := Aside0.mk (below_step (by repeat (first | (with_reducible first | exact HB.out | apply below_alloc | apply pw_below_drewN | apply below_drew1) | exact HB.out)) hb); have n1_ := Aside0.mk (hbox); have n2_ := Aside0.mk ((by rw [hg]; exact (below_size (by repeat (first | (with_reducible first | exact HB.out | apply below_alloc | apply pw_below_drewN | apply below_drew1) | exact HB.out))) : w.heap.size ≤ gb141)); have n3_ := Aside0.mk ((by rw [hg]; exact (below_size (by repeat (first | (with_reducible first | exact HB.out | apply below_alloc | apply pw_below_drewN | apply below_drew1) | exact HB.out))) : w.heap.size ≤ gb141)); clear HB; have HB := n0_; have BK141 := n1_; have GW141 := n2_; have GE141 := n3_; clear n0_ n1_ n2_ n3_; clear hb hbox hg; have hcz12_0 : w11.cell? ⟨gb141, 0, none⟩ = some (.int .i64 a0_0) := (blk_cell BK141.out 0).trans rfl; have hcz12_1 : w11.cell? ⟨gb141, 1, none⟩ = some (.int .i64 a0_1) := (blk_cell BK141.out 1).trans rfl; have hcz12_2 : w11.cell? ⟨gb141, 2, none⟩ = some (.slice A0_2 l0_2.length c0_2) := (blk_cell BK141.out 2).trans rfl; have hfz12_0 := blk_frozen BK141.out 0; have hfz12_1 := blk_frozen BK141.out 1; have hfz12_2 := blk_frozen BK141.out 2) | ((with_reducible refine gate_callee (f := 14) rfl ?_); refine goesL_ (some 11) rfl rfl Try.func14 (by kernel_rfl) rfl #[.agg #[.int .i64 a0_0, .int .i64 a0_1, .slice A0_2 l0_2.length c0_2]] rfl (by (try simp only [List.map_toArray, List.map_cons, List.map_nil]); first | done | rfl | (simp only [List.length_drop, List.length_take]; rfl)) ?_; (with_reducible refine (meta_Put.calls a0_0 a0_1 _ _ l0_2 t142 t143 _ ?side1 ?side2 A5.out).mono ?_); (case side1 => repeat (first | exact (Kd.C_below HR0_2.out HB.out) | (with_reducible refine Kd.C_alloc ?_ _) | (with_reducible refine Kd.C_drewN ?_ _) | (with_reducible refine Kd.C_drew ?_))); (case side2 => exact HC0_2.out); rintro e w13 ⟨rfl, hb⟩; refine ⟨_, rfl, ?_⟩; have n0_ := Aside0.mk (blk_below (g := gb141) (o := .cells #[.int .i64 a0_0, .int .i64 a0_1, .slice A0_2 l0_2.length c0_2] 24 (0, 0)) (by (with_reducible repeat (first | refine blk_drewN ?_ _ | refine blk_drew ?_ | refine blk_alloc ?_ _)); exact BK141.out) hb); have n1_ := Aside0.mk (below_step (by repeat (first | (with_reducible first | exact HB.out | apply below_alloc | apply pw_below_drewN | apply below_drew1 | refine below_set ?_ GE141.out) | exact HB.out)) hb); clear BK141; clear HB; have BK141 := n0_; have HB := n1_; clear n0_ n1_; (try clear hb); (try clear hb2); (try clear hk); (try clear hi)))
      go_ret2
      exact ⟨by first | rfl | (simp [errW_none, errW_some] <;> rfl) | (simp [*, errW_none, errW_some] <;> rfl), by repeat (first | (with_reducible first | exact HB.out | apply below_alloc | apply pw_below_drewN | apply below_drew1 | refine below_set ?_ GE141.out) | exact HB.out)⟩

end Go.Proofs.Ytfdpebipnapelaa.P
-- Written by a program of this session (xprint.py) over the kit's print.py.
namespace Go.Proofs.Ytfdpebipnapelaa.P
open Go.RowKit Go.Proofs.YtfdpebipnapelaaW.PrintWords Go.Proofs.YtfdpebipnapelaaW.PrintLast Go.Proofs.YtfdpebipnapelaaW.PrintMore
attribute [local go_sem] max2_int min2_int max_two min_two max_three min_three max_four min_four   -- for this text's walks alone
set_option linter.unusedVariables false
set_option linter.unusedSimpArgs false

/-! ### sextonref01_Ints: function 36 -/
def sextonref01_Ints.l0 : Nat → List Int → List Int → Int → Option (Bool)
  | 0, _, _, _ => none
  | k + 1, x0, x1, x5 => if x5 < (x0.length : Int) then (if 0 ≤ x5 then (if x5 < (x1.length : Int) then (if (rd x0 x5) = (rd x1 x5) then (sextonref01_Ints.l0 k x0 x1 (wrap64 (x5 + 1))) else (some false)) else (none)) else (none)) else (some true)
def sextonref01_Ints.f (k : Nat) (l0 : List Int) (l1 : List Int) : Option (Bool) := if (l0.length : Int) = (l1.length : Int) then (sextonref01_Ints.l0 k l0 l1 0) else (some false)
theorem sextonref01_Ints.mono_l : ∀ k, (∀ y0 y1 y2, LeO (sextonref01_Ints.l0 k y0 y1 y2) (sextonref01_Ints.l0 (k + 1) y0 y1 y2))
  | 0 => fun _ _ _ r h => by simp [sextonref01_Ints.l0] at h
  | k + 1 => by
    have ih0 := sextonref01_Ints.mono_l k
    · intro y0 y1 y2
      unfold sextonref01_Ints.l0
      repeat' first
      | (with_reducible exact ih0 _ _ _)
      | (with_reducible exact LeO.refl _)
      | (with_reducible exact LeO.none _)
      | (with_reducible refine LeO.ite ?_ ?_)
      | (with_reducible refine LeO.bind ?_ (fun _ => ?_))
      | exact ih0 _ _ _
      | exact LeO.none _
      | refine LeO.ite ?_ ?_
      | refine LeO.bind ?_ (fun _ => ?_)
theorem sextonref01_Ints.mono : ∀ a0 a1 k, LeO (sextonref01_Ints.f k a0 a1) (sextonref01_Ints.f (k + 1) a0 a1) := by
  intro a0 a1 k
  have ih0 := sextonref01_Ints.mono_l k
  unfold sextonref01_Ints.f
  repeat' first
      | (with_reducible exact ih0 _ _ _)
      | (with_reducible exact LeO.refl _)
      | (with_reducible exact LeO.none _)
      | (with_reducible refine LeO.ite ?_ ?_)
      | (with_reducible refine LeO.bind ?_ (fun _ => ?_))
      | exact ih0 _ _ _
      | exact LeO.none _
      | refine LeO.ite ?_ ?_
      | refine LeO.bind ?_ (fun _ => ?_)
set_option maxHeartbeats 8000000 in
set_option maxRecDepth 100000 in
theorem sextonref01_Ints.calls (k : Nat) (A0 : Option Addr) (c0 : Nat) (l0 : List Int) (A1 : Option Addr) (c1 : Nat) (l1 : List Int) (r : Bool) (w : World) (hr0 : Kd.C (Kd.int .i64) w A0 l0.length l0) (hc0 : l0.length ≤ c0) (hr1 : Kd.C (Kd.int .i64) w A1 l1.length l1) (hc1 : l1.length ≤ c1) (h : sextonref01_Ints.f k l0 l1 = some r) :
    Calls Try.prog 36 #[.slice A0 l0.length c0, .slice A1 l1.length c1] w fun e w' => e = .returned (.bool r) ∧ Drawn0 w w' := by
  have HR0 := Aside0.mk hr0
  have HC0 := Aside0.mk hc0
  clear hr0 hc0
  have HR1 := Aside0.mk hr1
  have HC1 := Aside0.mk hc1
  clear hr1 hc1
  have H : (if (l0.length : Int) = (l1.length : Int) then (sextonref01_Ints.l0 k l0 l1 0) else (some false)) = some r := h
  clear h
  by_cases c3 : (l0.length : Int) = (l1.length : Int)
  · rw [if_pos c3] at H
    have c3b0 : ((l0.length : Int) == (l1.length : Int)) = true := beq_iff_eq.mpr c3
    have c3b1 : ((l0.length : Int) != (l1.length : Int)) = false := bne_eq_false_iff_eq.mpr c3
    have c3b2 : (l0.length == l1.length) = true := by first | simpa using c3 | (simp at c3 ⊢; omega)
    clear c3
    have H' := Aside0.mk H
    clear H
    go_enter Try.func36, Try.ntmps36
    go_wp2
    repeat (go_quiet (fail); try go_wp2)
    go_loopg [5] k (fun kq v5 w' => ∃ (x5_1 : Int), v5 = .int .i64 x5_1 ∧ Aside0 (sextonref01_Ints.l0 kq l0 l1 x5_1 = some r) ∧ Aside0 (kq ≤ k) ∧ Drawn0 w w')
    case atStart => exact ⟨(0), (by first | rfl | (simp; done) | (simp [*]; done)), H', ⟨Nat.le_refl _⟩, by repeat (first | exact Drawn0.refl _ | apply Drawn0.step)⟩
    case round =>
      clear H'
      try clear c1
      try clear p2
      try clear c3
      try clear c3b0
      try clear c3b1
      try clear c3b2
      obtain ⟨x5_1, rfl, HA, HK1, ⟨m1, rfl⟩⟩ := hrel
      cases gk with
      | zero => exact absurd HA.out (by simp [sextonref01_Ints.l0])
      | succ k1 =>
        have H := HA.out
        clear HA
        simp only [sextonref01_Ints.l0] at H
        by_cases c4 : x5_1 < (l0.length : Int)
        · rw [if_pos c4] at H
          have c4b0 : decide (x5_1 < (l0.length : Int)) = true := decide_eq_true c4
          clear c4
          by_cases c5 : 0 ≤ x5_1
          · rw [if_pos c5] at H
            have c5b0 : decide (0 ≤ x5_1) = true := decide_eq_true c5
            clear c5
            by_cases c6 : x5_1 < (l1.length : Int)
            · rw [if_pos c6] at H
              have c6b0 : decide (x5_1 < (l1.length : Int)) = true := decide_eq_true c6
              clear c6
              by_cases c7 : (rd l0 x5_1) = (rd l1 x5_1)
              · rw [if_pos c7] at H
                have c7b0 : ((rd l0 x5_1) == (rd l1 x5_1)) = true := beq_iff_eq.mpr c7
                have c7b1 : ((rd l0 x5_1) != (rd l1 x5_1)) = false := bne_eq_false_iff_eq.mpr c7
                clear c7
                have H' := Aside0.mk H
                clear H
                have p165 : 0 ≤ (x5_1 : Int) := of_decide_eq_true (by first | (with_reducible assumption) | assumption)
                have q165 : x5_1 < (l0.length : Int) := of_decide_eq_true (by first | (with_reducible assumption) | assumption)
                obtain ⟨ad165, e165, hx165_0⟩ := Kd.at_int HR0.out x5_1 p165 q165
                cases e165
                replace p165 := eq_true p165
                replace q165 := eq_true q165
                have p166 : 0 ≤ (x5_1 : Int) := of_decide_eq_true (by first | (with_reducible assumption) | assumption)
                have q166 : x5_1 < (l1.length : Int) := of_decide_eq_true (by first | (with_reducible assumption) | assumption)
                obtain ⟨ad166, e166, hx166_0⟩ := Kd.at_int HR1.out x5_1 p166 q166
                cases e166
                replace p166 := eq_true p166
                replace q166 := eq_true q166
                go_wp2
                repeat (go_quiet (fail); try go_wp2)
                go_roundg k1
                case measure => have := HK1.out; omega
                case rel => exact ⟨(wrap64 (x5_1 + 1)), (by first | rfl | (simp; done) | (simp [*]; done)), H', ⟨by have := HK1.out; omega⟩, by repeat (first | exact Drawn0.refl _ | apply Drawn0.step)⟩
              · rw [if_neg c7] at H
                have c7b0 : ((rd l0 x5_1) == (rd l1 x5_1)) = false := beq_eq_false_iff_ne.mpr c7
                have c7b1 : ((rd l0 x5_1) != (rd l1 x5_1)) = true := bne_iff_ne.mpr c7
                obtain rfl := Option.some.inj H
                have p165 : 0 ≤ (x5_1 : Int) := of_decide_eq_true (by first | (with_reducible assumption) | assumption)
                have q165 : x5_1 < (l0.length : Int) := of_decide_eq_true (by first | (with_reducible assumption) | assumption)
                obtain ⟨ad165, e165, hx165_0⟩ := Kd.at_int HR0.out x5_1 p165 q165
                cases e165
                replace p165 := eq_true p165
                replace q165 := eq_true q165
                have p166 : 0 ≤ (x5_1 : Int) := of_decide_eq_true (by first | (with_reducible assumption) | assumption)
                have q166 : x5_1 < (l1.length : Int) := of_decide_eq_true (by first | (with_reducible assumption) | assumption)
                obtain ⟨ad166, e166, hx166_0⟩ := Kd.at_int HR1.out x5_1 p166 q166
                cases e166
                replace p166 := eq_true p166
                replace q166 := eq_true q166
                go_wp2
                repeat (go_quiet (fail); try go_wp2)
                go_ret
                exact ⟨by first | rfl | (simp; done) | (simp [*]; done), by repeat (first | exact Drawn0.refl _ | apply Drawn0.step)⟩
            · rw [if_neg c6] at H
              exact absurd H (by simp)
          · rw [if_neg c5] at H
            exact absurd H (by simp)
        · rw [if_neg c4] at H
          have c4b0 : decide (x5_1 < (l0.length : Int)) = false := decide_eq_false c4
          clear c4
          obtain rfl := Option.some.inj H
          go_wp2
          repeat (go_quiet (fail); try go_wp2)
          go_ret
          exact ⟨by first | rfl | (simp; done) | (simp [*]; done), by repeat (first | exact Drawn0.refl _ | apply Drawn0.step)⟩
  · rw [if_neg c3] at H
    have c3b0 : ((l0.length : Int) == (l1.length : Int)) = false := beq_eq_false_iff_ne.mpr c3
    have c3b1 : ((l0.length : Int) != (l1.length : Int)) = true := bne_iff_ne.mpr c3
    have c3b2 : (l0.length == l1.length) = false := by first | simpa using c3 | (simp at c3 ⊢; omega)
    obtain rfl := Option.some.inj H
    go_enter Try.func36, Try.ntmps36
    go_wp2
    repeat (go_quiet (fail); try go_wp2)
    go_ret
    exact ⟨by first | rfl | (simp; done) | (simp [*]; done), by repeat (first | exact Drawn0.refl _ | apply Drawn0.step)⟩

end Go.Proofs.Ytfdpebipnapelaa.P
-- Written by a program of this session (xprint.py) over the kit's print.py.
namespace Go.Proofs.Ytfdpebipnapelaa.P
open Go.RowKit Go.Proofs.YtfdpebipnapelaaW.PrintWords Go.Proofs.YtfdpebipnapelaaW.PrintLast Go.Proofs.YtfdpebipnapelaaW.PrintMore
attribute [local go_sem] max2_int min2_int max_two min_two max_three min_three max_four min_four   -- for this text's walks alone
set_option linter.unusedVariables false
set_option linter.unusedSimpArgs false

/-! ### sextonref12_Same: function 25 -/
def sextonref12_Same.f (k : Nat) (a0_0 : Int) (a0_1 : Int) (l0_2 : List Int) (a1_0 : Int) (a1_1 : Int) (l1_2 : List Int) : Option (Bool) := if a0_0 = a1_0 then (if a0_1 = a1_1 then ((sextonref01_Ints.f k l0_2 l1_2).bind fun t169 => (some t169)) else (some false)) else (some false)
theorem sextonref12_Same.mono : ∀ a0 a1 a2 a3 a4 a5 k, LeO (sextonref12_Same.f k a0 a1 a2 a3 a4 a5) (sextonref12_Same.f (k + 1) a0 a1 a2 a3 a4 a5) := by
  intro a0 a1 a2 a3 a4 a5 k
  unfold sextonref12_Same.f
  repeat' first
      | (with_reducible exact sextonref01_Ints.mono _ _ _)
      | (with_reducible exact LeO.refl _)
      | (with_reducible exact LeO.none _)
      | (with_reducible refine LeO.ite ?_ ?_)
      | (with_reducible refine LeO.bind ?_ (fun _ => ?_))
      | exact sextonref01_Ints.mono _ _ _
      | exact LeO.none _
      | refine LeO.ite ?_ ?_
      | refine LeO.bind ?_ (fun _ => ?_)
set_option maxHeartbeats 8000000 in
set_option maxRecDepth 100000 in
theorem sextonref12_Same.calls (k : Nat) (a0_0 : Int) (a0_1 : Int) (A0_2 : Option Addr) (c0_2 : Nat) (l0_2 : List Int) (a1_0 : Int) (a1_1 : Int) (A1_2 : Option Addr) (c1_2 : Nat) (l1_2 : List Int) (r : Bool) (w : World) (hr0_2 : Kd.C (Kd.int .i64) w A0_2 l0_2.length l0_2) (hc0_2 : l0_2.length ≤ c0_2) (hr1_2 : Kd.C (Kd.int .i64) w A1_2 l1_2.length l1_2) (hc1_2 : l1_2.length ≤ c1_2) (h : sextonref12_Same.f k a0_0 a0_1 l0_2 a1_0 a1_1 l1_2 = some r) :
    Calls Try.prog 25 #[.agg #[.int .i64 a0_0, .int .i64 a0_1, .slice A0_2 l0_2.length c0_2], .agg #[.int .i64 a1_0, .int .i64 a1_1, .slice A1_2 l1_2.length c1_2]] w fun e w' => e = .returned (.bool r) ∧ Below w.heap.size w w' := by
  have hu24 := Try.underlying24
  have HR0_2 := Aside0.mk hr0_2
  have HC0_2 := Aside0.mk hc0_2
  clear hr0_2 hc0_2
  have HR1_2 := Aside0.mk hr1_2
  have HC1_2 := Aside0.mk hc1_2
  clear hr1_2 hc1_2
  have HB := Aside0.mk (Below.refl w.heap.size w)
  have H : (if a0_0 = a1_0 then (if a0_1 = a1_1 then ((sextonref01_Ints.f k l0_2 l1_2).bind fun t169 => (some t169)) else (some false)) else (some false)) = some r := h
  clear h
  by_cases c3 : a0_0 = a1_0
  · rw [if_pos c3] at H
    have c3b0 : (a0_0 == a1_0) = true := beq_iff_eq.mpr c3
    have c3b1 : (a0_0 != a1_0) = false := bne_eq_false_iff_eq.mpr c3
    clear c3
    by_cases c4 : a0_1 = a1_1
    · rw [if_pos c4] at H
      have c4b0 : (a0_1 == a1_1) = true := beq_iff_eq.mpr c4
      have c4b1 : (a0_1 != a1_1) = false := bne_eq_false_iff_eq.mpr c4
      clear c4
      replace H := Option.bind_eq_some_iff.mp H
      obtain ⟨t169, A50, H⟩ := H
      replace H : (some t169) = some r := H
      have A5 := Aside0.mk A50
      clear A50
      obtain rfl := Option.some.inj H
      go_enter Try.func25, Try.ntmps25
      go_wp2_with (first | ((with_reducible refine gate_dst (N := 2) rfl ?_); refine box_event ?hg (N := 2) ?hd (cs := #[.int .i64 a0_0, .int .i64 a0_1, .slice A0_2 l0_2.length c0_2]) (t := 24) ?hr ?_; (case hd => rfl); (case hg => rfl); (case hr => first | (go_simp; done) | (go_simp; rfl)); intro gb167 hg w6 hbox hb; have n0_ := Aside0.mk (below_step (by repeat (first | (with_reducible first | exact HB.out | apply below_alloc | apply pw_below_drewN | apply below_drew1) | exact HB.out)) hb); have n1_ := Aside0.mk (hbox); have n2_ := Aside0.mk ((by rw [hg]; exact (below_size (by repeat (first | (with_reducible first | exact HB.out | apply below_alloc | apply pw_below_drewN | apply below_drew1) | exact HB.out))) : w.heap.size ≤ gb167)); have n3_ := Aside0.mk ((by rw [hg]; exact (below_size (by repeat (first | (with_reducible first | exact HB.out | apply below_alloc | apply pw_below_drewN | apply below_drew1) | exact HB.out))) : w.heap.size ≤ gb167)); clear HB; have HB := n0_; have BK167 := n1_; have GW167 := n2_; have GE167 := n3_; clear n0_ n1_ n2_ n3_; clear hb hbox hg) | ((with_reducible refine gate_dst (N := 3) rfl ?_); refine box_event ?hg (N := 3) ?hd (cs := #[.int .i64 a1_0, .int .i64 a1_1, .slice A1_2 l1_2.length c1_2]) (t := 24) ?hr ?_; (case hd => rfl); (case hg => rfl); (case hr => first | (go_simp; done) | (go_simp; rfl)); intro gb168 hg w7 hbox hb; have n0_ := Aside0.mk (blk_below (g := gb167) (o := .cells #[.int .i64 a0_0, .int .i64 a0_1, .slice A0_2 l0_2.length c0_2] 24 (0, 0)) (by (with_reducible repeat (first | refine blk_drewN ?_ _ | refine blk_drew ?_ | refine blk_alloc ?_ _)); exact BK167.out) hb); have n1_ := Aside0.mk (below_step (by repeat (first | (with_reducible first | exact HB.out | apply below_alloc | apply pw_below_drewN | apply below_drew1 | refine below_set ?_ GE167.out) | exact HB.out)) hb); have n2_ := Aside0.mk (hbox); have n3_ := Aside0.mk ((by rw [hg]; exact (below_size (by repeat (first | (with_reducible first | exact HB.out | apply below_alloc | apply pw_below_drewN | apply below_drew1 | refine below_set ?_ GE167.out) | exact HB.out))) : w.heap.size ≤ gb168)); have n4_ := Aside0.mk ((by rw [hg]; exact (below_size (by repeat (first | (with_reducible first | exact HB.out | apply below_alloc | apply pw_below_drewN | apply below_drew1 | refine below_set ?_ GE167.out) | exact HB.out))) : w.heap.size ≤ gb168)); have n5_ := Aside0.mk ((by rw [hg]; exact Nat.ne_of_lt (blk_lt (g := gb167) (o := .cells #[.int .i64 a0_0, .int .i64 a0_1, .slice A0_2 l0_2.length c0_2] 24 (0, 0)) (by (with_reducible repeat (first | refine blk_drewN ?_ _ | refine blk_drew ?_ | refine blk_alloc ?_ _)); exact BK167.out)) : gb167 ≠ gb168)); have n6_ := Aside0.mk ((by rw [hg]; exact Nat.ne_of_gt (blk_lt (g := gb167) (o := .cells #[.int .i64 a0_0, .int .i64 a0_1, .slice A0_2 l0_2.length c0_2] 24 (0, 0)) (by (with_reducible repeat (first | refine blk_drewN ?_ _ | refine blk_drew ?_ | refine blk_alloc ?_ _)); exact BK167.out)) : gb168 ≠ gb167)); clear BK167; clear HB; have BK167 := n0_; have HB := n1_; have BK168 := n2_; have GW168 := n3_; have GE168 := n4_; have NB167_168 := n5_; have NB168_167 := n6_; clear n0_ n1_ n2_ n3_ n4_ n5_ n6_; clear hb hbox hg; have hnb8 := NB167_168.out; have hnc8 := NB168_167.out; have hcz9_0 : w7.cell? ⟨gb167, 0, none⟩ = some (.int .i64 a0_0) := (blk_cell BK167.out 0).trans rfl; have hcz9_1 : w7.cell? ⟨gb167, 1, none⟩ = some (.int .i64 a0_1) := (blk_cell BK167.out 1).trans rfl; have hcz9_2 : w7.cell? ⟨gb167, 2, none⟩ = some (.slice A0_2 l0_2.length c0_2) := (blk_cell BK167.out 2).trans rfl; have hfz9_0 := blk_frozen BK167.out 0; have hfz9_1 := blk_frozen BK167.out 1; have hfz9_2 := blk_frozen BK167.out 2; have hcz10_0 : w7.cell? ⟨gb168, 0, none⟩ = some (.int .i64 a1_0) := (blk_cell BK168.out 0).trans rfl; have hcz10_1 : w7.cell? ⟨gb168, 1, none⟩ = some (.int .i64 a1_1) := (blk_cell BK168.out 1).trans rfl; have hcz10_2 : w7.cell? ⟨gb168, 2, none⟩ = some (.slice A1_2 l1_2.length c1_2) := (blk_cell BK168.out 2).trans rfl; have hfz10_0 := blk_frozen BK168.out 0; have hfz10_1 := blk_frozen BK168.out 1; have hfz10_2 := blk_frozen BK168.out 2) | (go_at_call 36; (with_reducible refine (sextonref01_Ints.calls k _ _ l0_2 _ _ l1_2 t169 _ ?side1 ?side2 ?side3 ?side4 A5.out).mono ?_); (case side1 => repeat (first | exact (Kd.C_below HR0_2.out HB.out) | (with_reducible refine Kd.C_alloc ?_ _) | (with_reducible refine Kd.C_drewN ?_ _) | (with_reducible refine Kd.C_drew ?_))); (case side2 => exact HC0_2.out); (case side3 => repeat (first | exact (Kd.C_below HR1_2.out HB.out) | (with_reducible refine Kd.C_alloc ?_ _) | (with_reducible refine Kd.C_drewN ?_ _) | (with_reducible refine Kd.C_drew ?_))); (case side4 => exact HC1_2.out); rintro e w' ⟨rfl, ⟨nd, rfl⟩⟩))
      go_ret
      exact ⟨by first | rfl | (simp [errW_none, errW_some] <;> rfl) | (simp [*, errW_none, errW_some] <;> rfl), by repeat (first | (with_reducible first | exact HB.out | apply below_alloc | apply pw_below_drewN | apply below_drew1 | refine below_set ?_ GE167.out | refine below_set ?_ GE168.out) | exact HB.out)⟩
    · rw [if_neg c4] at H
      have c4b0 : (a0_1 == a1_1) = false := beq_eq_false_iff_ne.mpr c4
      have c4b1 : (a0_1 != a1_1) = true := bne_iff_ne.mpr c4
      obtain rfl := Option.some.inj H
      go_enter Try.func25, Try.ntmps25
      go_wp2_with (first | ((with_reducible refine gate_dst (N := 2) rfl ?_); refine box_event ?hg (N := 2) ?hd (cs := #[.int .i64 a0_0, .int .i64 a0_1, .slice A0_2 l0_2.length c0_2]) (t := 24) ?hr ?_; (case hd => rfl); (case hg => rfl); (case hr => first | (go_simp; done) | (go_simp; rfl)); intro gb167 hg w11 hbox hb; have n0_ := Aside0.mk (below_step (by repeat (first | (with_reducible first | exact HB.out | apply below_alloc | apply pw_below_drewN | apply below_drew1) | exact HB.out)) hb); have n1_ := Aside0.mk (hbox); have n2_ := Aside0.mk ((by rw [hg]; exact (below_size (by repeat (first | (with_reducible first | exact HB.out | apply below_alloc | apply pw_below_drewN | apply below_drew1) | exact HB.out))) : w.heap.size ≤ gb167)); have n3_ := Aside0.mk ((by rw [hg]; exact (below_size (by repeat (first | (with_reducible first | exact HB.out | apply below_alloc | apply pw_below_drewN | apply below_drew1) | exact HB.out))) : w.heap.size ≤ gb167)); clear HB; have HB := n0_; have BK167 := n1_; have GW167 := n2_; have GE167 := n3_; clear n0_ n1_ n2_ n3_; clear hb hbox hg) | ((with_reducible refine gate_dst (N := 3) rfl ?_); refine box_event ?hg (N := 3) ?hd (cs := #[.int .i64 a1_0, .int .i64 a1_1, .slice A1_2 l1_2.length c1_2]) (t := 24) ?hr ?_; (case hd => rfl); (case hg => rfl); (case hr => first | (go_simp; done) | (go_simp; rfl)); intro gb168 hg w12 hbox hb; have n0_ := Aside0.mk (blk_below (g := gb167) (o := .cells #[.int .i64 a0_0, .int .i64 a0_1, .slice A0_2 l0_2.length c0_2] 24 (0, 0)) (by (with_reducible repeat (first | refine blk_drewN ?_ _ | refine blk_drew ?_ | refine blk_alloc ?_ _)); exact BK167.out) hb); have n1_ := Aside0.mk (below_step (by repeat (first | (with_reducible first | exact HB.out | apply below_alloc | apply pw_below_drewN | apply below_drew1 | refine below_set ?_ GE167.out) | exact HB.out)) hb); have n2_ := Aside0.mk (hbox); have n3_ := Aside0.mk ((by rw [hg]; exact (below_size (by repeat (first | (with_reducible first | exact HB.out | apply below_alloc | apply pw_below_drewN | apply below_drew1 | refine below_set ?_ GE167.out) | exact HB.out))) : w.heap.size ≤ gb168)); have n4_ := Aside0.mk ((by rw [hg]; exact (below_size (by repeat (first | (with_reducible first | exact HB.out | apply below_alloc | apply pw_below_drewN | apply below_drew1 | refine below_set ?_ GE167.out) | exact HB.out))) : w.heap.size ≤ gb168)); have n5_ := Aside0.mk ((by rw [hg]; exact Nat.ne_of_lt (blk_lt (g := gb167) (o := .cells #[.int .i64 a0_0, .int .i64 a0_1, .slice A0_2 l0_2.length c0_2] 24 (0, 0)) (by (with_reducible repeat (first | refine blk_drewN ?_ _ | refine blk_drew ?_ | refine blk_alloc ?_ _)); exact BK167.out)) : gb167 ≠ gb168)); have n6_ := Aside0.mk ((by rw [hg]; exact Nat.ne_of_gt (blk_lt (g := gb167) (o := .cells #[.int .i64 a0_0, .int .i64 a0_1, .slice A0_2 l0_2.length c0_2] 24 (0, 0)) (by (with_reducible repeat (first | refine blk_drewN ?_ _ | refine blk_drew ?_ | refine blk_alloc ?_ _)); exact BK167.out)) : gb168 ≠ gb167)); clear BK167; clear HB; have BK167 := n0_; have HB := n1_; have BK168 := n2_; have GW168 := n3_; have GE168 := n4_; have NB167_168 := n5_; have NB168_167 := n6_; clear n0_ n1_ n2_ n3_ n4_ n5_ n6_; clear hb hbox hg; have hnb13 := NB167_168.out; have hnc13 := NB168_167.out; have hcz14_0 : w12.cell? ⟨gb167, 0, none⟩ = some (.int .i64 a0_0) := (blk_cell BK167.out 0).trans rfl; have hcz14_1 : w12.cell? ⟨gb167, 1, none⟩ = some (.int .i64 a0_1) := (blk_cell BK167.out 1).trans rfl; have hcz14_2 : w12.cell? ⟨gb167, 2, none⟩ = some (.slice A0_2 l0_2.length c0_2) := (blk_cell BK167.out 2).trans rfl; have hfz14_0 := blk_frozen BK167.out 0; have hfz14_1 := blk_frozen BK167.out 1; have hfz14_2 := blk_frozen BK167.out 2; have hcz15_0 : w12.cell? ⟨gb168, 0, none⟩ = some (.int .i64 a1_0) := (blk_cell BK168.out 0).trans rfl; have hcz15_1 : w12.cell? ⟨gb168, 1, none⟩ = some (.int .i64 a1_1) := (blk_cell BK168.out 1).trans rfl; have hcz15_2 : w12.cell? ⟨gb168, 2, none⟩ = some (.slice A1_2 l1_2.length c1_2) := (blk_cell BK168.out 2).trans rfl; have hfz15_0 := blk_frozen BK168.out 0; have hfz15_1 := blk_frozen BK168.out 1; have hfz15_2 := blk_frozen BK168.out 2))
      go_ret
      exact ⟨by first | rfl | (simp [errW_none, errW_some] <;> rfl) | (simp [*, errW_none, errW_some] <;> rfl), by repeat (first | (with_reducible first | exact HB.out | apply below_alloc | apply pw_below_drewN | apply below_drew1 | refine below_set ?_ GE167.out | refine below_set ?_ GE168.out) | exact HB.out)⟩
  · rw [if_neg c3] at H
    have c3b0 : (a0_0 == a1_0) = false := beq_eq_false_iff_ne.mpr c3
    have c3b1 : (a0_0 != a1_0) = true := bne_iff_ne.mpr c3
    obtain rfl := Option.some.inj H
    go_enter Try.func25, Try.ntmps25
    go_wp2_with (first | ((with_reducible refine gate_dst (N := 2) rfl ?_); refine box_event ?hg (N := 2) ?hd (cs := #[.int .i64 a0_0, .int .i64 a0_1, .slice A0_2 l0_2.length c0_2]) (t := 24) ?hr ?_; (case hd => rfl); (case hg => rfl); (case hr => first | (go_simp; done) | (go_simp; rfl)); intro gb167 hg w16 hbox hb; have n0_ := Aside0.mk (below_step (by repeat (first | (with_reducible first | exact HB.out | apply below_alloc | apply pw_below_drewN | apply below_drew1) | exact HB.out)) hb); have n1_ := Aside0.mk (hbox); have n2_ := Aside0.mk ((by rw [hg]; exact (below_size (by repeat (first | (with_reducible first | exact HB.out | apply below_alloc | apply pw_below_drewN | apply below_drew1) | exact HB.out))) : w.heap.size ≤ gb167)); have n3_ := Aside0.mk ((by rw [hg]; exact (below_size (by repeat (first | (with_reducible first | exact HB.out | apply below_alloc | apply pw_below_drewN | apply below_drew1) | exact HB.out))) : w.heap.size ≤ gb167)); clear HB; have HB := n0_; have BK167 := n1_; have GW167 := n2_; have GE167 := n3_; clear n0_ n1_ n2_ n3_; clear hb hbox hg) | ((with_reducible refine gate_dst (N := 3) rfl ?_); refine box_event ?hg (N := 3) ?hd (cs := #[.int .i64 a1_0, .int .i64 a1_1, .slice A1_2 l1_2.length c1_2]) (t := 24) ?hr ?_; (case hd => rfl); (case hg => rfl); (case hr => first | (go_simp; done) | (go_simp; rfl)); intro gb168 hg w17 hbox hb; have n0_ := Aside0.mk (blk_below (g := gb167) (o := .cells #[.int .i64 a0_0, .int .i64 a0_1, .slice A0_2 l0_2.length c0_2] 24 (0, 0)) (by (with_reducible repeat (first | refine blk_drewN ?_ _ | refine blk_drew ?_ | refine blk_alloc ?_ _)); exact BK167.out) hb); have n1_ := Aside0.mk (below_step (by repeat (first | (with_reducible first | exact HB.out | apply below_alloc | apply pw_below_drewN | apply below_drew1 | refine below_set ?_ GE167.out) | exact HB.out)) hb); have n2_ := Aside0.mk (hbox); have n3_ := Aside0.mk ((by rw [hg]; exact (below_size (by repeat (first | (with_reducible first | exact HB.out | apply below_alloc | apply pw_below_drewN | apply below_drew1 | refine below_set ?_ GE167.out) | exact HB.out))) : w.heap.size ≤ gb168)); have n4_ := Aside0.mk ((by rw [hg]; exact (below_size (by repeat (first | (with_reducible first | exact HB.out | apply below_alloc | apply pw_below_drewN | apply below_drew1 | refine below_set ?_ GE167.out) | exact HB.out))) : w.heap.size ≤ gb168)); have n5_ := Aside0.mk ((by rw [hg]; exact Nat.ne_of_lt (blk_lt (g := gb167) (o := .cells #[.int .i64 a0_0, .int .i64 a0_1, .slice A0_2 l0_2.length c0_2] 24 (0, 0)) (by (with_reducible repeat (first | refine blk_drewN ?_ _ | refine blk_drew ?_ | refine blk_alloc ?_ _)); exact BK167.out)) : gb167 ≠ gb168)); have n6_ := Aside0.mk ((by rw [hg]; exact Nat.ne_of_gt (blk_lt (g := gb167) (o := .cells #[.int .i64 a0_0, .int .i64 a0_1, .slice A0_2 l0_2.length c0_2] 24 (0, 0)) (by (with_reducible repeat (first | refine blk_drewN ?_ _ | refine blk_drew ?_ | refine blk_alloc ?_ _)); exact BK167.out)) : gb168 ≠ gb167)); clear BK167; clear HB; have BK167 := n0_; have HB := n1_; have BK168 := n2_; have GW168 := n3_; have GE168 := n4_; have NB167_168 := n5_; have NB168_167 := n6_; clear n0_ n1_ n2_ n3_ n4_ n5_ n6_; clear hb hbox hg; have hnb18 := NB167_168.out; have hnc18 := NB168_167.out; have hcz19_0 : w17.cell? ⟨gb167, 0, none⟩ = some (.int .i64 a0_0) := (blk_cell BK167.out 0).trans rfl; have hcz19_1 : w17.cell? ⟨gb167, 1, none⟩ = some (.int .i64 a0_1) := (blk_cell BK167.out 1).trans rfl; have hcz19_2 : w17.cell? ⟨gb167, 2, none⟩ = some (.slice A0_2 l0_2.length c0_2) := (blk_cell BK167.out 2).trans rfl; have hfz19_0 := blk_frozen BK167.out 0; have hfz19_1 := blk_frozen BK167.out 1; have hfz19_2 := blk_frozen BK167.out 2; have hcz20_0 : w17.cell? ⟨gb168, 0, none⟩ = some (.int .i64 a1_0) := (blk_cell BK168.out 0).trans rfl; have hcz20_1 : w17.cell? ⟨gb168, 1, none⟩ = some (.int .i64 a1_1) := (blk_cell BK168.out 1).trans rfl; have hcz20_2 : w17.cell? ⟨gb168, 2, none⟩ = some (.slice A1_2 l1_2.length c1_2) := (blk_cell BK168.out 2).trans rfl; have hfz20_0 := blk_frozen BK168.out 0; have hfz20_1 := blk_frozen BK168.out 1; have hfz20_2 := blk_frozen BK168.out 2))
    go_ret
    exact ⟨by first | rfl | (simp [errW_none, errW_some] <;> rfl) | (simp [*, errW_none, errW_some] <;> rfl), by repeat (first | (with_reducible first | exact HB.out | apply below_alloc | apply pw_below_drewN | apply below_drew1 | refine below_set ?_ GE167.out | refine below_set ?_ GE168.out) | exact HB.out)⟩

end Go.Proofs.Ytfdpebipnapelaa.P
/-
  codec.GetNumber, by hand. For every text of a size that a text may have.
-/
namespace Go.Proofs.Ytfdpebipnapelaa.P
open Go.RowKit Go.Proofs.CodecPlain Go.Proofs.YtfdpebipnapelaaW.PrintWords Go.Proofs.YtfdpebipnapelaaW.PrintLast

/-- What codec.GetNumber answers. -/
def codec_GetNumber.f (a0 : ByteArray) : Option (Int × ByteArray × Bool) := some (getNum a0)

theorem toList_ne {s : ByteArray} (h : 0 < s.size) : s.toList.isEmpty = false := by
  rw [ByteArray.toList_eq]
  cases e : s.data.toList with
  | nil =>
    have h1 := congrArg List.length e
    rw [Array.length_toList] at h1
    have h2 : s.size = 0 := h1
    omega
  | cons a l => rfl

theorem getNum_no {s : ByteArray} (h : s.size = 0 ∨ 4 < hd s ∨ s.size ≤ hd s) : getNum s = (0, ⟨#[]⟩, false) := by unfold getNum; rw [if_pos h]

theorem getNum_is (s : ByteArray) (q : 0 < s.size) (h4 : hd s ≤ 4) (h5 : hd s < s.size) :
    getNum s = if hd s ≠ 0 ∧ hd (s.extract 1 (1 + hd s)) = 0 then (0, ⟨#[]⟩, false) else (accB (s.extract 1 (1 + hd s)).data.toList, s.extract (1 + hd s) s.size, true) := by
  unfold getNum; rw [if_neg (by omega)]

theorem hd_at {s : ByteArray} (h : 0 < s.size) : ((s[0]'h).toNat : Int) = (hd s : Int) := by simp [hd, h]

set_option maxHeartbeats 4000000 in
set_option maxRecDepth 100000 in
theorem codec_GetNumber_no (s : ByteArray) (w : World) (h : s.size = 0 ∨ 4 < hd s ∨ s.size ≤ hd s) :
    Calls Try.prog 65 #[.string s] w fun e w' => e = .returned (.tuple #[.int .i64 0, .string ⟨#[]⟩, .bool false]) ∧ Drawn0 w w' := by
  by_cases h0 : s.size = 0
  · obtain rfl : s = ⟨#[]⟩ := by
      cases s; rename_i d; simp [ByteArray.size] at h0; subst h0; rfl
    clear h h0
    go_enter Try.func65, Try.ntmps65
    go_wp2
    go_ret3
    exact ⟨rfl, Drawn0.refl _⟩
  · have q : 0 < s.size := by omega
    have hx := hd_at q
    have hlt : hd s < 256 := by unfold hd; rw [dif_pos q]; exact (s[0]).toNat_lt
    have en := toList_ne q
    obtain ⟨m, hm⟩ : ∃ m, m = hd s := ⟨_, rfl⟩
    rw [← hm] at hx h hlt
    clear h0 hm
    by_cases h4 : 4 < m
    · clear h
      go_enter Try.func65, Try.ntmps65
      go_wp2
      go_ret3
      exact ⟨rfl, Drawn0.refl _⟩
    · have h5 : s.size ≤ m := by omega
      clear h
      go_enter Try.func65, Try.ntmps65
      go_wp2
      go_ret3
      exact ⟨rfl, Drawn0.refl _⟩

theorem accB_take (b : ByteArray) (k : Nat) (h : k < b.size) : accB (b.data.toList.take (k + 1)) = accB (b.data.toList.take k) * 256 + (b[k].toNat : Int) := by
  have hl : k < b.data.toList.length := by rw [Array.length_toList]; exact h
  rw [List.take_succ_eq_append_getElem hl, accB_snoc]
  rfl
theorem accB_lt (b : ByteArray) (k : Nat) (h : k ≤ b.size) (h4 : b.size ≤ 4) (hk : k < b.size) : 0 ≤ accB (b.data.toList.take k) ∧ accB (b.data.toList.take k) < 16777216 := by
  have h1 := accB_bd (b.data.toList.take k)
  have hl : (b.data.toList.take k).length = k := by rw [List.length_take, Array.length_toList]; exact Nat.min_eq_left h
  rw [hl] at h1
  refine ⟨h1.1, Int.lt_of_lt_of_le h1.2 ?_⟩
  match k, h, hk with
  | 0, _, _ => decide
  | 1, _, _ => decide
  | 2, _, _ => decide
  | 3, _, _ => decide
  | k + 4, _, hk => omega
theorem accB_whole (b : ByteArray) : accB (b.data.toList.take b.size) = accB b.data.toList := by
  rw [List.take_of_length_le]; rw [Array.length_toList]; exact Nat.le_refl _
theorem or_byte (x y : Int) (hx : 0 ≤ x) (hx1 : x < 16777216) (hy : 0 ≤ y) (hy1 : y < 256) : Go.bits .or .i64 (x * 256) y = x * 256 + y :=
  bits_join .i64 63 (by decide) (fun n h0 h1 => IntWalk.i64_in n ⟨by omega, by omega⟩) 8 (x * 256) y (by omega) (by omega) (by omega) hy (by omega) (by omega)

set_option maxHeartbeats 4000000 in
set_option maxRecDepth 100000 in
theorem codec_GetNumber_0 (s : ByteArray) (w : World) (q : 0 < s.size) (hm : hd s = 0) (h5 : 0 < s.size) :
    Calls Try.prog 65 #[.string s] w fun e w' => e = .returned (.tuple #[.int .i64 (getNum s).1, .string (getNum s).2.1, .bool (getNum s).2.2]) ∧ Drawn0 w w' := by
  have hx := hd_at q
  have en := toList_ne q
  have hg0 := getNum_is s q (by omega) (by omega)
  rw [hm] at hx hg0
  have HG := Aside0.mk hg0
  clear hg0 hm
  have hw0 : IntKind.i64.wrap (1 + 0) = 1 := rfl
  have hi0 : (1 : Int) ≤ 1 := by omega
  have hi1 : 1 ≤ s.size := by omega
  have hi2 : (1 : Int) ≤ (s.size : Int) := by omega
  have hem : decide (s = ByteArray.empty) = false := decide_eq_false (by rintro rfl; exact absurd q (by decide))
  have hbs := Aside0.mk (show (s.extract 1 1).size = 0 by rw [ByteArray.size_extract]; omega)
  go_enter Try.func65, Try.ntmps65
  go_wp2
  go_quiet (fail)
  clear en hi1 hi2 hx hw0 hi0 h5 hem
  have he : s.extract 1 1 = ⟨#[]⟩ := by
    have := hbs.out
    cases h : s.extract 1 1 with
    | mk d => rw [h] at this; simp [ByteArray.size] at this; rw [this]
  have he0 : ByteArray.empty = ⟨#[]⟩ := rfl
  rw [he0]
  clear he0
  go_wp2
  go_loopw [7, 8, 46] (fun v _ i wr => v = .int .i64 0 ∧ i = .int .i64 0 ∧ Drawn0 w wr) (fun _ _ i _ => 0)
  case atStart => exact ⟨rfl, rfl, by repeat (first | exact Drawn0.refl _ | apply Drawn0.step)⟩
  case round =>
    obtain ⟨rfl, rfl, ⟨n, rfl⟩⟩ := hrel
    go_wp2
    go_ret3
    refine ⟨?_, ⟨_, rfl⟩⟩
    rw [HG.out, if_neg (by simp)]
    simp only [Nat.add_zero, he]
    rfl
set_option maxHeartbeats 4000000 in
set_option maxRecDepth 100000 in
theorem codec_GetNumber_1 (s : ByteArray) (w : World) (q : 0 < s.size) (hm : hd s = 1) (h5 : 1 < s.size) :
    Calls Try.prog 65 #[.string s] w fun e w' => e = .returned (.tuple #[.int .i64 (getNum s).1, .string (getNum s).2.1, .bool (getNum s).2.2]) ∧ Drawn0 w w' := by
  have hx := hd_at q
  have en := toList_ne q
  have hg0 := getNum_is s q (by omega) (by omega)
  rw [hm] at hx hg0
  have HG := Aside0.mk hg0
  clear hg0 hm
  have hw0 : IntKind.i64.wrap (1 + 1) = 2 := rfl
  have hi0 : (1 : Int) ≤ 2 := by omega
  have hi1 : 2 ≤ s.size := by omega
  have hi2 : (2 : Int) ≤ (s.size : Int) := by omega
  have hem : decide (s = ByteArray.empty) = false := decide_eq_false (by rintro rfl; exact absurd q (by decide))
  have hbs := Aside0.mk (show (s.extract 1 2).size = 1 by rw [ByteArray.size_extract]; omega)
  go_enter Try.func65, Try.ntmps65
  go_wp2
  go_quiet (fail)
  clear en hi1 hi2 hx hw0 hi0 h5 hem
  generalize s.extract 1 2 = b at *
  have q0 : 0 < b.size := by rw [hbs.out]; omega
  have hx := hd_at q0
  have en := toList_ne q0
  have en2 : b.toList ≠ [] := by intro h; rw [h] at en; cases en
  obtain ⟨h0, hh0⟩ : ∃ h0, h0 = hd b := ⟨_, rfl⟩
  rw [← hh0] at hx
  have HH := Aside0.mk hh0
  clear hh0
  by_cases hz : (h0 : Int) = 0
  · have e1 : ((h0 : Int) == 0) = true := by simpa using hz
    have HZ := Aside0.mk hz
    clear hz
    go_wp2
    go_ret3
    refine ⟨?_, by repeat (first | exact Drawn0.refl _ | apply Drawn0.step)⟩
    rw [HG.out, if_pos ⟨by omega, by rw [← HH.out]; have := HZ.out; omega⟩]
    rfl
  · have e1 : ((h0 : Int) == 0) = false := by simpa using hz
    have HZ := Aside0.mk hz
    clear hz
    go_wp2
    clear en en2 e1 hx
    clear q0
    have hlen : (b.size : Int) = 1 := by rw [hbs.out]; rfl
    go_loopw [7, 8, 46] (fun v _ i wr => ∃ k : Nat, k ≤ b.size ∧ i = .int .i64 k ∧ v = .int .i64 (accB (b.data.toList.take k)) ∧ Drawn0 w wr) (fun _ _ i _ => b.size - (intOf i).toNat)
    case atStart => exact ⟨0, Nat.zero_le _, rfl, rfl, by repeat (first | exact Drawn0.refl _ | apply Drawn0.step)⟩
    case round =>
      obtain ⟨k, hk, rfl, rfl, ⟨n, rfl⟩⟩ := hrel
      by_cases hlt : k < b.size
      · have hb1 := accB_lt b k hk (by omega) hlt
        have hb2 := b[k].toNat_lt
        have hob := or_byte (accB (b.data.toList.take k)) (b[k].toNat : Int) hb1.1 hb1.2 (by omega) (by omega)
        have hnx := Aside0.mk (accB_take b k hlt)
        go_wp2
        go_roundw
        case rel => exact ⟨k + 1, by omega, by go_num, by rw [hnx.out], ⟨_, rfl⟩⟩
        case measure => simp [intOf]; omega
      · obtain rfl : k = b.size := by omega
        have haw := Aside0.mk (accB_whole b)
        go_wp2
        go_ret3
        refine ⟨?_, ⟨_, rfl⟩⟩
        rw [HG.out, if_neg (by rintro ⟨_, h⟩; have h1 := HH.out; have h2 := HZ.out; omega), haw.out]
        rfl
set_option maxHeartbeats 4000000 in
set_option maxRecDepth 100000 in
theorem codec_GetNumber_2 (s : ByteArray) (w : World) (q : 0 < s.size) (hm : hd s = 2) (h5 : 2 < s.size) :
    Calls Try.prog 65 #[.string s] w fun e w' => e = .returned (.tuple #[.int .i64 (getNum s).1, .string (getNum s).2.1, .bool (getNum s).2.2]) ∧ Drawn0 w w' := by
  have hx := hd_at q
  have en := toList_ne q
  have hg0 := getNum_is s q (by omega) (by omega)
  rw [hm] at hx hg0
  have HG := Aside0.mk hg0
  clear hg0 hm
  have hw0 : IntKind.i64.wrap (1 + 2) = 3 := rfl
  have hi0 : (1 : Int) ≤ 3 := by omega
  have hi1 : 3 ≤ s.size := by omega
  have hi2 : (3 : Int) ≤ (s.size : Int) := by omega
  have hem : decide (s = ByteArray.empty) = false := decide_eq_false (by rintro rfl; exact absurd q (by decide))
  have hbs := Aside0.mk (show (s.extract 1 3).size = 2 by rw [ByteArray.size_extract]; omega)
  go_enter Try.func65, Try.ntmps65
  go_wp2
  go_quiet (fail)
  clear en hi1 hi2 hx hw0 hi0 h5 hem
  generalize s.extract 1 3 = b at *
  have q0 : 0 < b.size := by rw [hbs.out]; omega
  have hx := hd_at q0
  have en := toList_ne q0
  have en2 : b.toList ≠ [] := by intro h; rw [h] at en; cases en
  obtain ⟨h0, hh0⟩ : ∃ h0, h0 = hd b := ⟨_, rfl⟩
  rw [← hh0] at hx
  have HH := Aside0.mk hh0
  clear hh0
  by_cases hz : (h0 : Int) = 0
  · have e1 : ((h0 : Int) == 0) = true := by simpa using hz
    have HZ := Aside0.mk hz
    clear hz
    go_wp2
    go_ret3
    refine ⟨?_, by repeat (first | exact Drawn0.refl _ | apply Drawn0.step)⟩
    rw [HG.out, if_pos ⟨by omega, by rw [← HH.out]; have := HZ.out; omega⟩]
    rfl
  · have e1 : ((h0 : Int) == 0) = false := by simpa using hz
    have HZ := Aside0.mk hz
    clear hz
    go_wp2
    clear en en2 e1 hx
    clear q0
    have hlen : (b.size : Int) = 2 := by rw [hbs.out]; rfl
    go_loopw [7, 8, 46] (fun v _ i wr => ∃ k : Nat, k ≤ b.size ∧ i = .int .i64 k ∧ v = .int .i64 (accB (b.data.toList.take k)) ∧ Drawn0 w wr) (fun _ _ i _ => b.size - (intOf i).toNat)
    case atStart => exact ⟨0, Nat.zero_le _, rfl, rfl, by repeat (first | exact Drawn0.refl _ | apply Drawn0.step)⟩
    case round =>
      obtain ⟨k, hk, rfl, rfl, ⟨n, rfl⟩⟩ := hrel
      by_cases hlt : k < b.size
      · have hb1 := accB_lt b k hk (by omega) hlt
        have hb2 := b[k].toNat_lt
        have hob := or_byte (accB (b.data.toList.take k)) (b[k].toNat : Int) hb1.1 hb1.2 (by omega) (by omega)
        have hnx := Aside0.mk (accB_take b k hlt)
        go_wp2
        go_roundw
        case rel => exact ⟨k + 1, by omega, by go_num, by rw [hnx.out], ⟨_, rfl⟩⟩
        case measure => simp [intOf]; omega
      · obtain rfl : k = b.size := by omega
        have haw := Aside0.mk (accB_whole b)
        go_wp2
        go_ret3
        refine ⟨?_, ⟨_, rfl⟩⟩
        rw [HG.out, if_neg (by rintro ⟨_, h⟩; have h1 := HH.out; have h2 := HZ.out; omega), haw.out]
        rfl
set_option maxHeartbeats 4000000 in
set_option maxRecDepth 100000 in
theorem codec_GetNumber_3 (s : ByteArray) (w : World) (q : 0 < s.size) (hm : hd s = 3) (h5 : 3 < s.size) :
    Calls Try.prog 65 #[.string s] w fun e w' => e = .returned (.tuple #[.int .i64 (getNum s).1, .string (getNum s).2.1, .bool (getNum s).2.2]) ∧ Drawn0 w w' := by
  have hx := hd_at q
  have en := toList_ne q
  have hg0 := getNum_is s q (by omega) (by omega)
  rw [hm] at hx hg0
  have HG := Aside0.mk hg0
  clear hg0 hm
  have hw0 : IntKind.i64.wrap (1 + 3) = 4 := rfl
  have hi0 : (1 : Int) ≤ 4 := by omega
  have hi1 : 4 ≤ s.size := by omega
  have hi2 : (4 : Int) ≤ (s.size : Int) := by omega
  have hem : decide (s = ByteArray.empty) = false := decide_eq_false (by rintro rfl; exact absurd q (by decide))
  have hbs := Aside0.mk (show (s.extract 1 4).size = 3 by rw [ByteArray.size_extract]; omega)
  go_enter Try.func65, Try.ntmps65
  go_wp2
  go_quiet (fail)
  clear en hi1 hi2 hx hw0 hi0 h5 hem
  generalize s.extract 1 4 = b at *
  have q0 : 0 < b.size := by rw [hbs.out]; omega
  have hx := hd_at q0
  have en := toList_ne q0
  have en2 : b.toList ≠ [] := by intro h; rw [h] at en; cases en
  obtain ⟨h0, hh0⟩ : ∃ h0, h0 = hd b := ⟨_, rfl⟩
  rw [← hh0] at hx
  have HH := Aside0.mk hh0
  clear hh0
  by_cases hz : (h0 : Int) = 0
  · have e1 : ((h0 : Int) == 0) = true := by simpa using hz
    have HZ := Aside0.mk hz
    clear hz
    go_wp2
    go_ret3
    refine ⟨?_, by repeat (first | exact Drawn0.refl _ | apply Drawn0.step)⟩
    rw [HG.out, if_pos ⟨by omega, by rw [← HH.out]; have := HZ.out; omega⟩]
    rfl
  · have e1 : ((h0 : Int) == 0) = false := by simpa using hz
    have HZ := Aside0.mk hz
    clear hz
    go_wp2
    clear en en2 e1 hx
    clear q0
    have hlen : (b.size : Int) = 3 := by rw [hbs.out]; rfl
    go_loopw [7, 8, 46] (fun v _ i wr => ∃ k : Nat, k ≤ b.size ∧ i = .int .i64 k ∧ v = .int .i64 (accB (b.data.toList.take k)) ∧ Drawn0 w wr) (fun _ _ i _ => b.size - (intOf i).toNat)
    case atStart => exact ⟨0, Nat.zero_le _, rfl, rfl, by repeat (first | exact Drawn0.refl _ | apply Drawn0.step)⟩
    case round =>
      obtain ⟨k, hk, rfl, rfl, ⟨n, rfl⟩⟩ := hrel
      by_cases hlt : k < b.size
      · have hb1 := accB_lt b k hk (by omega) hlt
        have hb2 := b[k].toNat_lt
        have hob := or_byte (accB (b.data.toList.take k)) (b[k].toNat : Int) hb1.1 hb1.2 (by omega) (by omega)
        have hnx := Aside0.mk (accB_take b k hlt)
        go_wp2
        go_roundw
        case rel => exact ⟨k + 1, by omega, by go_num, by rw [hnx.out], ⟨_, rfl⟩⟩
        case measure => simp [intOf]; omega
      · obtain rfl : k = b.size := by omega
        have haw := Aside0.mk (accB_whole b)
        go_wp2
        go_ret3
        refine ⟨?_, ⟨_, rfl⟩⟩
        rw [HG.out, if_neg (by rintro ⟨_, h⟩; have h1 := HH.out; have h2 := HZ.out; omega), haw.out]
        rfl
set_option maxHeartbeats 4000000 in
set_option maxRecDepth 100000 in
theorem codec_GetNumber_4 (s : ByteArray) (w : World) (q : 0 < s.size) (hm : hd s = 4) (h5 : 4 < s.size) :
    Calls Try.prog 65 #[.string s] w fun e w' => e = .returned (.tuple #[.int .i64 (getNum s).1, .string (getNum s).2.1, .bool (getNum s).2.2]) ∧ Drawn0 w w' := by
  have hx := hd_at q
  have en := toList_ne q
  have hg0 := getNum_is s q (by omega) (by omega)
  rw [hm] at hx hg0
  have HG := Aside0.mk hg0
  clear hg0 hm
  have hw0 : IntKind.i64.wrap (1 + 4) = 5 := rfl
  have hi0 : (1 : Int) ≤ 5 := by omega
  have hi1 : 5 ≤ s.size := by omega
  have hi2 : (5 : Int) ≤ (s.size : Int) := by omega
  have hem : decide (s = ByteArray.empty) = false := decide_eq_false (by rintro rfl; exact absurd q (by decide))
  have hbs := Aside0.mk (show (s.extract 1 5).size = 4 by rw [ByteArray.size_extract]; omega)
  go_enter Try.func65, Try.ntmps65
  go_wp2
  go_quiet (fail)
  clear en hi1 hi2 hx hw0 hi0 h5 hem
  generalize s.extract 1 5 = b at *
  have q0 : 0 < b.size := by rw [hbs.out]; omega
  have hx := hd_at q0
  have en := toList_ne q0
  have en2 : b.toList ≠ [] := by intro h; rw [h] at en; cases en
  obtain ⟨h0, hh0⟩ : ∃ h0, h0 = hd b := ⟨_, rfl⟩
  rw [← hh0] at hx
  have HH := Aside0.mk hh0
  clear hh0
  by_cases hz : (h0 : Int) = 0
  · have e1 : ((h0 : Int) == 0) = true := by simpa using hz
    have HZ := Aside0.mk hz
    clear hz
    go_wp2
    go_ret3
    refine ⟨?_, by repeat (first | exact Drawn0.refl _ | apply Drawn0.step)⟩
    rw [HG.out, if_pos ⟨by omega, by rw [← HH.out]; have := HZ.out; omega⟩]
    rfl
  · have e1 : ((h0 : Int) == 0) = false := by simpa using hz
    have HZ := Aside0.mk hz
    clear hz
    go_wp2
    clear en en2 e1 hx
    clear q0
    have hlen : (b.size : Int) = 4 := by rw [hbs.out]; rfl
    go_loopw [7, 8, 46] (fun v _ i wr => ∃ k : Nat, k ≤ b.size ∧ i = .int .i64 k ∧ v = .int .i64 (accB (b.data.toList.take k)) ∧ Drawn0 w wr) (fun _ _ i _ => b.size - (intOf i).toNat)
    case atStart => exact ⟨0, Nat.zero_le _, rfl, rfl, by repeat (first | exact Drawn0.refl _ | apply Drawn0.step)⟩
    case round =>
      obtain ⟨k, hk, rfl, rfl, ⟨n, rfl⟩⟩ := hrel
      by_cases hlt : k < b.size
      · have hb1 := accB_lt b k hk (by omega) hlt
        have hb2 := b[k].toNat_lt
        have hob := or_byte (accB (b.data.toList.take k)) (b[k].toNat : Int) hb1.1 hb1.2 (by omega) (by omega)
        have hnx := Aside0.mk (accB_take b k hlt)
        go_wp2
        go_roundw
        case rel => exact ⟨k + 1, by omega, by go_num, by rw [hnx.out], ⟨_, rfl⟩⟩
        case measure => simp [intOf]; omega
      · obtain rfl : k = b.size := by omega
        have haw := Aside0.mk (accB_whole b)
        go_wp2
        go_ret3
        refine ⟨?_, ⟨_, rfl⟩⟩
        rw [HG.out, if_neg (by rintro ⟨_, h⟩; have h1 := HH.out; have h2 := HZ.out; omega), haw.out]
        rfl
theorem codec_GetNumber.calls (a0 : ByteArray) (r1 : Int) (r2 : ByteArray) (r3 : Bool) (w : World) (h : codec_GetNumber.f a0 = some (r1, r2, r3)) :
    Calls Try.prog 65 #[.string a0] w fun e w' => e = .returned (.tuple #[.int .i64 r1, .string r2, .bool r3]) ∧ Drawn0 w w' := by
  have hg : getNum a0 = (r1, r2, r3) := by simpa [codec_GetNumber.f] using h
  by_cases hno : a0.size = 0 ∨ 4 < hd a0 ∨ a0.size ≤ hd a0
  · have h2 := getNum_no hno
    rw [hg] at h2
    simp only [Prod.mk.injEq] at h2
    obtain ⟨rfl, rfl, rfl⟩ := h2
    exact codec_GetNumber_no a0 w hno
  · have q : 0 < a0.size := by omega
    have h5 : hd a0 < a0.size := by omega
    have hm : hd a0 = 0 ∨ hd a0 = 1 ∨ hd a0 = 2 ∨ hd a0 = 3 ∨ hd a0 = 4 := by omega
    rcases hm with hm | hm | hm | hm | hm
    · have := codec_GetNumber_0 a0 w q hm (by omega); rw [hg] at this; exact this
    · have := codec_GetNumber_1 a0 w q hm (by omega); rw [hg] at this; exact this
    · have := codec_GetNumber_2 a0 w q hm (by omega); rw [hg] at this; exact this
    · have := codec_GetNumber_3 a0 w q hm (by omega); rw [hg] at this; exact this
    · have := codec_GetNumber_4 a0 w q hm (by omega); rw [hg] at this; exact this
end Go.Proofs.Ytfdpebipnapelaa.P
/-
  (*meta.reader).number, by hand.
-/
namespace Go.Proofs.Ytfdpebipnapelaa.P
open Go.RowKit Go.Proofs Go.Proofs.CodecPlain Go.Proofs.YtfdpebipnapelaaW.PrintWords Go.Proofs.YtfdpebipnapelaaW.PrintLast

set_option maxHeartbeats 4000000 in
theorem number_yes (g : Nat) (s : ByteArray) (x : Int) (rest : ByteArray) (w : World) (hb : w.heap[g]? = some (.cells #[.string s] 71 (0, 0))) (h : getNum s = (x, rest, true)) :
    Calls Try.prog 48 #[.pointer (some ⟨g, 0, none⟩)] w fun e w' => e = .returned (.int .i64 x) ∧ ∃ n, w' = (w.drewN n).setCell ⟨g, 0, none⟩ (.string rest) := by
  have HN := Aside0.mk (fun W => codec_GetNumber.calls s x rest true W (by unfold codec_GetNumber.f; rw [h]))
  have c0 := blk_cell hb 0
  have f0 := blk_frozen hb 0
  have HB := Aside0.mk hb
  clear h hb
  go_enter Try.func48, Try.ntmps48
  go_wp2_with (first | (go_at_call 65; (with_reducible refine (HN.out _).mono ?_); rintro e w4 ⟨rfl, ⟨nd, rfl⟩⟩))
  go_ret
  exact ⟨rfl, nd, rfl⟩
set_option maxHeartbeats 4000000 in
theorem number_no (g : Nat) (s : ByteArray) (x : Int) (rest : ByteArray) (w : World) (hb : w.heap[g]? = some (.cells #[.string s] 71 (0, 0))) (h : getNum s = (x, rest, false)) :
    Calls Try.prog 48 #[.pointer (some ⟨g, 0, none⟩)] w fun e w' => e = .panicked [{ v := .iface 27 (.int .i64 30), recovered := false }] ∧ ∃ n, w' = w.drewN n := by
  have HN := Aside0.mk (fun W => codec_GetNumber.calls s x rest false W (by unfold codec_GetNumber.f; rw [h]))
  have c0 := blk_cell hb 0
  have f0 := blk_frozen hb 0
  have HB := Aside0.mk hb
  clear h hb
  go_enter Try.func48, Try.ntmps48
  go_wp2_with (first | (go_at_call 65; (with_reducible refine (HN.out _).mono ?_); rintro e w4 ⟨rfl, ⟨nd, rfl⟩⟩))
  exact ⟨rfl, rfl, nd, rfl⟩
/-- The world behind a number that was read: the reader has another text, no other block has turned. -/
structure OnlyAt (g : Nat) (o : Obj) (w w' : World) : Prop where
  here : w'.heap[g]? = some o
  far : ∀ k, k ≠ g → w'.heap[k]? = w.heap[k]?
  size : w'.heap.size = w.heap.size
  keeps : ∀ (B : Nat) (w0 : World), B ≤ g → Below B w0 w → Below B w0 w'
theorem OnlyAt.blk {g k : Nat} {o o' : Obj} {w w' : World} (h : OnlyAt g o w w') (hk : w.heap[k]? = some o') (hne : k ≠ g) : w'.heap[k]? = some o' := (h.far k hne).trans hk
theorem OnlyAt.R {α : Type} {d : Kd α} {e : Nat} {base : Nat} {ok : Nat → Prop} {v : Value} {xs : List α} {g t : Nat} {cs : Array Value} {o : Obj} {w w' : World} (h : OnlyAt g o w w') (hr : d.R e w base ok v xs) (hb : w.heap[g]? = some (.cells cs t (0, 0))) (hE : ∀ q, q ∈ e :: d.E → q ≠ t) : d.R e w' base ok v xs :=
  Kd.R_mono (Kd.R_step (Kd.R_types hr hb hE) (fun k hk _ => h.far k hk.2)) (fun _ hk => hk.1)
theorem onlyAt_put (g : Nat) (s rest : ByteArray) (w : World) (n : Nat) (hb : w.heap[g]? = some (.cells #[.string s] 71 (0, 0))) : OnlyAt g (.cells #[.string rest] 71 (0, 0)) w ((w.drewN n).setCell ⟨g, 0, none⟩ (.string rest)) :=
  ⟨blk_set (blk_drewN hb n) 0 _, fun k hk => Below.heap_setCell _ ⟨g, 0, none⟩ _ k hk, by rw [World.size_setCell]; rfl, fun B w0 hB h => (pw_below_drewN h n).setCell (p := ⟨g, 0, none⟩) hB _⟩
theorem number_reads (g : Nat) (s : ByteArray) (x : Int) (rest : ByteArray) (w : World) (hb : w.heap[g]? = some (.cells #[.string s] 71 (0, 0))) (h : getNum s = (x, rest, true)) :
    Calls Try.prog 48 #[.pointer (some ⟨g, 0, none⟩)] w fun e w' => e = .returned (.int .i64 x) ∧ Aside0 (OnlyAt g (.cells #[.string rest] 71 (0, 0)) w w') := by
  refine (number_yes g s x rest w hb h).mono ?_
  rintro e w' ⟨rfl, n, rfl⟩
  exact ⟨rfl, ⟨onlyAt_put g s rest w n hb⟩⟩
end Go.Proofs.Ytfdpebipnapelaa.P
/-
  meta.Get's deferred closure and its door, by hand.
-/
namespace Go.Proofs.Ytfdpebipnapelaa.P
open Go.RowKit Go.Proofs Go.Proofs.CodecPlain Go.Proofs.YtfdpebipnapelaaW.PrintWords Go.Proofs.YtfdpebipnapelaaW.PrintLast

/-- A meta's cells. -/
def blkE (a b : Int) (v : Value) : Array Value := #[.int .i64 a, .int .i64 b, v]
theorem zero_meta (w : World) : Sem.run Try.prog (zeroValue 24) w = .ok (.agg #[.int .i64 0, .int .i64 0, .slice none 0 0]) w := by kernel_rfl
theorem zero_errno (w : World) : Sem.run Try.prog (zeroValue 27) w = .ok (.int .i64 0) w := by kernel_rfl
attribute [local go_sem] zero_meta zero_errno
theorem blkE_one (a b : Int) (v : Value) (hv : v.oneCell' = true) : ∀ q ∈ (blkE a b v).toList, q.oneCell' = true := by
  intro q hq
  simp only [blkE, List.mem_cons, List.not_mem_nil, or_false] at hq
  rcases hq with rfl | rfl | rfl <;> first | rfl | exact hv
/-- A whole meta stored into a meta's block. -/
theorem store_meta {W : World} {g : Nat} {cur : Array Value} (hh : W.heap[g]? = some (.cells cur 24 (0, 0))) (hs : cur.size = 3) (a b : Int) (v : Value) (hv : v.oneCell' = true) :
    (Instr.storeAt 24 (.pointer (some ⟨g, 0, none⟩)) (.agg (blkE a b v))).run Try.prog W = .ok () (W.setCells g 0 (blkE a b v).toList) ∧
    (W.setCells g 0 (blkE a b v).toList).heap[g]? = some (.cells (blkE a b v) 24 (0, 0)) := by
  have hl : (blkE a b v).toList.length = 3 := rfl
  refine ⟨run_store_run (P := Try.prog) (o := 0) 24 _ _ hh rfl (by rw [hl]; kernel_rfl) (by omega) (blkE_one a b v hv), ?_⟩
  obtain ⟨cur', h1, h2, h3⟩ := setCells_row (blkE a b v).toList 0 W cur hh (by omega)
  rw [h1]
  have : cur' = blkE a b v := by
    apply Array.toList_inj.1
    rw [h3, List.take_zero, List.nil_append, hl, List.drop_of_length_le (by rw [Array.length_toList]; omega), List.append_nil]
  rw [this]
theorem belowE_cells {B g : Nat} {w W : World} (h : Below B w W) (hg : B ≤ g) (vs : List Value) : Below B w (W.setCells g 0 vs) := by
  have hs := setCells_same g vs 0 W
  exact h.trans ⟨hs.1, hs.2.1, hs.2.2.1, Nat.le_of_eq hs.2.2.2.symm, fun k hk => setCells_far _ _ k (by omega)⟩
set_option maxHeartbeats 4000000 in
set_option maxRecDepth 100000 in
/-- The world behind the closure that has caught a panic. -/
theorem catch_panics (g2 g3 : Nat) (a b : Int) (v : Value) (er : Int) (w : World) (h2 : w.heap[g2]? = some (.cells (blkE a b v) 24 (0, 0))) (h3 : w.heap[g3]? = some (.cells #[.int .i64 er] 27 (0, 0))) :
    CallsD Try.prog 47 #[.pointer (some ⟨g2, 0, none⟩), .pointer (some ⟨g3, 0, none⟩)] (.panicking [{ v := .iface 27 (.int .i64 30), recovered := false }]) w fun e u' w' =>
      e = .returned (.tuple #[]) ∧ u' = .panicking [{ v := .iface 27 (.int .i64 30), recovered := true }] ∧ w'.heap[g2]? = some (.cells (blkE 0 0 (.slice none 0 0)) 24 (0, 0)) ∧ w'.heap[g3]? = some (.cells #[.int .i64 30] 27 (0, 0)) ∧ Below (min g2 g3) w w' := by
  have a0 := blk_cell h2 0
  have a1 := blk_cell h2 1
  have a2 := blk_cell h2 2
  have b0 := blk_cell h3 0
  have f0 := blk_frozen h2 0
  have f1 := blk_frozen h2 1
  have f2 := blk_frozen h2 2
  have k0 := blk_frozen h3 0
  have hne : g3 ≠ g2 := by
    rintro rfl
    rw [h2] at h3
    injection h3 with h3
    injection h3 with h3
    simp [blkE] at h3
  have H2 := Aside0.mk h2
  have H3 := Aside0.mk h3
  clear h2 h3 a0 a1 a2 b0 f0 f1 f2 k0
  have hta : (Instr.typeAssert (.iface 27 (.int .i64 30)) 20 27 true).run Try.prog w = .ok (.tuple #[.int .i64 30, .bool true]) w := by kernel_rfl
  refine callsD_of_wpS Try.func47 rfl fun c₀ cs hu => ?_
  apply wpS_seq
  apply wpS_region
  simp [wpOpsS, go_sem, recoverD, hu, Try.ntmps47, Exit.thenS, hta]
  refine wpS_of_wp ?_
  change Code.wp _ _ _ { tmps := #[.pointer (some ⟨g2, 0, none⟩), .pointer (some ⟨g3, 0, none⟩), .int .i64 30, .bool true, .tuple #[.int .i64 30, .bool true], .iface 27 (.int .i64 30), .tuple #[.int .i64 30, .bool true], .int .i64 30, .bool true, undef, undef, undef], defers := [] } w
  go_wp2_with (first | ((with_reducible refine gate_store (t := 24) (p := 0) rfl ?_); refine store_event (t := 24) (p := 0) (w1 := w.setCells g2 0 (blkE 0 0 (.slice none 0 0)).toList) rfl rfl rfl ?hr ?_; (case hr => (unfold execOp; simp only [Act.eval, Sem.run_bind, Sem.run_pure, Result.andThen_ok]; show ((Sem.run Try.prog (Instr.storeAt 24 (.pointer (some ⟨g2, 0, none⟩)) (.agg (blkE 0 0 (.slice none 0 0)))) w).andThen _) = _; rw [(store_meta H2.out rfl 0 0 (.slice none 0 0) rfl).1]; try rfl)); intro w5 hw5; have HC5 := Aside0.mk (hw5 ▸ (store_meta H2.out rfl 0 0 (.slice none 0 0) rfl).2 : w5.heap[g2]? = some (.cells (blkE 0 0 (.slice none 0 0)) 24 (0, 0))); have HD5 := Aside0.mk (show w5.heap[g3]? = some (.cells #[.int .i64 er] 27 (0, 0)) by rw [hw5, setCells_far _ _ g3 (by omega)]; exact H3.out); have HB5 := Aside0.mk (show Below (min g2 g3) w w5 by rw [hw5]; exact belowE_cells (Below.refl _ _) (by omega) _); clear hw5; have b5 := blk_cell HD5.out 0; have k5 := blk_frozen HD5.out 0))
  exact ⟨rfl, _, rfl, .tuple #[], by simp [results, Try.results47, go_sem], rfl, rfl, blk_far HC5.out (p := ⟨g3, 0, none⟩) (by show g2 ≠ g3; omega) _, blk_set HD5.out 0 _, HB5.out.setCell (p := ⟨g3, 0, none⟩) (by show min g2 g3 ≤ g3; omega) _⟩
set_option maxHeartbeats 4000000 in
set_option maxRecDepth 100000 in
/-- Without a panic the closure does nothing. -/
theorem catch_none (g2 g3 : Nat) (w : World) :
    CallsD Try.prog 47 #[.pointer (some ⟨g2, 0, none⟩), .pointer (some ⟨g3, 0, none⟩)] .returning w fun e u' w' => e = .returned (.tuple #[]) ∧ u' = .returning ∧ w' = w := by
  have hta : (Instr.typeAssert .nilIface 20 27 true).run Try.prog w = .ok (.tuple #[.int .i64 0, .bool false]) w := by kernel_rfl
  refine callsD_of_wpS Try.func47 rfl fun c₀ cs hu => ?_
  apply wpS_seq
  apply wpS_region
  simp [wpOpsS, go_sem, recoverD, hu, Try.ntmps47, Exit.thenS, hta]
  refine wpS_of_wp ?_
  change Code.wp _ _ _ { tmps := #[.pointer (some ⟨g2, 0, none⟩), .pointer (some ⟨g3, 0, none⟩), .int .i64 0, .bool false, .tuple #[.int .i64 0, .bool false], .nilIface, .tuple #[.int .i64 0, .bool false], .int .i64 0, .bool false, undef, undef, undef], defers := [] } w
  go_wp2
  cases c₀
  exact ⟨rfl, _, rfl, .tuple #[], by simp [results, Try.results47, go_sem], rfl, hu, rfl⟩

/-- What meta.Get makes of numbers and what stands behind. -/
def metaG2 (a b : Int) (r : List Int × ByteArray × Bool) : Int × Int × List Int × Int := if r.2.2 = true ∧ r.2.1 = ⟨#[]⟩ ∧ metaB a b r.1 = true then (a, b, r.1, 0) else (0, 0, [], 30)
def metaG (r : List Int × ByteArray × Bool) : Int × Int × List Int × Int :=
  match r with
  | ([a, b, c], rest, true) => if c ≤ 16 then metaG2 a b (readNs c.toNat rest) else (0, 0, [], 30)
  | _ => (0, 0, [], 30)
theorem metaG_no {r : List Int × ByteArray × Bool} (h : r.2.2 = false) : metaG r = (0, 0, [], 30) := by
  obtain ⟨l, s, b⟩ := r
  simp only at h
  subst h
  unfold metaG
  split
  · rename_i e; injection e with _ e; injection e with _ e; cases e
  · rfl
def meta_Get.f (a0 : ByteArray) : Option (Int × Int × List Int × Int) := some (metaG (readNs 3 a0))
/-- The end of the call: what is told, and what has become of memory. -/
def GetPost (S : Int × Int × List Int × Int) (w : World) (e : Ending) (w' : World) : Prop := ∃ r1 r2 r3 r4, S = (r1, r2, r3, r4) ∧ ∃ v2_ : Value, e = .returned (.tuple #[.agg #[.int .i64 r1, .int .i64 r2, v2_], .int .i64 r4]) ∧ Kd.R (Kd.int .i64) 3 w' w.heap.size (fun _ => True) v2_ r3 ∧ Below w.heap.size w w'
set_option maxHeartbeats 4000000 in
set_option maxRecDepth 100000 in
theorem door_panics (S : Int × Int × List Int × Int) (w : World) (tm : Array Value) (a b : Int) (v : Value) (er : Int) (W : World) (hS : Aside0 (S = (0, 0, [], 30))) (h2 : tm[2]? = some (.pointer (some ⟨w.heap.size, 0, none⟩))) (h3 : tm[3]? = some (.pointer (some ⟨w.heap.size + 1, 0, none⟩)))
    (hm : Aside0 (W.heap[w.heap.size]? = some (.cells (blkE a b v) 24 (0, 0)))) (he : Aside0 (W.heap[w.heap.size + 1]? = some (.cells #[.int .i64 er] 27 (0, 0)))) (hB : Aside0 (Below w.heap.size w W)) :
    bodyPostD Try.prog Try.f16 (GetPost S w) (.panic [{ v := .iface 27 (.int .i64 30), recovered := false }]) { tmps := tm, defers := [{ target := .fn (.func 47) #[.pointer (some ⟨w.heap.size, 0, none⟩), .pointer (some ⟨w.heap.size + 1, 0, none⟩)], args := #[] }] } W := by
  refine leaves_cons (f := 47) (args := #[.pointer (some ⟨w.heap.size, 0, none⟩), .pointer (some ⟨w.heap.size + 1, 0, none⟩)]) (by simp) (by simp [go_sem]) ?_
  refine (catch_panics w.heap.size (w.heap.size + 1) a b v er W hm.out he.out).mono ?_
  rintro e u' w'' ⟨rfl, rfl, hm2, he2, hB2⟩
  have c0 := blk_cell hm2 0
  have c1 := blk_cell hm2 1
  have c2 := blk_cell hm2 2
  have d0 := blk_cell he2 0
  simp only [blkE, List.getElem?_toArray, List.getElem?_cons_zero, List.getElem?_cons_succ] at c0 c1 c2 d0
  have hpost : GetPost S w (.returned (.tuple #[.agg #[.int .i64 0, .int .i64 0, .slice none 0 0], .int .i64 30])) w'' :=
    ⟨0, 0, [], 30, hS.out, _, rfl, Kd.R_nil _ _ _ _ _, hB.out.trans (hB2.mono (by omega))⟩
  simp [Leaves, settle, results, Try.results16, go_sem, h2, h3, c0, c1, c2, d0, hpost]
/-- At a panic the results' places alone count. -/
theorem leaves_put {tm : Array Value} {R : Ending → World → Prop} (N : Nat) (h2 : N ≠ 2) (h3 : N ≠ 3) (x : Value) : ∀ (ds : List Deferred) (u : FrameMode) (w : World), Leaves Try.prog Try.f16 (tm.setIfInBounds N x) R ds u w → Leaves Try.prog Try.f16 tm R ds u w := by
  intro ds
  induction ds with
  | nil =>
    intro u w h
    cases u with
    | returning =>
      obtain ⟨v, h1, h4⟩ := h
      refine ⟨v, ?_, h4⟩
      rw [← h1]
      have a2 : (tm.setIfInBounds N x)[2]? = tm[2]? := by rw [Array.getElem?_setIfInBounds_ne h2]
      have a3 : (tm.setIfInBounds N x)[3]? = tm[3]? := by rw [Array.getElem?_setIfInBounds_ne h3]
      simp [results, Try.results16, a2, a3]
    | panicking c => exact h
    | run => exact h
  | cons d ds ih =>
    intro u w h
    obtain ⟨h0, fv, cap, f, args, h1, h4, h5⟩ := h
    refine ⟨h0, fv, cap, f, args, h1, h4, h5.mono fun e u' w' hh => ?_⟩
    cases e with
    | returned v => exact ih _ _ hh
    | panicked c => exact ih _ _ hh
    | outgrown => exact hh
theorem put_door {R : Ending → World → Prop} {c : List PanicEntry} {N : Nat} (h2 : N ≠ 2) (h3 : N ≠ 3) {x : Value} {a : Act} {w : World} (h : bodyPostD Try.prog Try.f16 R (.panic c) (a.put (some N) x) w) : bodyPostD Try.prog Try.f16 R (.panic c) a w := leaves_put N h2 h3 x _ _ _ h
set_option maxHeartbeats 4000000 in
set_option maxRecDepth 100000 in
theorem door_returns (S : Int × Int × List Int × Int) (w : World) (tm : Array Value) (a b : Int) (v : Value) (l : List Int) (er : Int) (W : World) (hS : Aside0 (S = (a, b, l, er))) (h2 : tm[2]? = some (.pointer (some ⟨w.heap.size, 0, none⟩))) (h3 : tm[3]? = some (.pointer (some ⟨w.heap.size + 1, 0, none⟩)))
    (hm : Aside0 (W.heap[w.heap.size]? = some (.cells (blkE a b v) 24 (0, 0)))) (he : Aside0 (W.heap[w.heap.size + 1]? = some (.cells #[.int .i64 er] 27 (0, 0)))) (hO : Aside0 (Kd.R (Kd.int .i64) 3 W w.heap.size (fun _ => True) v l)) (hB : Aside0 (Below w.heap.size w W)) :
    bodyPostD Try.prog Try.f16 (GetPost S w) .ret { tmps := tm, defers := [{ target := .fn (.func 47) #[.pointer (some ⟨w.heap.size, 0, none⟩), .pointer (some ⟨w.heap.size + 1, 0, none⟩)], args := #[] }] } W := by
  refine leaves_cons (f := 47) (args := #[.pointer (some ⟨w.heap.size, 0, none⟩), .pointer (some ⟨w.heap.size + 1, 0, none⟩)]) (by simp) (by simp [go_sem]) ?_
  refine (catch_none w.heap.size (w.heap.size + 1) W).mono ?_
  rintro e u' w'' ⟨rfl, rfl, rfl⟩
  have c0 := blk_cell hm.out 0
  have c1 := blk_cell hm.out 1
  have c2 := blk_cell hm.out 2
  have d0 := blk_cell he.out 0
  simp only [blkE, List.getElem?_toArray, List.getElem?_cons_zero, List.getElem?_cons_succ] at c0 c1 c2 d0
  have hpost : GetPost S w (.returned (.tuple #[.agg #[.int .i64 a, .int .i64 b, v], .int .i64 er])) w'' :=
    ⟨a, b, l, er, hS.out, _, rfl, hO.out, hB.out⟩
  simp [Leaves, settle, results, Try.results16, go_sem, h2, h3, c0, c1, c2, d0, hpost]
end Go.Proofs.Ytfdpebipnapelaa.P
/-
  A call through a function value that is known, in a region that draws its order: it returns, or it panics.
-/
namespace Go.Proofs.Ytfdpebipnapelaa.CallV
open Go.Proofs Go.Proofs.YtfdpebipnapelaaW.PrintWords Go.Proofs.YtfdpebipnapelaaW.PrintLast
variable {P : Program} {ops : Array Oper} {Q : Exit → Act → World → Prop}

/-- The operation's run: the function value is entered. -/
theorem runV_ {oi : Oper} {a : Act} {w : World} {f : FuncId} {fn : Func} {t : Operand} {xs : Array Operand} {ts : Array TypeId} {first cap : Array Value} (hf : P.funcs[f]? = some fn) (hname : (fn.name == "runtime.NumGoroutine") = false) (hb : fn.body.isSome = true) (args : Array Value)
    (hop : oi.op = .call { callee := .value t, args := xs, argTypes := ts }) (ht : a.eval t = .func (.func f) first cap) (hargs : first ++ xs.map a.eval ++ cap = args) :
    (execOp a.eval oi).run P w = .ok (.enter f args) w := by
  have he := enters_ hf hname hb args w
  unfold execOp
  simp [hop, resolve, ht, Deferred.ofValue, invoke, hargs, he]
/-- It returns. -/
theorem goesV_ {oi : Oper} {N : Option Tmp} {a : Act} {w : World} {K : Act → World → Prop} {f : FuncId} {fn : Func} {t : Operand} {xs : Array Operand} {ts : Array TypeId} {first cap : Array Value} (hf : P.funcs[f]? = some fn) (hname : (fn.name == "runtime.NumGoroutine") = false) (hb : fn.body.isSome = true) (args : Array Value)
    (hw : Region.wanted oi (yielded ops a.tmps) = true) (hN : oi.dst = N) (hop : oi.op = .call { callee := .value t, args := xs, argTypes := ts }) (ht : a.eval t = .func (.func f) first cap) (hargs : first ++ xs.map a.eval ++ cap = args)
    (h : Calls P f args w fun e w' => ∃ v, e = .returned v ∧ K (a.put N v) w') : if Region.wanted oi (yielded ops a.tmps) = true then Oper.wp P oi a w K Q else K (a.put N undef) w :=
  call_ f args hw hN (runV_ hf hname hb args hop ht hargs) h
/-- It panics. -/
theorem failsV_ {oi : Oper} {N : Option Tmp} {a : Act} {w : World} {K : Act → World → Prop} {f : FuncId} {fn : Func} {t : Operand} {xs : Array Operand} {ts : Array TypeId} {first cap : Array Value} (hf : P.funcs[f]? = some fn) (hname : (fn.name == "runtime.NumGoroutine") = false) (hb : fn.body.isSome = true) (args : Array Value)
    (hw : Region.wanted oi (yielded ops a.tmps) = true) (hop : oi.op = .call { callee := .value t, args := xs, argTypes := ts }) (ht : a.eval t = .func (.func f) first cap) (hargs : first ++ xs.map a.eval ++ cap = args)
    (h : Calls P f args w fun e w' => ∃ c, e = .panicked c ∧ Q (.panic c) a w') : if Region.wanted oi (yielded ops a.tmps) = true then Oper.wp P oi a w K Q else K (a.put N undef) w := by
  rw [if_pos hw]
  unfold Oper.wp
  rw [runV_ hf hname hb args hop ht hargs, Oper.upon_enter]
  refine h.mono fun e w'' hh => ?_
  obtain ⟨c, rfl, hk⟩ := hh
  exact hk
/-- A store's run. -/
theorem storeRun_ {oi : Oper} {a : Act} {W W1 : World} {t : TypeId} {p x : Operand} {pv xv : Value} (hop : oi.op = .store t p x) (hp : a.eval p = pv) (hx : a.eval x = xv) (h : (Instr.storeAt t pv xv).run P W = .ok () W1) : (execOp a.eval oi).run P W = .ok .skip W1 := by
  unfold execOp
  simp only [hop, hp, hx, Sem.run_bind, Sem.run_pure, Result.andThen_ok]
  show ((Sem.run P (Instr.storeAt t pv xv) W).andThen _) = _
  rw [h]
  rfl
end Go.Proofs.Ytfdpebipnapelaa.CallV
/-
  meta.Get, by hand: the numbers are there.
-/
namespace Go.Proofs.Ytfdpebipnapelaa.P
open Go.RowKit Go.Proofs Go.Proofs.CodecPlain Go.Proofs.YtfdpebipnapelaaW.PrintWords Go.Proofs.YtfdpebipnapelaaW.PrintLast

attribute [local go_sem] zero_meta zero_errno
set_option maxHeartbeats 16000000 in
set_option maxRecDepth 100000 in
theorem meta_Get_yes (s s1 s2 s3 : ByteArray) (x1 x2 x3 : Int) (w : World) (HG1 : Aside0 (getNum s = (x1, s1, true))) (HG2 : Aside0 (getNum s1 = (x2, s2, true))) (HG3 : Aside0 (getNum s2 = (x3, s3, true))) (S : Int × Int × List Int × Int) (HS : Aside0 (S = metaG2 x1 x2 (readNs x3.toNat s3))) (hx30 : 0 ≤ x3) (h16 : x3 ≤ 16) :
    Calls Try.prog 16 #[.string s] w (GetPost S w) := by
  have hmf : ∀ (fn : Fn) (first cap : Array Value) (w : World), (Instr.makeFunc fn first cap).run Try.prog w = .ok (.func fn first cap) w := fun _ _ _ _ => rfl
  have HE0 : Aside0 ((((w.alloc (.cells #[.int .i64 0, .int .i64 0, .slice none 0 0] 24)).alloc (.cells #[.int .i64 0] 27)).alloc (.cells #[.string s] 71)).heap[w.heap.size]? = some (.cells (blkE 0 0 (.slice none 0 0)) 24 (0, 0))) := ⟨blk_alloc (blk_alloc (blk_new w (.cells #[.int .i64 0, .int .i64 0, .slice none 0 0] 24)) (.cells #[.int .i64 0] 27)) (.cells #[.string s] 71)⟩
  have hq := blk_alloc (blk_new (w.alloc (.cells #[.int .i64 0, .int .i64 0, .slice none 0 0] 24)) (.cells #[.int .i64 0] 27)) (.cells #[.string s] 71)
  rw [World.size_alloc] at hq
  have HX0 := Aside0.mk hq
  have hr := blk_new ((w.alloc (.cells #[.int .i64 0, .int .i64 0, .slice none 0 0] 24)).alloc (.cells #[.int .i64 0] 27)) (.cells #[.string s] 71)
  rw [World.size_alloc, World.size_alloc] at hr
  have HR0 := Aside0.mk hr
  have HB0 := Aside0.mk ((((Below.refl w.heap.size w).alloc (Nat.le_refl _) (.cells #[.int .i64 0, .int .i64 0, .slice none 0 0] 24)).alloc (by simp) (.cells #[.int .i64 0] 27)).alloc (by simp; omega) (.cells #[.string s] 71))
  clear hq hr
  have h16b : decide (16 < x3) = false := decide_eq_false (by omega)
  go_enter_defers Try.func16, Try.ntmps16
  go_wp2_with (first | (go_at_call 48; (with_reducible refine (number_reads (w.heap.size + 1 + 1) s x1 s1 _ ?hb HG1.out).mono ?_); (case hb => exact HR0.out); rintro e w1 ⟨rfl, HO⟩; have HR1 := Aside0.mk HO.out.here; have HX1 := Aside0.mk (HO.out.blk HX0.out (by omega)); have HE1 := Aside0.mk (HO.out.blk HE0.out (by omega)); have HB1 := Aside0.mk (HO.out.keeps _ _ (by omega) HB0.out); clear HO; have e1 := blk_cell HE1.out 0; have f1 := blk_frozen HE1.out 0; have HF1 := Aside0.mk (blk_set HE1.out 0 (.int .i64 x1))) | (go_at_call 48; (with_reducible refine (number_reads (w.heap.size + 1 + 1) s1 x2 s2 _ ?hb HG2.out).mono ?_); (case hb => exact (blk_far HR1.out (by show w.heap.size + 1 + 1 ≠ w.heap.size; omega) _)); rintro e w2 ⟨rfl, HO⟩; have HR2 := Aside0.mk HO.out.here; have HX2 := Aside0.mk (HO.out.blk (blk_far HX1.out (by show w.heap.size + 1 ≠ w.heap.size; omega) _) (by omega)); have HE2 := Aside0.mk (HO.out.blk HF1.out (by omega)); have HB2 := Aside0.mk (HO.out.keeps _ _ (by omega) (HB1.out.setCell (p := ⟨w.heap.size, 0, none⟩) (Nat.le_refl _) _)); clear HO; have e2 := blk_cell HE2.out 1; have f2 := blk_frozen HE2.out 1; have HF2 := Aside0.mk (blk_set HE2.out 1 (.int .i64 x2))) | (go_at_call 48; (with_reducible refine (number_reads (w.heap.size + 1 + 1) s2 x3 s3 _ ?hb HG3.out).mono ?_); (case hb => exact (blk_far HR2.out (by show w.heap.size + 1 + 1 ≠ w.heap.size; omega) _)); rintro e w3 ⟨rfl, HO⟩; have HR3 := Aside0.mk HO.out.here; have HX3 := Aside0.mk (HO.out.blk (blk_far HX2.out (by show w.heap.size + 1 ≠ w.heap.size; omega) _) (by omega)); have HE3 := Aside0.mk (HO.out.blk HF2.out (by omega)); have HB3 := Aside0.mk (HO.out.keeps _ _ (by omega) (HB2.out.setCell (p := ⟨w.heap.size, 1, none⟩) (Nat.le_refl _) _)); clear HO))
  obtain ⟨n, rfl⟩ : ∃ n : Nat, x3 = (n : Int) := ⟨x3.toNat, by omega⟩
  have hn16 : n ≤ 16 := by omega
  clear HG1 HG2 HG3 HE0 HX0 HR0 HB0 HE1 HE2 HX1 HX2 HR1 HR2 HB1 HB2 e1 e2 f1 f2 h16 h16b hx30
  go_loopw [25] (fun i wr => ∃ (k : Nat) (l : List Int) (sk : ByteArray) (v : Value), k ≤ n ∧ i = .int .i64 k ∧ Aside0 (readNs n s3 = aftNs l (readNs (n - k) sk)) ∧ Aside0 (l.length = k) ∧ Aside0 (Kd.R (Kd.int .i64) 3 wr w.heap.size (fun _ => True) v l) ∧ Aside0 (wr.heap[w.heap.size]? = some (.cells (blkE x1 x2 v) 24 (0, 0))) ∧ Aside0 (wr.heap[w.heap.size + 1]? = some (.cells #[.int .i64 0] 27 (0, 0))) ∧ Aside0 (wr.heap[w.heap.size + 1 + 1]? = some (.cells #[.string sk] 71 (0, 0))) ∧ Aside0 (Below w.heap.size w wr))
    (fun i _ => n - (intOf i).toNat)
  case atStart => exact ⟨0, [], s3, .slice none 0 0, Nat.zero_le _, rfl, ⟨by simp [aftNs]⟩, ⟨rfl⟩, ⟨Kd.R_nil _ _ _ _ _⟩, HE3, HX3, HR3, HB3⟩
  case round =>
    clear HE3 HX3 HR3 HB3
    obtain ⟨k, l, sk, v, hk, rfl, HN, HL, HO, HE, HX, HR, HB⟩ := hrel
    by_cases hlt : k < n
    · obtain ⟨x, sn, ok, hgn⟩ : ∃ x s' ok, getNum sk = (x, s', ok) := ⟨_, _, _, rfl⟩
      have HGn := Aside0.mk hgn
      clear hgn
      obtain ⟨Av, cv, rfl⟩ := Kd.R_slice HO.out
      have e2_ := blk_cell HE.out 2
      have f2_ := blk_frozen HE.out 2
      simp only [blkE, List.getElem?_toArray, List.getElem?_cons_zero, List.getElem?_cons_succ] at e2_
      cases ok
      · have hst : Aside0 (S = (0, 0, [], 30)) := ⟨by
          rw [HS.out, show ((n : Int)).toNat = n from by omega, HN.out]
          obtain ⟨d, hd⟩ : ∃ d, n - k = d + 1 := ⟨n - k - 1, by omega⟩
          have := readNs_stop l d sk (by rw [HGn.out])
          rw [hd]
          unfold metaG2
          rw [if_neg (by rw [this]; simp)]⟩
        go_wp2
        have HRd := Aside0.mk (blk_drew HR.out)
        have HEd := Aside0.mk (blk_drew HE.out)
        have HXd := Aside0.mk (blk_drew HX.out)
        have HOd := Aside0.mk (Kd.R_drew HO.out)
        have HBd := Aside0.mk (below_drew1 HB.out)
        refine start_ (n := 8) (S := fun w' => w'.cell? ⟨w.heap.size, 2, none⟩ = some (.slice Av l.length cv)) (ds := [7]) #[false, false, false, false, false, false, false, false] (by kernel_rfl) rfl rfl (((blk_cell HEd.out 2).trans rfl)) (fun hHeld => ?_)
        generalize wr.drew = wd at HRd HEd HXd HOd HBd hHeld ⊢
        refine pure_ (i := 0) (N := some 27) (v := ?_) (a' := ?_) #[true, false, false, false, false, false, false, false] rfl rfl (by kernel_rfl) (fun _ _ _ h => put_door (by decide) (by decide) h) (Or.inl ⟨by rfl, ?_⟩) ?_ ?_
        rotate_left
        · intro w'
          go_simp
          with_reducible rfl
        rotate_left
        · simp only [Act.put, List.setIfInBounds_toArray, List.set_cons_zero, List.set_cons_succ, i64_w, i32_w]
          rfl
        refine pure_ (i := 2) (N := some 29) (v := ?_) (a' := ?_) #[true, false, true, false, false, false, false, false] rfl rfl (by kernel_rfl) (fun _ _ _ h => put_door (by decide) (by decide) h) (Or.inl ⟨by rfl, ?_⟩) ?_ ?_
        rotate_left
        · intro w'
          go_simp
          with_reducible rfl
        rotate_left
        · simp only [Act.put, List.setIfInBounds_toArray, List.set_cons_zero, List.set_cons_succ, i64_w, i32_w]
          rfl
        refine take_ (i := 1) (N := some 28) (v := ?_) (a' := ?_) #[true, true, true, false, false, false, false, false] rfl rfl (by kernel_rfl) (fun _ _ _ h => put_door (by decide) (by decide) h) (Or.inl ⟨by rfl, ?_⟩) hHeld ?_ ?_
        rotate_left
        · intro w' s0
          go_simp
          with_reducible rfl
        rotate_left
        · simp only [Act.put, List.setIfInBounds_toArray, List.set_cons_zero, List.set_cons_succ, i64_w, i32_w]
          rfl
        refine one_ (i := 3) (N := some 30) #[true, true, true, true, false, false, false, false] rfl rfl (by kernel_rfl) (by decide) (fun K hK => ?_)
        refine Go.Proofs.Ytfdpebipnapelaa.CallV.failsV_ (first := #[.pointer (some ⟨w.heap.size + 1 + 1, 0, none⟩)]) (cap := #[]) Try.func48 (by kernel_rfl) rfl #[.pointer (some ⟨w.heap.size + 1 + 1, 0, none⟩)] (by rfl) rfl rfl (by simp) ?_
        refine (number_no (w.heap.size + 1 + 1) sk x sn _ HRd.out HGn.out).mono ?_
        rintro e w5 ⟨rfl, nn, rfl⟩
        exact ⟨_, rfl, door_panics _ w _ x1 x2 _ 0 _ hst rfl rfl ⟨blk_drewN HEd.out nn⟩ ⟨blk_drewN HXd.out nn⟩ ⟨pw_below_drewN HBd.out nn⟩⟩
      · go_wp2
        have HRd := Aside0.mk (blk_drew HR.out)
        have HEd := Aside0.mk (blk_drew HE.out)
        have HXd := Aside0.mk (blk_drew HX.out)
        have HOd := Aside0.mk (Kd.R_drew HO.out)
        have HBd := Aside0.mk (below_drew1 HB.out)
        refine start_ (n := 8) (S := fun w' => w'.cell? ⟨w.heap.size, 2, none⟩ = some (.slice Av l.length cv)) (ds := [7]) #[false, false, false, false, false, false, false, false] (by kernel_rfl) rfl rfl (((blk_cell HEd.out 2).trans rfl)) (fun hHeld => ?_)
        generalize wr.drew = wd at HRd HEd HXd HOd HBd hHeld ⊢
        refine pure_ (i := 0) (N := some 27) (v := ?_) (a' := ?_) #[true, false, false, false, false, false, false, false] rfl rfl (by kernel_rfl) (fun _ _ _ h => put_door (by decide) (by decide) h) (Or.inl ⟨by rfl, ?_⟩) ?_ ?_
        rotate_left
        · intro w'
          go_simp
          with_reducible rfl
        rotate_left
        · simp only [Act.put, List.setIfInBounds_toArray, List.set_cons_zero, List.set_cons_succ, i64_w, i32_w]
          rfl
        refine pure_ (i := 2) (N := some 29) (v := ?_) (a' := ?_) #[true, false, true, false, false, false, false, false] rfl rfl (by kernel_rfl) (fun _ _ _ h => put_door (by decide) (by decide) h) (Or.inl ⟨by rfl, ?_⟩) ?_ ?_
        rotate_left
        · intro w'
          go_simp
          with_reducible rfl
        rotate_left
        · simp only [Act.put, List.setIfInBounds_toArray, List.set_cons_zero, List.set_cons_succ, i64_w, i32_w]
          rfl
        refine take_ (i := 1) (N := some 28) (v := ?_) (a' := ?_) #[true, true, true, false, false, false, false, false] rfl rfl (by kernel_rfl) (fun _ _ _ h => put_door (by decide) (by decide) h) (Or.inl ⟨by rfl, ?_⟩) hHeld ?_ ?_
        rotate_left
        · intro w' s0
          go_simp
          with_reducible rfl
        rotate_left
        · simp only [Act.put, List.setIfInBounds_toArray, List.set_cons_zero, List.set_cons_succ, i64_w, i32_w]
          rfl
        refine one_ (i := 3) (N := some 30) #[true, true, true, true, false, false, false, false] rfl rfl (by kernel_rfl) (by decide) (fun K hK => ?_)
        refine Go.Proofs.Ytfdpebipnapelaa.CallV.goesV_ (first := #[.pointer (some ⟨w.heap.size + 1 + 1, 0, none⟩)]) (cap := #[]) Try.func48 (by kernel_rfl) rfl #[.pointer (some ⟨w.heap.size + 1 + 1, 0, none⟩)] (by rfl) rfl rfl rfl (by simp) ?_
        refine (number_reads (w.heap.size + 1 + 1) sk x sn _ HRd.out HGn.out).mono ?_
        rintro e w5 ⟨rfl, HQ⟩
        refine ⟨_, rfl, ?_⟩
        have HR5 := Aside0.mk HQ.out.here
        have HE5 := Aside0.mk (HQ.out.blk HEd.out (by omega))
        have HX5 := Aside0.mk (HQ.out.blk HXd.out (by omega))
        have HB5 := Aside0.mk (HQ.out.keeps _ _ (by omega) HBd.out)
        have HO5 := Aside0.mk (HQ.out.R HOd.out HRd.out (by intro q hq; simp [Kd.int, Kd.scalar] at hq; subst hq; decide))
        clear HQ
        refine hK.out _ _ (((blk_cell HE5.out 2).trans rfl)) (fun hHeld => ?_)
        clear hK K
        refine norm_ (a' := ?_) ?_ ?_
        rotate_left
        · show Act.put _ (some 30) _ = _
          simp only [Act.put, List.setIfInBounds_toArray, List.set_cons_zero, List.set_cons_succ, i64_w, i32_w]
          rfl
        refine one_ (i := 4) (N := some 31) #[true, true, true, true, true, false, false, false] rfl rfl (by kernel_rfl) (by decide) (fun K hK => ?_)
        refine value_ (w1 := ?_) (v := ?_) (by rfl) rfl ?_ ?_
        rotate_left 2
        · go_simp
          constructor
          · rfl
          · rfl
        refine hK.out _ _ (((blk_cell (blk_alloc HE5.out (.cells #[.int .i64 x] 3)) 2).trans rfl)) (fun hHeld => ?_)
        clear hK K
        refine norm_ (a' := ?_) ?_ ?_
        rotate_left
        · show Act.put _ (some 31) _ = _
          simp only [Act.put, List.setIfInBounds_toArray, List.set_cons_zero, List.set_cons_succ, i64_w, i32_w]
          rfl
        refine one_ (i := 5) (N := some 32) #[true, true, true, true, true, true, false, false] rfl rfl (by kernel_rfl) (by decide) (fun K hK => ?_)
        refine Kd.R_append_step (Kd.int .i64) (w0 := w) (W := w5) w.heap.size (by rfl) (.tmp 28) (.tmp 31) 22 3 (.int .i64 0) 8 rfl Try.underlying22 info3 rfl (by decide) (by omega) (.slice Av l.length cv) l x [.int .i64 x] (fun _ => True) (fun _ => False) rfl rfl rfl (fun _ hk => hk.elim) (fun _ _ => trivial) HO5.out HB5.out HB5.out.size (by have := HL.out; omega) ?_
        intro v8 w8 ho hb hg _
        obtain ⟨A8, c8, rfl⟩ := Kd.R_slice ho
        have hlen_ : (l ++ [x]).length = l.length + 1 := (by simp)
        rw [hlen_] at ho
        clear hlen_
        have HR8 := Aside0.mk (blk_grown HR5.out hg (Kd.R_ne HO5.out HR5.out (by decide)))
        have HE8 := Aside0.mk (blk_grown HE5.out hg (Kd.R_ne HO5.out HE5.out (by decide)))
        have HX8 := Aside0.mk (blk_grown HX5.out hg (Kd.R_ne HO5.out HX5.out (by decide)))
        have HB8 := Aside0.mk hb
        have HO8 := Aside0.mk ho
        have HE9 := Aside0.mk (blk_set HE8.out 2 (.slice A8 (l.length + 1) c8))
        have HX9 := Aside0.mk (blk_far HX8.out (p := ⟨w.heap.size, 2, none⟩) (by show w.heap.size + 1 ≠ w.heap.size; omega) (.slice A8 (l.length + 1) c8))
        have HR9 := Aside0.mk (blk_far HR8.out (p := ⟨w.heap.size, 2, none⟩) (by show w.heap.size + 1 + 1 ≠ w.heap.size; omega) (.slice A8 (l.length + 1) c8))
        have HB9 := Aside0.mk (HB8.out.setCell (p := ⟨w.heap.size, 2, none⟩) (Nat.le_refl _) (.slice A8 (l.length + 1) c8))
        have HO9 := Aside0.mk (Kd.R_set HO8.out HE8.out (by intro q hq; simp [Kd.int, Kd.scalar] at hq; subst hq; decide) 2 (.slice A8 (l.length + 1) c8))
        have e8 := blk_cell HE8.out 2
        have f8 := blk_frozen HE8.out 2
        simp only [blkE, List.getElem?_toArray, List.getElem?_cons_zero, List.getElem?_cons_succ] at e8
        clear ho hb hg
        refine hK.out _ _ (((blk_cell HE8.out 2).trans rfl)) (fun hHeld => ?_)
        clear hK K
        refine norm_ (a' := ?_) ?_ ?_
        rotate_left
        · show Act.put _ (some 32) _ = _
          simp only [Act.put, List.setIfInBounds_toArray, List.set_cons_zero, List.set_cons_succ, i64_w, i32_w]
          rfl
        refine pure_ (i := 6) (N := some 33) (v := ?_) (a' := ?_) #[true, true, true, true, true, true, true, false] rfl rfl (by kernel_rfl) (fun _ _ _ h => put_door (by decide) (by decide) h) (Or.inl ⟨by rfl, ?_⟩) ?_ ?_
        rotate_left
        · intro w'
          go_simp
          with_reducible rfl
        rotate_left
        · simp only [Act.put, List.setIfInBounds_toArray, List.set_cons_zero, List.set_cons_succ, i64_w, i32_w]
          rfl
        refine last_ (i := 7) (N := none) #[true, true, true, true, true, true, true, true] rfl rfl (by kernel_rfl) (by decide) (fun K hK => ?_)
        refine skip_ (w1 := ?_) (by rfl) rfl ?_ ?_
        rotate_left
        · go_simp
          rfl
        refine hK.out _ _ ?_
        clear hK K
        refine done_ (by kernel_rfl) ?_
        have hnk : n - k = (n - (k + 1)) + 1 := by omega
        have HNN : Aside0 (readNs n s3 = aftNs (l ++ [x]) (readNs (n - (k + 1)) sn)) := ⟨by
          rw [HN.out, hnk]
          have := readNs_step l (n - (k + 1)) sk (by rw [HGn.out])
          rw [HGn.out] at this
          exact this⟩
        have HLL : Aside0 ((l ++ [x]).length = k + 1) := ⟨by rw [List.length_append, HL.out]; rfl⟩
        clear hnk
        go_wp2
        go_roundw
        case measure => simp [intOf]; omega
        case rel => exact ⟨k + 1, l ++ [x], sn, _, by omega, by go_num, HNN, HLL, HO9, HE9, HX9, HR9, HB9⟩
    · obtain rfl : k = n := by omega
      have HM : Aside0 (S = if sk = ⟨#[]⟩ ∧ metaB x1 x2 l = true then (x1, x2, l, 0) else (0, 0, [], 30)) := ⟨by
        rw [HS.out, show ((k : Int)).toNat = k from by omega, HN.out, Nat.sub_self]
        unfold metaG2 aftNs readNs
        simp⟩
      obtain ⟨Av, cv, rfl⟩ := Kd.R_slice HO.out
      have hll := HL.out
      have HIs0 := Aside0.mk (meta_is_f (l.length + 1) x1 x2 l (by omega) (by omega))
      have r0 := blk_cell HR.out 0
      have m0 := blk_cell HE.out 0
      have m1 := blk_cell HE.out 1
      have m2 := blk_cell HE.out 2
      simp only [blkE, List.getElem?_toArray, List.getElem?_cons_zero, List.getElem?_cons_succ] at r0 m0 m1 m2
      clear hlt hll HS HN HL
      by_cases hre : sk = ⟨#[]⟩
      · subst hre
        cases hmb : metaB x1 x2 l
        · have hst : Aside0 (S = (0, 0, [], 30)) := ⟨by rw [HM.out, hmb, if_neg (by simp)]⟩
          have HIs := Aside0.mk (HIs0.out.trans (congrArg some hmb))
          clear hmb
          go_wp2_with (first | (go_at_call 23; (with_reducible refine (meta_Is.calls (l.length + 1) x1 x2 _ _ l false _ (Kd.R_reads' HO.out).2.2 (Kd.R_reads' HO.out).2.1 HIs.out).mono ?_); rintro e w6 ⟨rfl, hb⟩; have HO6 := Aside0.mk (Kd.R_below HO.out hb); have HE6 := Aside0.mk (blk_below HE.out hb); have HX6 := Aside0.mk (blk_below HX.out hb); have HB6 := Aside0.mk (HB.out.trans (hb.mono HB.out.size)); clear hb))
          exact door_panics _ w _ x1 x2 _ 0 _ hst rfl rfl HE6 HX6 HB6
        · have hst : Aside0 (S = (x1, x2, l, 0)) := ⟨by rw [HM.out, hmb, if_pos ⟨rfl, rfl⟩]⟩
          have HIs := Aside0.mk (HIs0.out.trans (congrArg some hmb))
          clear hmb
          go_wp2_with (first | (go_at_call 23; (with_reducible refine (meta_Is.calls (l.length + 1) x1 x2 _ _ l true _ (Kd.R_reads' HO.out).2.2 (Kd.R_reads' HO.out).2.1 HIs.out).mono ?_); rintro e w6 ⟨rfl, hb⟩; have HO6 := Aside0.mk (Kd.R_below HO.out hb); have HE6 := Aside0.mk (blk_below HE.out hb); have HX6 := Aside0.mk (blk_below HX.out hb); have HB6 := Aside0.mk (HB.out.trans (hb.mono HB.out.size)); clear hb; have g0 := blk_cell HE6.out 0; have g1 := blk_cell HE6.out 1; have g2 := blk_cell HE6.out 2; simp only [blkE, List.getElem?_toArray, List.getElem?_cons_zero, List.getElem?_cons_succ] at g0 g1 g2) | ((with_reducible refine gate_store (t := 24) (p := 2) rfl ?_); refine store_event (t := 24) (p := 2) (w1 := w6.setCells w.heap.size 0 (blkE x1 x2 (.slice Av l.length cv)).toList) rfl rfl rfl ?hr ?_; (case hr => (unfold execOp; simp only [Act.eval, Sem.run_bind, Sem.run_pure, Result.andThen_ok]; show ((Sem.run Try.prog (Instr.storeAt 24 (.pointer (some ⟨w.heap.size, 0, none⟩)) (.agg (blkE x1 x2 (.slice Av l.length cv)))) w6).andThen _) = _; rw [(store_meta HE6.out rfl x1 x2 (.slice Av l.length cv) rfl).1]; try rfl)); intro w7 hw7; have HE7 := Aside0.mk (hw7 ▸ (store_meta HE6.out rfl x1 x2 (.slice Av l.length cv) rfl).2 : w7.heap[w.heap.size]? = some (.cells (blkE x1 x2 (.slice Av l.length cv)) 24 (0, 0))); have HX7 := Aside0.mk (show w7.heap[w.heap.size + 1]? = some (.cells #[.int .i64 0] 27 (0, 0)) by rw [hw7, setCells_far _ _ (w.heap.size + 1) (by omega)]; exact HX6.out); have HO7 := Aside0.mk (show Kd.R (Kd.int .i64) 3 w7 w.heap.size (fun _ => True) (.slice Av l.length cv) l by rw [hw7]; exact Kd.R_mono (Kd.R_step (Kd.R_types HO6.out HE6.out (by intro q hq; simp [Kd.int, Kd.scalar] at hq; subst hq; decide)) (fun k hk _ => setCells_far _ _ k hk.2)) (fun _ _ => trivial)); have HB7 := Aside0.mk (show Below w.heap.size w w7 by rw [hw7]; exact belowE_cells HB6.out (Nat.le_refl _) _); clear hw7; have x7 := blk_cell HX7.out 0; have y7 := blk_frozen HX7.out 0))
          exact door_returns _ w _ x1 x2 _ l 0 _ hst rfl rfl ⟨blk_far HE7.out (p := ⟨w.heap.size + 1, 0, none⟩) (by show w.heap.size ≠ w.heap.size + 1; omega) _⟩ ⟨blk_set HX7.out 0 _⟩ ⟨Kd.R_set HO7.out HX7.out (by intro q hq; simp [Kd.int, Kd.scalar] at hq; subst hq; decide) 0 _⟩ ⟨HB7.out.setCell (p := ⟨w.heap.size + 1, 0, none⟩) (by show w.heap.size ≤ w.heap.size + 1; omega) _⟩
      · have hst : Aside0 (S = (0, 0, [], 30)) := ⟨by rw [HM.out, if_neg (fun h => hre h.1)]⟩
        have hr1 : sk.toList.isEmpty = false := by
          rw [List.isEmpty_eq_false_iff]; intro h; apply hre; rw [ByteArray.toList_eq] at h; exact ByteArray.ext (Array.toList_inj.1 h)
        have hr2 : (sk.toList == []) = false := by
          rw [beq_eq_false_iff_ne]; intro h; rw [h] at hr1; cases hr1
        clear hre
        go_wp2
        exact door_panics _ w _ x1 x2 _ 0 _ hst rfl rfl HE HX HB
end Go.Proofs.Ytfdpebipnapelaa.P
