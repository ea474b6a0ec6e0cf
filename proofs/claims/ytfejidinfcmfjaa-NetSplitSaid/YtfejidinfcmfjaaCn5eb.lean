/-
  Texts that the claims of this chapter share, joined.
-/
import Derived.LoopTactic
import Derived.Test.YtfejidinfcmfjaaCn5ea
import Derived.OwnWalk
import Derived.Shelf.RegionOpen
import Derived.Test.YtfejidinfcmfjaaWMore
import Derived.Test.YtfejidinfcmfjaaProg
import Derived.Test.YtfejidinfcmfjaaPx0
import Derived.Lib.AppendZeros
import Derived.Test.YtfejidinfcmfjaaWApart
import Derived.Shelf.RegionOpenPlain
set_option linter.unusedVariables false
set_option linter.unusedSimpArgs false
/-
  net.Split, by hand: the messages that go to each node, over channels.
-/
namespace Go.Proofs.Ytfejidinfcmfjaa.P
open Go Go.Conc Go.RowKit Go.Proofs.YtfejidinfcmfjaaW.PrintWords Go.Proofs.YtfejidinfcmfjaaW.PrintLast Go.Proofs.YtfejidinfcmfjaaW.PrintMore Go.Proofs.Plain Go.Proofs.Ytfejidinfcmfjaa.ChanWp

/-- What net.Split answers. -/
def splitM (l : List S29) (n : Int) : List (List S29) := if n < 1 ∨ 7 < n then [] else (List.range n.toNat).map (fun (i : Nat) => l.filter (fun x => x.f2 == (i : Int)))
def net_Split.f (l : List S29) (n : Int) : Option (List (List S29)) :=
  if l.length ≤ 100000000 ∧ ∀ x ∈ l, x.f7.length ≤ 1000000000 then some (splitM l n) else none
set_option maxHeartbeats 4000000 in
theorem net_Split_far (A0 : Option Addr) (c0 : Nat) (l0 : List S29) (n : Int) (w : World) (h : n < 1 ∨ 7 < n) :
    Calls Try.prog 21 #[.slice A0 l0.length c0, .int .i64 n] w fun e w' => ∃ v0_ : Value, e = .returned (v0_) ∧ Kd.R (Kd.slice 29 k29) 22 w' w.heap.size (fun _ => True) v0_ [] ∧ Below w.heap.size w w' := by
  rcases Decidable.em (n < 1) with h1 | h1
  · have ht : decide (n < 1) = true := decide_eq_true h1
    go_enter Try.func21, Try.ntmps21
    go_wp2
    go_ret
    exact ⟨_, rfl, Kd.R_nil _ _ _ _ _, Below.refl _ _⟩
  · have ht : decide (n < 1) = false := decide_eq_false h1
    have h2 : 7 < n := by omega
    go_enter Try.func21, Try.ntmps21
    go_wp2
    go_ret
    exact ⟨_, rfl, Kd.R_nil _ _ _ _ _, Below.refl _ _⟩

theorem chan_info : (Try.prog.info? 69).map (fun i => (i.zero, i.size, i.bytes)) = some (some (.chan none), 1, 8) := by kernel_rfl
theorem row_info : (Try.prog.info? 22).map (fun i => (i.zero, i.size, i.bytes)) = some (some (.slice none 0 0), 1, 24) := by kernel_rfl
theorem mk_chan (L : Nat) (hL : L ≤ 100000000) (W : World) : (Instr.makeChan 69 (.int .i64 L)).run Try.prog W = .ok (.chan (some W.heap.size)) (W.alloc (.chan L #[] false 0 0 false)) := by
  obtain ⟨i, hi, hz⟩ := Option.map_eq_some_iff.1 msg_info
  simp only [Prod.mk.injEq] at hz
  exact run_makeChan (P := Try.prog) (w := W) Try.underlying69 hi .i64 L (by omega) (by rw [hz.2.2]; omega)
/-- The channels that are made so far, n in all. -/
def wayCells (n gw i : Nat) : Array Value := ((List.range n).map (fun j => if j < i then Value.chan (some (gw + 1 + j)) else .chan none)).toArray
theorem wayCells_get (n gw i j : Nat) (h : j < n) : (wayCells n gw i)[j]? = some (if j < i then Value.chan (some (gw + 1 + j)) else .chan none) := by
  simp [wayCells, h]
theorem wayCells_zero (n gw : Nat) : madeCells #[Value.chan none] n = wayCells n gw 0 := by
  apply Array.ext_getElem?
  intro j
  by_cases h : j < n
  · rw [wayCells_get n gw 0 j h, if_neg (by omega)]
    simp [madeCells, h, Nat.mod_one]
  · rw [Array.getElem?_eq_none (by simp [madeCells]; omega), Array.getElem?_eq_none (by simp [wayCells]; omega)]
theorem wayCells_set (n gw i : Nat) : (wayCells n gw i).setIfInBounds i (.chan (some (gw + 1 + i))) = wayCells n gw (i + 1) := by
  apply Array.ext_getElem?
  intro j
  have hs : (wayCells n gw i).size = n := by simp [wayCells]
  by_cases h : j < n
  · rw [Array.getElem?_setIfInBounds, hs, wayCells_get n gw (i + 1) j h]
    by_cases hij : i = j
    · subst hij; rw [if_pos rfl, if_pos h, if_pos (by omega)]
    · rw [if_neg hij, wayCells_get n gw i j h]
      by_cases h2 : j < i
      · rw [if_pos h2, if_pos (by omega)]
      · rw [if_neg h2, if_neg (by omega)]
  · rw [Array.getElem?_eq_none (by rw [Array.size_setIfInBounds, hs]; omega), Array.getElem?_eq_none (by simp [wayCells]; omega)]
/-- Channels are made. -/
structure Ways0 (w W : World) (n L i : Nat) : Prop where
  row : W.heap[w.heap.size]? = some (.cells (wayCells n w.heap.size i) 69 (0, 0))
  ch : ∀ j, j < i → W.heap[w.heap.size + 1 + j]? = some (.chan L #[] false 0 0 false)
  sz : W.heap.size = w.heap.size + 1 + i
  bel : Below w.heap.size w W
theorem Ways0.start (w : World) (n L : Nat) : Ways0 w (w.alloc (.cells (madeCells #[Value.chan none] n) 69)) n L 0 :=
  ⟨by rw [wayCells_zero n w.heap.size]; exact blk_new w _, fun j hj => absurd hj (Nat.not_lt_zero _), by simp, (Below.refl _ _).alloc (Nat.le_refl _) _⟩
theorem Ways0.step {w W : World} {n L i : Nat} (h : Ways0 w W n L i) (hi : i < n) : Ways0 w ((W.alloc (.chan L #[] false 0 0 false)).setCell ⟨w.heap.size, i, none⟩ (.chan (some W.heap.size))) n L (i + 1) := by
  have hsz := h.sz
  refine ⟨?_, fun j hj => ?_, ?_, ?_⟩
  · have := blk_set (blk_alloc h.row (.chan L #[] false 0 0 false)) i (.chan (some W.heap.size))
    rw [hsz, wayCells_set] at this
    rw [hsz]
    exact this
  · rw [Below.heap_setCell _ _ _ _ (by show w.heap.size + 1 + j ≠ w.heap.size; omega)]
    rcases Nat.lt_succ_iff_lt_or_eq.1 hj with h2 | rfl
    · exact (heap_alloc_old W _ (by rw [hsz]; omega)).trans (h.ch j h2)
    · rw [← hsz]; exact heap_alloc_new W _
  · simp [World.setCell, hsz]; omega
  · exact (h.bel.alloc h.bel.size _).setCell (p := ⟨w.heap.size, i, none⟩) (Nat.le_refl _) _

/-- The texts' places, and the messages' values. -/
def valQ (l : List S29) (F : Nat → Option Addr × Nat) (q : Nat) : Array Value := blkQ (l.getD q z29).f0 (l.getD q z29).f1 (l.getD q z29).f2 (l.getD q z29).f3 (l.getD q z29).f4 (l.getD q z29).f5 (l.getD q z29).f6 (.slice (F q).1 (l.getD q z29).f7.length (F q).2)
/-- Which messages of the first k go to node j. -/
def goTo (l : List S29) (j k : Nat) : List Nat := (List.range k).filter (fun q => (l.getD q z29).f2 == (j : Int))
theorem goTo_succ (l : List S29) (j k : Nat) : goTo l j (k + 1) = goTo l j k ++ (if (l.getD k z29).f2 = (j : Int) then [k] else []) := by
  unfold goTo
  rw [List.range_succ, List.filter_append]
  by_cases h : (l.getD k z29).f2 = (j : Int)
  · rw [if_pos h]; simp only [List.filter_cons, List.filter_nil, beq_iff_eq, h, if_true]
  · rw [if_neg h]; simp only [List.filter_cons, List.filter_nil, beq_iff_eq, h, if_false]
theorem goTo_len (l : List S29) (j k : Nat) : (goTo l j k).length ≤ k := by
  unfold goTo
  exact Nat.le_trans (List.length_filter_le _ _) (by simp)
/-- A row's elements, one by one: the row's cells, and the texts in memory of its own. -/
structure RowQ (W : World) (base g : Nat) (cur : Array Value) (l : List S29) (F : Nat → Option Addr × Nat) : Prop where
  blk : W.heap[g]? = some (.cells cur 29 (0, 0))
  low : base ≤ g
  at_ : ∀ q, q < l.length → ∀ j u, (valQ l F q).toList[j]? = some u → cur[q * 8 + j]? = some u
  txt : ∀ q, q < l.length → Kd.R Kd.string 9 W base (fun _ => True) (.slice (F q).1 (l.getD q z29).f7.length (F q).2) (l.getD q z29).f7
theorem rowQ {W : World} {base : Nat} {A : Option Addr} {c : Nat} {l : List S29} (h : Kd.R k29 29 W base (fun _ => True) (.slice A l.length c) l) (hl : 0 < l.length) : ∃ g cur F, A = some ⟨g, 0, none⟩ ∧ RowQ W base g cur l F := by
  obtain ⟨g, cap, hv, hbg, hgl, -⟩ := Kd.R_form h hl
  injection hv with hA _ hc
  subst hA; subst hc
  obtain ⟨cur, hcur, -⟩ := R_room h
  have key : ∀ q, ∃ p : Option Addr × Nat, q < l.length → (∀ j u, (blkQ (l.getD q z29).f0 (l.getD q z29).f1 (l.getD q z29).f2 (l.getD q z29).f3 (l.getD q z29).f4 (l.getD q z29).f5 (l.getD q z29).f6 (.slice p.1 (l.getD q z29).f7.length p.2)).toList[j]? = some u → cur[q * 8 + j]? = some u) ∧ Kd.R Kd.string 9 W base (fun _ => True) (.slice p.1 (l.getD q z29).f7.length p.2) (l.getD q z29).f7 := by
    intro q
    by_cases hq : q < l.length
    · obtain ⟨cs, hcl, hM, hcc, hfz⟩ := Kd.R_elem h z29 (q : Int) (by omega) (by omega)
      rw [Int.toNat_natCast] at hM hcc
      obtain ⟨v7, hcs, h7⟩ := k29_openM hM
      obtain ⟨A7, c7, rfl⟩ := Kd.R_slice h7
      refine ⟨(A7, c7), fun _ => ⟨fun j u hu => ?_, Kd.R_mono h7 (fun _ _ => trivial)⟩⟩
      have := hcc j u (by rw [hcs]; exact hu)
      rw [blk_cell hcur] at this
      exact this
    · exact ⟨(none, 0), fun h => absurd h hq⟩
  obtain ⟨F, hF⟩ := Classical.axiomOfChoice key
  exact ⟨g, cur, F, rfl, hcur, hbg, fun q hq => (hF q hq).1, fun q hq => (hF q hq).2⟩
/-- What is known behind the row's making: the channels hold B; what was there stays. -/
structure Sent (w w1 W : World) (n L : Nat) (B : Nat → List Value) : Prop where
  row : W.heap[w.heap.size]? = some (.cells (wayCells n w.heap.size n) 69 (0, 0))
  ch : ∀ j, j < n → ∃ s, W.heap[w.heap.size + 1 + j]? = some (.chan L (B j).toArray false s 0 false)
  same : ∀ q, q < w1.heap.size → (∀ j, j < n → q ≠ w.heap.size + 1 + j) → W.heap[q]? = w1.heap[q]?
  bel : Below w.heap.size w W
  big : w1.heap.size ≤ W.heap.size
  low : w.heap.size + 1 + n ≤ w1.heap.size
theorem Sent.start {w w0 w1 : World} {n L : Nat} (h : Ways0 w w0 n L n) (hb : Below w0.heap.size w0 w1) : Sent w w1 w1 n L (fun _ => []) :=
  ⟨blk_below h.row hb, fun j hj => ⟨0, (hb.block _ (by rw [h.sz]; omega)).trans (h.ch j hj)⟩, fun _ _ _ => rfl, h.bel.trans (hb.mono h.bel.size), Nat.le_refl _, by rw [← h.sz]; exact hb.size⟩
theorem Sent.below {w w1 W W' : World} {n L : Nat} {B : Nat → List Value} (h : Sent w w1 W n L B) (hb : Below W.heap.size W W') : Sent w w1 W' n L B :=
  ⟨blk_below h.row hb, fun j hj => by obtain ⟨s, hs⟩ := h.ch j hj; exact ⟨s, (hb.block _ (by have := h.big; have := h.low; omega)).trans hs⟩, fun q hq hn => (hb.block q (Nat.lt_of_lt_of_le hq h.big)).trans (h.same q hq hn), h.bel.trans (hb.mono h.bel.size), Nat.le_trans h.big hb.size, h.low⟩
theorem setChan_far (w : World) (c cap : Nat) (buf : Array Value) (closed : Bool) (s r : Nat) (tm : Bool) (q : Nat) (h : c ≠ q) : (w.setChan c cap buf closed s r tm).heap[q]? = w.heap[q]? := by
  simp [World.setChan, Array.getElem?_setIfInBounds_ne h]
theorem Sent.send {w w1 W : World} {n L : Nat} {B B' : Nat → List Value} (h : Sent w w1 W n L B) {j s : Nat} (hj : j < n) {v : Value} (hs : B' j = B j ++ [v]) (ho : ∀ i, i ≠ j → B' i = B i) :
    Sent w w1 (W.setChan (w.heap.size + 1 + j) L ((B j).toArray.push v) false (s + 1) 0 false) n L B' := by
  have hlt : w.heap.size + 1 + j < W.heap.size := by have := h.big; have := h.low; omega
  refine ⟨(setChan_far _ _ _ _ _ _ _ _ _ (by omega)).trans h.row, fun i hi => ?_, fun q hq hn => (setChan_far _ _ _ _ _ _ _ _ _ (fun e => hn j hj e.symm)).trans (h.same q hq hn), below_setChan h.bel (by omega) _ _ _ _ _ _, by rw [size_setChan]; exact h.big, h.low⟩
  by_cases hij : i = j
  · subst hij
    exact ⟨s + 1, by rw [heap_setChan _ _ _ _ _ _ _ _ hlt, hs, List.push_toArray]⟩
  · obtain ⟨s', hs'⟩ := h.ch i hi
    exact ⟨s', by rw [setChan_far _ _ _ _ _ _ _ _ _ (by omega), ho i hij]; exact hs'⟩
theorem Sent.congr {w w1 W : World} {n L : Nat} {B B' : Nat → List Value} (h : Sent w w1 W n L B) (hB : ∀ j, j < n → B' j = B j) : Sent w w1 W n L B' :=
  ⟨h.row, fun j hj => by rw [hB j hj]; exact h.ch j hj, h.same, h.bel, h.big, h.low⟩
theorem res_send (c : Nat) (v z : Value) : commResult #[scase c v z] .select ((0 : Nat) : Int) undef false = .tuple #[goInt 0, .bool false] := by
  simp [commResult, scase]
/-! ### The third loop: what each channel holds is laid into its node's row -/
theorem R_typed9 {w1 W : World} {base : Nat} {v : Value} {xs : List ByteArray} {n b : Nat} (h : Kd.R Kd.string 9 w1 base (fun _ => True) v xs) (hch : ∀ j, j < n → ∃ o1 o2 o3 o4 o5 o6, w1.heap[b + j]? = some (.chan o1 o2 o3 o4 o5 o6)) (hs : ∀ q, q < w1.heap.size → (∀ j, j < n → q ≠ b + j) → W.heap[q]? = w1.heap[q]?) : Kd.R Kd.string 9 W base (fun k => k < w1.heap.size) v xs := by
  refine Kd.R_mono (Kd.R_step (Kd.R_bound h) (fun k hk hl => hs k hl (fun j hj e => ?_))) (fun k hk => hk.2.2.1)
  obtain ⟨_, _, _, q, _, cells, hc⟩ := hk
  obtain ⟨o1, o2, o3, o4, o5, o6, ho⟩ := hch j hj
  rw [e, ho] at hc
  cases hc
/-- The world at the start of a round of the third loop. -/
structure Outs (w w1 W : World) (n j go : Nat) (l : List S29) (F : Nat → Option Addr × Nat) (vs : List Value) : Prop where
  row : W.heap[w.heap.size]? = some (.cells (wayCells n w.heap.size n) 69 (0, 0))
  ch : ∀ i, j ≤ i → i < n → ∃ s, W.heap[w.heap.size + 1 + i]? = some (.chan l.length ((goTo l i l.length).map (fun q => Value.agg (valQ l F q))).toArray false s 0 false)
  same : ∀ q, q < w1.heap.size → (∀ j, j < n → q ≠ w.heap.size + 1 + j) → W.heap[q]? = w1.heap[q]?
  bel : Below w.heap.size w W
  low : w.heap.size + 1 + n ≤ w1.heap.size
  go1 : w1.heap.size ≤ go
  go2 : go < W.heap.size
  len : vs.length = n
  cell : W.heap[go]? = some (.cells vs.toArray 22 (0, 0))
  old : ∀ i, i < j → i < n → ∃ v, vs[i]? = some v ∧ Kd.R k29 29 W w.heap.size (fun q => q ≠ go) v ((goTo l i l.length).map (fun q => l.getD q z29))
  new : ∀ i, j ≤ i → i < n → vs[i]? = some (.slice none 0 0)
theorem Outs.start {w w1 W : World} {n : Nat} {l : List S29} {F : Nat → Option Addr × Nat} (h : Sent w w1 W n l.length (fun j => (goTo l j l.length).map (fun q => .agg (valQ l F q)))) :
    Outs w w1 (W.alloc (.cells (madeCells #[Value.slice none 0 0] n) 22)) n 0 W.heap.size l F (List.replicate n (.slice none 0 0)) := by
  have hb : Below W.heap.size W (W.alloc (.cells (madeCells #[Value.slice none 0 0] n) 22)) := (Below.refl _ _).alloc (Nat.le_refl _) _
  have h2 := h.below hb
  have hm : madeCells #[Value.slice none 0 0] n = (List.replicate n (Value.slice none 0 0)).toArray := by
    apply Array.ext_getElem?
    intro j
    by_cases hj : j < n
    · simp [madeCells, hj, Nat.mod_one]
    · rw [Array.getElem?_eq_none (by simp [madeCells]; omega), Array.getElem?_eq_none (by simp; omega)]
  refine ⟨h2.row, fun i _ hi => h2.ch i hi, h2.same, h2.bel, h2.low, h.big, by simp, by simp, ?_, fun i hi => absurd hi (Nat.not_lt_zero _), fun i _ hi => by simp [hi]⟩
  rw [← hm]
  exact blk_new W _
/-- Within a round: the channel is closed; of its messages these are laid, these are still there. -/
structure Mid (w w1 Wj W : World) (n j go : Nat) (l : List S29) (F : Nat → Option Addr × Nat) (vs : List Value) (done rem : List Nat) (Av : Option Addr) (cv : Nat) : Prop where
  o : Outs w w1 Wj n j go l F vs
  jn : j < n
  cell : W.heap[go]? = some (.cells (vs.set j (.slice Av done.length cv)).toArray 22 (0, 0))
  row : Kd.R k29 29 W w.heap.size (fun q => q ≠ go) (.slice Av done.length cv) (done.map (fun q => l.getD q z29))
  vnew : ∀ k, (Value.slice Av done.length cv).ownBlock = some k → Wj.heap.size ≤ k
  chb : ∃ s r, W.heap[w.heap.size + 1 + j]? = some (.chan l.length (rem.map (fun q => Value.agg (valQ l F q))).toArray true s r false)
  keep : ∀ q, q < Wj.heap.size → q ≠ go → q ≠ w.heap.size + 1 + j → W.heap[q]? = Wj.heap[q]?
  bel : Below w.heap.size w W
  big : Wj.heap.size ≤ W.heap.size
theorem Outs.bounds {w w1 W : World} {n j go : Nat} {l : List S29} {F : Nat → Option Addr × Nat} {vs : List Value} (h : Outs w w1 W n j go l F vs) : w.heap.size + 1 + n ≤ go ∧ go < W.heap.size ∧ w1.heap.size ≤ W.heap.size := ⟨Nat.le_trans h.low h.go1, h.go2, Nat.le_of_lt (Nat.lt_of_le_of_lt h.go1 h.go2)⟩
theorem Mid.start {w w1 W : World} {n j go s : Nat} {l : List S29} {F : Nat → Option Addr × Nat} {vs : List Value} (h : Outs w w1 W n j go l F vs) (hj : j < n) :
    Mid w w1 W (W.setChan (w.heap.size + 1 + j) l.length ((goTo l j l.length).map (fun q => Value.agg (valQ l F q))).toArray true s 0 false) n j go l F vs [] (goTo l j l.length) none 0 := by
  obtain ⟨b1, b2, b3⟩ := h.bounds
  refine ⟨h, hj, ?_, Kd.R_nil _ _ _ _ _, fun k hk => by simp [Value.ownBlock] at hk, ⟨s, 0, heap_setChan _ _ _ _ _ _ _ _ (by omega)⟩, fun q hq _ hc => setChan_far _ _ _ _ _ _ _ _ _ (fun e => hc e.symm), below_setChan h.bel (by omega) _ _ _ _ _ _, by rw [size_setChan]; exact Nat.le_refl _⟩
  have hv : vs.set j (Value.slice none ([] : List Nat).length 0) = vs := by
    apply List.ext_getElem?
    intro i
    rw [List.getElem?_set]
    by_cases hi : j = i
    · subst hi
      rw [if_pos rfl, if_pos (by rw [h.len]; exact hj), h.new j (Nat.le_refl j) hj]
      rfl
    · rw [if_neg hi]
  rw [hv]
  exact (setChan_far _ _ _ _ _ _ _ _ _ (by omega)).trans h.cell
section
variable {w w1 Wj W : World} {n j go : Nat} {l : List S29} {F : Nat → Option Addr × Nat} {vs : List Value} {done rem : List Nat} {Av : Option Addr} {cv : Nat}
theorem Mid.below {W' : World} (h : Mid w w1 Wj W n j go l F vs done rem Av cv) (hb : Below W.heap.size W W') : Mid w w1 Wj W' n j go l F vs done rem Av cv := by
  obtain ⟨b1, b2, b3⟩ := h.o.bounds
  have hbig := h.big
  have hjn := h.jn
  obtain ⟨s, r, hc⟩ := h.chb
  exact ⟨h.o, h.jn, blk_below h.cell hb, Kd.R_below h.row hb, h.vnew, ⟨s, r, (hb.block _ (by omega)).trans hc⟩, fun q hq h1 h2 => (hb.block q (by omega)).trans (h.keep q hq h1 h2), h.bel.trans (hb.mono h.bel.size), Nat.le_trans h.big hb.size⟩
/-- A message is received. -/
theorem Mid.recv {q s r : Nat} {rem' : List Nat} (h : Mid w w1 Wj W n j go l F vs done rem Av cv) (hr : rem = q :: rem') :
    Mid w w1 Wj (W.setChan (w.heap.size + 1 + j) l.length ((rem.map (fun q => Value.agg (valQ l F q))).toArray.extract 1 (rem.map (fun q => Value.agg (valQ l F q))).toArray.size) true s (r + 1) false) n j go l F vs done rem' Av cv := by
  obtain ⟨b1, b2, b3⟩ := h.o.bounds
  have hbig := h.big
  have hjn := h.jn
  obtain ⟨s', r', hc⟩ := h.chb
  refine ⟨h.o, h.jn, (setChan_far _ _ _ _ _ _ _ _ _ (by omega)).trans h.cell, ?_, h.vnew, ⟨s, r + 1, ?_⟩, fun q hq h1 h2 => (setChan_far _ _ _ _ _ _ _ _ _ (fun e => h2 e.symm)).trans (h.keep q hq h1 h2), below_setChan h.bel (by omega) _ _ _ _ _ _, by rw [size_setChan]; exact h.big⟩
  · refine Kd.R_mono (Kd.R_step (Kd.R_bound h.row) (fun k hk _ => setChan_far _ _ _ _ _ _ _ _ _ (fun e => ?_))) (fun k hk => hk.1)
    obtain ⟨_, _, _, _, _, cells, hcc⟩ := hk
    rw [← e, hc] at hcc
    cases hcc
  · rw [heap_setChan _ _ _ _ _ _ _ _ (by omega), hr]
    simp only [List.map_cons, List.extract_toArray, List.size_toArray, List.length_cons, List.length_map]
    congr 2
    simp [List.extract_eq_take_drop, List.take_of_length_le]
/-- A box of the round is written. -/
theorem Mid.boxput {b : Nat} {cb : Array Value} (h : Mid w w1 Wj W n j go l F vs done rem Av cv) (hb : W.heap[b]? = some (.cells cb 29 (0, 0))) (hbig : Wj.heap.size ≤ b) (hne : some b ≠ (Value.slice Av done.length cv).ownBlock) (zs : List Value) :
    Mid w w1 Wj (W.setCells b 0 zs) n j go l F vs done rem Av cv := by
  obtain ⟨b1, b2, b3⟩ := h.o.bounds
  have hjn := h.jn
  obtain ⟨s', r', hc⟩ := h.chb
  refine ⟨h.o, h.jn, (setCells_far _ _ _ (by omega)).trans h.cell, ?_, h.vnew, ⟨s', r', (setCells_far _ _ _ (by omega)).trans hc⟩, fun q hq h1 h2 => (setCells_far _ _ _ (by omega)).trans (h.keep q hq h1 h2), below_cellsQ h.bel (by have := h.o.bel.size; omega) _, by rw [(setCells_same b zs 0 W).2.2.2]; exact h.big⟩
  obtain ⟨hok, inner, ho, hr⟩ := h.row
  refine ⟨hok, inner, ?_, hr.1, fun i p hp => ?_⟩
  · rcases ho.2 with ⟨h1, h2⟩ | ⟨g', cap', cur, hv, hbg, hh, h3⟩
    · exact ⟨ho.1, .inl ⟨h1, h2⟩⟩
    · refine ⟨ho.1, .inr ⟨g', cap', cur, hv, hbg, (setCells_far _ _ _ (fun e => hne ?_)).trans hh, h3⟩⟩
      rw [hv, ← e]; rfl
  · have hM := hr.2 i p hp
    refine k29.M_mono (fun k hk => hk.1) (Kd.M_step (Kd.M_types hM hb (by intro q hq; simp [k29, Kd.iso, Kd.pair, Kd.int, Kd.slice, Kd.string, Kd.scalar] at hq; subst hq; decide)) (fun k hk _ => setCells_far _ _ _ hk.2))
/-- The texts of a message are where they were. -/
theorem Mid.txt (h : Mid w w1 Wj W n j go l F vs done rem Av cv) {g : Nat} {cur : Array Value} {base : Nat} (hq : RowQ w1 base g cur l F) (hch : ∀ j, j < n → ∃ o1 o2 o3 o4 o5 o6, w1.heap[w.heap.size + 1 + j]? = some (.chan o1 o2 o3 o4 o5 o6)) {q : Nat} (hl : q < l.length) (hb : w.heap.size ≤ base) :
    Kd.R Kd.string 9 W w.heap.size (fun k => k < w1.heap.size) (.slice (F q).1 (l.getD q z29).f7.length (F q).2) (l.getD q z29).f7 := by
  obtain ⟨b1, b2, b3⟩ := h.o.bounds
  refine Kd.R_lower (R_typed9 (hq.txt q hl) hch (fun p hp hn => ?_)) hb
  exact (h.keep p (by omega) (fun e => by have := h.o.go1; omega) (hn j h.jn)).trans (h.o.same p hp hn)
/-- A message is laid behind the others. -/
theorem Mid.laid {W' : World} {q : Nat} {A' : Option Addr} {c' : Nat} (h : Mid w w1 Wj W n j go l F vs done rem Av cv) (hr : Kd.R k29 29 W' w.heap.size (fun q => q ≠ go) (.slice A' (done ++ [q]).length c') (done.map (fun q => l.getD q z29) ++ [l.getD q z29]))
    (hg : W.grownBy W' (Value.slice Av done.length cv).ownBlock) (hat : (Value.slice A' (done ++ [q]).length c').ownBlock = (Value.slice Av done.length cv).ownBlock ∨ ∃ b, (Value.slice A' (done ++ [q]).length c').ownBlock = some b ∧ W.heap.size ≤ b) (hb : Below w.heap.size w W') :
    Mid w w1 Wj (W'.setCell ⟨go, j, none⟩ (.slice A' (done ++ [q]).length c')) n j go l F vs (done ++ [q]) rem A' c' := by
  obtain ⟨b1, b2, b3⟩ := h.o.bounds
  have hbig := h.big
  have hjn := h.jn
  obtain ⟨s', r', hc⟩ := h.chb
  have hfar : ∀ p, p < Wj.heap.size → W'.heap[p]? = W.heap[p]? := fun p hp => hg.block p (by omega) (fun e => by have := h.vnew p e.symm; omega)
  have hcell : W'.heap[go]? = some (.cells (vs.set j (.slice Av done.length cv)).toArray 22 (0, 0)) := (hfar go b2).trans h.cell
  refine ⟨h.o, h.jn, ?_, ?_, fun k hk => ?_, ⟨s', r', ?_⟩, fun p hp h1 h2 => ?_, hb.setCell (p := ⟨go, j, none⟩) (by show w.heap.size ≤ go; omega) _, ?_⟩
  · rw [blk_set hcell j]
    congr 2
    simp
  · rw [List.map_append, List.map_singleton]
    exact Kd.R_set hr hcell (by intro q hq; simp [k29, Kd.iso, Kd.pair, Kd.int, Kd.slice, Kd.string, Kd.scalar] at hq; rcases hq with rfl | rfl <;> decide) j _
  · rcases hat with e | ⟨b, e, hbb⟩
    · exact h.vnew k (by rw [← e]; exact hk)
    · rw [e] at hk; injection hk with hk; omega
  · exact (Below.heap_setCell _ _ _ _ (by show w.heap.size + 1 + j ≠ go; omega)).trans ((hfar _ (by omega)).trans hc)
  · exact (Below.heap_setCell _ _ _ _ (by show p ≠ go; exact h1)).trans ((hfar p hp).trans (h.keep p hp h1 h2))
  · show Wj.heap.size ≤ (W'.setCell _ _).heap.size
    have := hg.size
    simp [World.setCell]; omega
/-- A message's literal, its text in memory of the call's own. -/
theorem lit_mine {W : World} {base w1s go g : Nat} {vv : Value} {x : S29} {y0 y1 y2 y3 y4 y5 y6 : Int} {y7 c7 : Nat} {A7 : Option Addr} (hg : g = W.heap.size)
    (ht : Kd.R Kd.string 9 (W.alloc (.cells #[.int .i64 y0, .int .i64 y1, .int .i64 y2, .int .i64 y3, .int .i64 y4, .int .i64 y5, .int .i64 y6, .slice A7 y7 c7] 29)) base (fun k => k < w1s) (.slice A7 y7 c7) x.f7)
    (hy : y0 = x.f0 ∧ y1 = x.f1 ∧ y2 = x.f2 ∧ y3 = x.f3 ∧ y4 = x.f4 ∧ y5 = x.f5 ∧ y6 = x.f6) (hgo : w1s ≤ go) (hv : ∀ k, vv.ownBlock = some k → w1s ≤ k) :
    ReadsRow (fun x cs => k29.M (W.alloc (.cells #[.int .i64 y0, .int .i64 y1, .int .i64 y2, .int .i64 y3, .int .i64 y4, .int .i64 y5, .int .i64 y6, .slice A7 y7 c7] 29)) base (fun k => k ≠ go ∧ some k ≠ vv.ownBlock) x cs) 8 (W.alloc (.cells #[.int .i64 y0, .int .i64 y1, .int .i64 y2, .int .i64 y3, .int .i64 y4, .int .i64 y5, .int .i64 y6, .slice A7 y7 c7] 29)) (some ⟨g, 0, none⟩) 1 [x] := by
  subst hg
  refine ⟨rfl, by omega, fun _ => ⟨_, rfl, fun j p hj => ?_⟩⟩
  have hj0 : j = 0 := by have := (List.getElem?_eq_some_iff.1 hj).1; simp at this; exact this
  subst hj0
  cases hj
  refine ⟨[.int .i64 y0, .int .i64 y1, .int .i64 y2, .int .i64 y3, .int .i64 y4, .int .i64 y5, .int .i64 y6, .slice A7 y7 c7], rfl, ?_, fun i u hu => ?_⟩
  · have := k29_mkM _ base (fun k => k ≠ go ∧ some k ≠ vv.ownBlock) x (Kd.R_mono ht (fun k hk => ⟨by omega, fun e => by have := hv k e.symm; omega⟩))
    obtain ⟨e0, e1, e2, e3, e4, e5, e6⟩ := hy
    rw [e0, e1, e2, e3, e4, e5, e6]
    rw [e0, e1, e2, e3, e4, e5, e6] at this
    exact this
  · rw [add_plain, blk_cell (blk_new W _)]
    rw [show 0 * 8 + i = i by omega, List.getElem?_toArray]
    exact hu
/-- How far the reading of one channel has come. -/
structure G7 where
  done : List Nat
  rem : List Nat
  q : Nat
  ok : Bool
  Av : Option Addr
  cv : Nat
  b12 : Nat
/-- A round's end. -/
theorem Mid.end_ (h : Mid w w1 Wj W n j go l F vs (goTo l j l.length) [] Av cv) : Outs w w1 W n (j + 1) go l F (vs.set j (.slice Av (goTo l j l.length).length cv)) := by
  obtain ⟨b1, b2, b3⟩ := h.o.bounds
  have hbig := h.big
  have hjn := h.jn
  have hlow := h.o.low
  obtain ⟨s0, hc0⟩ := h.o.ch j (Nat.le_refl j) h.jn
  refine ⟨(h.keep _ (by omega) (by omega) (by omega)).trans h.o.row, fun i hi hin => ?_, fun q hq hn => ?_, h.bel, h.o.low, h.o.go1, by omega, by rw [List.length_set]; exact h.o.len, h.cell, fun i hi hin => ?_, fun i hi hin => ?_⟩
  · obtain ⟨s, hs⟩ := h.o.ch i (by omega) hin
    exact ⟨s, (h.keep _ (by omega) (by omega) (by omega)).trans hs⟩
  · exact (h.keep q (by omega) (fun e => by have := h.o.go1; omega) (hn j h.jn)).trans (h.o.same q hq hn)
  · by_cases hij : i = j
    · subst hij
      exact ⟨_, by rw [List.getElem?_set, if_pos rfl, if_pos (by rw [h.o.len]; exact hin)], h.row⟩
    · obtain ⟨v, hv, hR⟩ := h.o.old i (by omega) hin
      refine ⟨v, by rw [List.getElem?_set, if_neg (fun e => hij e.symm)]; exact hv, ?_⟩
      refine Kd.R_mono (Kd.R_step (Kd.R_bound hR) (fun k hk hlt => h.keep k hlt hk.1 (fun e => ?_))) (fun k hk => hk.1)
      obtain ⟨_, _, _, _, _, cells, hcc⟩ := hk
      rw [e, hc0] at hcc
      cases hcc
  · rw [List.getElem?_set, if_neg (by omega)]
    exact h.o.new i (by omega) hin
end
theorem goTo_all (l : List S29) (j : Nat) : (goTo l j l.length).map (fun q => l.getD q z29) = l.filter (fun x => x.f2 == (j : Int)) := by
  have key : ∀ (l2 : List S29) (k : Nat), l.drop k = l2 → ((List.range' k l2.length).filter (fun q => (l.getD q z29).f2 == (j : Int))).map (fun q => l.getD q z29) = l2.filter (fun x => x.f2 == (j : Int)) := by
    intro l2
    induction l2 with
    | nil => intro k _; rfl
    | cons x r ih =>
      intro k hk
      have hx : l.getD k z29 = x := by
        have : (l.drop k)[0]? = some x := by rw [hk]; rfl
        rw [List.getElem?_drop, Nat.add_zero] at this
        rw [List.getD_eq_getElem?_getD, this]; rfl
      have hd : l.drop (k + 1) = r := by rw [← List.drop_drop, hk]; rfl
      rw [List.length_cons, List.range'_succ, List.filter_cons, List.filter_cons, hx]
      split
      · rw [List.map_cons, hx, ih (k + 1) hd]
      · exact ih (k + 1) hd
  have := key l 0 rfl
  unfold goTo
  rw [List.range_eq_range']
  exact this
/-- Behind the last round. -/
theorem Outs.all {w w1 W : World} {n go : Nat} {l : List S29} {F : Nat → Option Addr × Nat} {vs : List Value} (h : Outs w w1 W n n go l F vs) (hn : n ≤ 7) :
    Kd.R (Kd.slice 29 k29) 22 W w.heap.size (fun _ => True) (.slice (some ⟨go, 0, none⟩) n n) ((List.range n).map (fun (i : Nat) => l.filter (fun x => x.f2 == (i : Int)))) := by
  obtain ⟨b1, b2, b3⟩ := h.bounds
  refine ⟨fun _ _ => trivial, vs, ⟨?_, .inr ⟨go, n, vs.toArray, ?_, by omega, h.cell, ?_, ?_, ?_, ?_⟩⟩, ?_, fun i p hp => ?_⟩
  · simp [h.len, Kd.slice]
  · simp
  · simp
  · simp [maxLen]; omega
  · simp [h.len, Kd.slice]
  · simp only [List.length_map, List.length_range]
    rw [show (Kd.slice 29 k29).sz = 1 from rfl, Nat.mul_one, List.take_of_length_le (by rw [h.len]; exact Nat.le_refl _)]
  · simp [h.len, Kd.slice]
  · rw [show (Kd.slice 29 k29).sz = 1 from rfl, Nat.mul_one]
    have hi : i < n := by have := (List.getElem?_eq_some_iff.1 hp).1; simpa using this
    rw [List.getElem?_map, List.getElem?_range hi] at hp
    simp only [Option.map_some, Option.some.injEq] at hp
    subst hp
    obtain ⟨v, hv, hR⟩ := h.old i hi hi
    rw [goTo_all] at hR
    have h1 : (vs.drop i).take 1 = [v] := by
      have hil : i < vs.length := by rw [h.len]; exact hi
      rw [List.getElem?_eq_getElem hil] at hv
      rw [List.drop_eq_getElem_cons hil]
      simp only [List.take_succ_cons, List.take_zero]
      rw [Option.some.inj hv]
    rw [h1]
    exact ⟨v, rfl, Kd.R_mono hR (fun k hk => ⟨trivial, fun e => hk (by simp [Value.ownBlock] at e; exact e)⟩)⟩

end Go.Proofs.Ytfejidinfcmfjaa.P
/-
  net.Split, by hand: the messages that go to each node, over channels.
-/
namespace Go.Proofs.Ytfejidinfcmfjaa.P
open Go Go.Conc Go.RowKit Go.Proofs.YtfejidinfcmfjaaW.PrintWords Go.Proofs.YtfejidinfcmfjaaW.PrintLast Go.Proofs.YtfejidinfcmfjaaW.PrintMore Go.Proofs.Plain Go.Proofs.Ytfejidinfcmfjaa.ChanWp

set_option maxHeartbeats 4000000 in
set_option maxRecDepth 100000 in
theorem net_Split_in (A0 : Option Addr) (c0 : Nat) (l0 : List S29) (n : Nat) (w : World) (hr0 : Kd.C k29 w A0 l0.length l0) (hc0 : l0.length ≤ c0) (hn0 : 1 ≤ n) (hn7 : n ≤ 7) (hf : net_own.f l0 = some l0) (hl : l0.length ≤ 100000000) :
    Calls Try.prog 21 #[.slice A0 l0.length c0, .int .i64 n] w fun e w' => ∃ v0_ : Value, e = .returned (v0_) ∧ Kd.R (Kd.slice 29 k29) 22 w' w.heap.size (fun _ => True) v0_ ((List.range n).map (fun (i : Nat) => l0.filter (fun x => x.f2 == (i : Int)))) ∧ Below w.heap.size w w' := by
  have HR0 := Aside0.mk hr0
  have HC0 := Aside0.mk hc0
  have HF := Aside0.mk hf
  have h1 : ¬ ((n : Int) < 1) := by omega
  have h2 : ¬ ((7 : Int) < (n : Int)) := by omega
  have h3 : ¬ (7 < n) := by omega
  have h4 : (0 : Int) ≤ (n : Int) := by omega
  clear hr0 hf
  refine calls_of_wpN Try.func21 rfl ?_
  simp only [Try.ntmps21, List.size_toArray, List.length_cons, List.length_nil, Nat.reduceAdd, Nat.reduceSub, Array.replicate_succ, Array.replicate_zero, List.push_toArray, List.append_toArray, List.nil_append, List.cons_append]
  have hmk := fun W => run_make_row' (P := Try.prog) 68 69 (.chan none) 8 Try.underlying68 chan_info rfl .i64 .i64 n (by omega) (by omega) W
  have hmc := mk_chan l0.length hl
  refine wpN_seqP ?_
  go_wp2
  refine wpN_seqP ?_
  go_wp2
  refine wpN_seqP ?_
  go_wp2
  refine wpN_seqP ?_
  go_wp2
  have HST := Aside0.mk (Ways0.start w n l0.length)
  go_loopw [24] (fun s wr => ∃ i : Nat, i ≤ n ∧ s = .int .i64 i ∧ Aside0 (Ways0 w wr n l0.length i)) (fun s _ => n - (intOf s).toNat)
  case atStart => exact ⟨0, Nat.zero_le _, rfl, HST⟩
  case round =>
    clear HST
    obtain ⟨i, hi, rfl, HW⟩ := hrel
    by_cases hlt : i < n
    · have q0 := (blk_cell HW.out.row i).trans (wayCells_get n w.heap.size i i hlt)
      rw [if_neg (Nat.lt_irrefl i)] at q0
      have f0 := blk_frozen HW.out.row i
      have q1 := (blk_cell (blk_alloc HW.out.row (.chan l0.length #[] false 0 0 false)) i).trans ((blk_cell HW.out.row i).symm.trans q0)
      have f1 := blk_frozen (blk_alloc HW.out.row (.chan l0.length #[] false 0 0 false)) i
      have HW2 := Aside0.mk (HW.out.step hlt)
      go_wp2
      go_roundw
      case rel => exact ⟨i + 1, hlt, by go_num, HW2⟩
      case measure => simp [intOf]; omega
    · obtain rfl : n = i := by omega
      clear hlt hi
      go_wp2
      obtain ⟨w0, hw0⟩ : ∃ w0, w0 = wr := ⟨_, rfl⟩
      subst hw0
      refine wpN_seq ?_
      refine wpN_seqP ?_
      go_wp2_with (go_at_call 50; (with_reducible refine (net_own.calls A0 c0 l0 l0 w0 (Kd.C_below HR0.out HW.out.bel) HC0.out HF.out).mono ?_); rintro e w1 ⟨v, rfl, h1, hb⟩; obtain ⟨A1, c1, rfl⟩ := Kd.R_slice h1; have HO1 := Aside0.mk h1; have HS1 := Aside0.mk (Sent.start HW.out hb); clear h1 hb)
      have HRQ : Aside0 (∃ g cur F, (0 < l0.length → A1 = some ⟨g, 0, none⟩) ∧ (0 < l0.length → RowQ w1 w0.heap.size g cur l0 F)) := ⟨by
        by_cases hl : 0 < l0.length
        · obtain ⟨g, cur, F, h1, h2⟩ := rowQ HO1.out hl
          exact ⟨g, cur, F, fun _ => h1, fun _ => h2⟩
        · exact ⟨0, #[], fun _ => (none, 0), fun h => absurd h hl, fun h => absurd h hl⟩⟩
      obtain ⟨g, cur, F, hA1, hRQ⟩ := HRQ.out
      have HA1 := Aside0.mk hA1
      have HQ := Aside0.mk hRQ
      have hw0s : w0.heap.size = w.heap.size + 1 + n := HW.out.sz
      have HW0S := Aside0.mk hw0s
      have HSA := HS1
      clear hA1 hRQ HRQ HW hw0s
      refine wpN_block ?_
      refine wpN_loopF (fun (k : Nat) f => { tmps := #[f 0, .int .i64 n, f 2, f 3, f 4, .slice (some ⟨w.heap.size, 0, none⟩) n n, f 6, f 7, f 8, f 9, f 10, f 11, f 12, f 13, f 14, f 15, f 16, f 17, f 18, f 19, f 20, f 21, f 22, f 23, f 24, f 25, f 26, f 27, f 28, f 29, f 30, f 31, f 32, f 33, f 34, .slice A1 l0.length c1, .int .i64 l0.length, .int .i64 k, f 38, f 39, f 40, f 41, f 42, f 43, f 44, f 45, f 46, f 47, f 48, f 49, f 50, f 51, f 52, f 53, f 54, f 55, f 56, f 57, f 58, f 59, f 60, f 61, f 62, f 63, f 64, f 65, f 66, f 67, f 68, f 69, f 70, f 71, f 72, f 73, f 74, f 75, f 76, f 77, f 78, f 79, f 80, f 81, f 82, f 83, f 84, f 85, f 86, f 87, f 88, f 89, f 90, f 91, f 92, f 93], defers := [] }) (fun k W => k ≤ l0.length ∧ Aside0 (Sent w w1 W n l0.length (fun j => (goTo l0 j k).map (fun q => .agg (valQ l0 F q))))) (fun k => l0.length - k) 0 rfl ⟨Nat.zero_le _, ⟨HS1.out⟩⟩ ?round2
      case round2 =>
        clear HS1
        rintro k f W ⟨hk, HS⟩
        by_cases hlt : k < l0.length
        · have hltz : (k : Int) < (l0.length : Int) := by omega
          have hA1 := HA1.out (by omega)
          subst hA1
          have hG : W.heap[g]? = some (.cells cur 29 (0, 0)) := (HS.out.same g (blk_lt (HQ.out (by omega)).blk) (fun j hj e => by have h1 := (HQ.out (by omega)).low; have h2 := HW0S.out; omega)).trans (HQ.out (by omega)).blk
          obtain ⟨x, hx⟩ : ∃ x, x = l0.getD k z29 := ⟨_, rfl⟩
          have hv : valQ l0 F k = blkQ x.f0 x.f1 x.f2 x.f3 x.f4 x.f5 x.f6 (.slice (F k).1 x.f7.length (F k).2) := by rw [hx]; rfl
          have HV := Aside0.mk hv
          have HX := Aside0.mk hx
          have hat := (HQ.out (by omega)).at_ k hlt
          rw [hv] at hat
          have q0 := (blk_cell hG (k * 8 + 0)).trans (hat 0 _ rfl)
          have q1 := (blk_cell hG (k * 8 + 1)).trans (hat 1 _ rfl)
          have q2 := (blk_cell hG (k * 8 + 2)).trans (hat 2 _ rfl)
          have q3 := (blk_cell hG (k * 8 + 3)).trans (hat 3 _ rfl)
          have q4 := (blk_cell hG (k * 8 + 4)).trans (hat 4 _ rfl)
          have q5 := (blk_cell hG (k * 8 + 5)).trans (hat 5 _ rfl)
          have q6 := (blk_cell hG (k * 8 + 6)).trans (hat 6 _ rfl)
          have q7 := (blk_cell hG (k * 8 + 7)).trans (hat 7 _ rfl)
          rw [Nat.add_zero] at q0
          obtain ⟨A7, hA7⟩ : ∃ A7, A7 = (F k).1 := ⟨_, rfl⟩
          obtain ⟨c7, hc7⟩ : ∃ c7, c7 = (F k).2 := ⟨_, rfl⟩
          rw [← hA7, ← hc7] at q7
          have HA7 := Aside0.mk hA7
          have HC7 := Aside0.mk hc7
          clear hv hat hG hA7 hc7 hx
          obtain ⟨y0, y1, y2, y3, y4, y5, y6, y7, hy⟩ : ∃ y0 y1 y2 y3 y4 y5 y6 y7, y0 = x.f0 ∧ y1 = x.f1 ∧ y2 = x.f2 ∧ y3 = x.f3 ∧ y4 = x.f4 ∧ y5 = x.f5 ∧ y6 = x.f6 ∧ y7 = x.f7.length := ⟨_, _, _, _, _, _, _, _, rfl, rfl, rfl, rfl, rfl, rfl, rfl, rfl⟩
          have HY := Aside0.mk hy
          obtain ⟨e0, e1, e2, e3, e4, e5, e6, e7⟩ := hy
          rw [← e0] at q0; rw [← e1] at q1; rw [← e2] at q2; rw [← e3] at q3; rw [← e4] at q4; rw [← e5] at q5; rw [← e6] at q6; rw [← e7] at q7
          clear e0 e1 e2 e3 e4 e5 e6 e7
          refine wpN_seqP ?_
          go_wp2
          refine wpN_seqP ?_
          go_wp2
          refine wpN_seq ?_
          refine wpN_block ?_
          refine wpN_seqP ?_
          go_wp2_with (first | ((with_reducible refine gate_store (t := 29) (p := 8) rfl ?_); refine store_event (t := 29) (p := 8) (w1 := ((W.alloc (.cells (blkQ 0 0 0 0 0 0 0 (.slice none 0 0)) 29))).setCells (W.heap.size) 0 (blkQ y0 y1 y2 y3 y4 y5 y6 (.slice A7 y7 c7)).toList) rfl rfl rfl ?hr ?_; (case hr => (unfold execOp; simp only [Act.eval, Sem.run_bind, Sem.run_pure, Result.andThen_ok]; show ((Sem.run Try.prog (Instr.storeAt 29 (.pointer (some ⟨W.heap.size, 0, none⟩)) (.agg (blkQ y0 y1 y2 y3 y4 y5 y6 (.slice A7 y7 c7)))) ((W.alloc (.cells (blkQ 0 0 0 0 0 0 0 (.slice none 0 0)) 29)))).andThen _) = _; rw [(store_msgQ (blk_new W (.cells (blkQ 0 0 0 0 0 0 0 (.slice none 0 0)) 29)) rfl y0 y1 y2 y3 y4 y5 y6 (.slice A7 y7 c7) rfl).1]; try rfl)); intro w2 hw_; have HS := Aside0.mk (HS.out.below (show Below W.heap.size W w2 by rw [hw_]; exact below_cellsQ ((Below.refl _ _).alloc (Nat.le_refl _) _) (Nat.le_refl _) _)); have HB8 := Aside0.mk (show w2.heap[W.heap.size]? = some (.cells (blkQ y0 y1 y2 y3 y4 y5 y6 (.slice A7 y7 c7)) 29 (0, 0)) by rw [hw_]; exact (store_msgQ (blk_new W (.cells (blkQ 0 0 0 0 0 0 0 (.slice none 0 0)) 29)) rfl y0 y1 y2 y3 y4 y5 y6 (.slice A7 y7 c7) rfl).2); have b0 := blk_cell HB8.out 0; have b1 := blk_cell HB8.out 1; have b2 := blk_cell HB8.out 2; have b3 := blk_cell HB8.out 3; have b4 := blk_cell HB8.out 4; have b5 := blk_cell HB8.out 5; have b6 := blk_cell HB8.out 6; have b7 := blk_cell HB8.out 7; simp only [blkQ, List.getElem?_toArray, List.getElem?_cons_zero, List.getElem?_cons_succ] at b0 b1 b2 b3 b4 b5 b6 b7; clear hw_ q0 q1 q2 q3 q4 q5 q6 q7))
          refine wpN_seqP ?_
          have HL := Aside0.mk hl
          by_cases h20 : y2 < 0
          · have ht : decide (y2 < 0) = true := decide_eq_true h20
            go_wp2
            refine wpN_of ?_
            go_wp2
            refine ⟨k + 1, rfl, ⟨hlt, ⟨HS.out.congr (fun j hj => by
              rw [goTo_succ, if_neg (by obtain ⟨_, _, e2, _⟩ := HY.out; rw [← HX.out, ← e2]; omega), List.append_nil])⟩⟩, by omega⟩
          · have ht : decide (y2 < 0) = false := decide_eq_false h20
            by_cases h2n : (n : Int) ≤ y2
            · have ht2 : decide (y2 ≥ (n : Int)) = true := decide_eq_true h2n
              go_wp2
              refine wpN_of ?_
              go_wp2
              refine ⟨k + 1, rfl, ⟨hlt, ⟨HS.out.congr (fun j hj => by
                rw [goTo_succ, if_neg (by obtain ⟨_, _, e2, _⟩ := HY.out; rw [← HX.out, ← e2]; omega), List.append_nil])⟩⟩, by omega⟩
            · have ht2 : decide (y2 ≥ (n : Int)) = false := decide_eq_false h2n
              obtain ⟨j, rfl⟩ : ∃ j : Nat, y2 = (j : Int) := ⟨y2.toNat, by omega⟩
              have hjn : (j : Int) < (n : Int) := by omega
              have hj2 : j < n := by omega
              have hj0 : ¬ n ≤ j := by omega
              have hway := (blk_cell HS.out.row j).trans (wayCells_get n w.heap.size n j hj2)
              rw [if_pos hj2] at hway
              obtain ⟨s, hs⟩ := HS.out.ch j hj2
              have HCH := Aside0.mk hs
              have HJ := Aside0.mk hj2
              clear hs
              go_wp2
              refine wpN_seqP ?_
              go_wp2
              refine wpN_seq ?_
              refine wpN_region ?_
              show wpAt _ _ _ [0, 1, 2] _ _
              refine wpAt_comm (i := 0) (rest := [1, 2]) (cases := #[scase (w.heap.size + 1 + j) (.agg (blkQ y0 y1 (j : Int) y3 y4 y5 y6 (.slice A7 y7 c7))) (.agg #[(.int .i64 0), (.int .i64 0), (.int .i64 0), (.int .i64 0), (.int .i64 0), (.int .i64 0), (.int .i64 0), (.slice none 0 0)])]) (blocking := false) (shape := .select) (w1 := w2) rfl rfl ?hr (fun fr cs es h => step_lone_sel_send_room (k := 0) h rfl (fun m c' hm hc' => ?hoth) HCH.out ?hroom) ?hn
              case hr => simp [go_sem, execOp, scase, Act.eval, blkQ, Try.zeroValue29]
              case hoth =>
                rcases m with _ | m
                · exact absurd rfl hm
                · simp at hc'
              case hroom =>
                simp only [List.size_toArray, List.length_map]
                exact Nat.lt_of_le_of_lt (goTo_len l0 j k) hlt
              case hn =>
                rw [res_send]
                have HS2 := Aside0.mk (HS.out.send (s := s) (B' := fun j => (goTo l0 j (k + 1)).map (fun q => Value.agg (valQ l0 F q))) HJ.out (v := .agg (blkQ y0 y1 (j : Int) y3 y4 y5 y6 (.slice A7 y7 c7))) (by
                    show (goTo l0 j (k + 1)).map _ = _
                    rw [goTo_succ, if_pos (by obtain ⟨_, _, e2, _⟩ := HY.out; rw [← HX.out, ← e2]), List.map_append, List.map_singleton, HV.out, ← HA7.out, ← HC7.out]
                    obtain ⟨e0, e1, e2, e3, e4, e5, e6, e7⟩ := HY.out
                    rw [e0, e1, e2, e3, e4, e5, e6, e7]) (fun i hi => by
                    show (goTo l0 i (k + 1)).map _ = _
                    rw [goTo_succ, if_neg (by obtain ⟨_, _, e2, _⟩ := HY.out; rw [← HX.out, ← e2]; omega), List.append_nil]))
                obtain ⟨w3, hw3⟩ : ∃ x_, x_ = w2.setChan (w.heap.size + 1 + j) l0.length ((List.map (fun q => Value.agg (valQ l0 F q)) (goTo l0 j k)).toArray.push (.agg (blkQ y0 y1 (j : Int) y3 y4 y5 y6 (.slice A7 y7 c7)))) false (s + 1) 0 false := ⟨_, rfl⟩
                rw [← hw3] at HS2 ⊢
                clear HS HCH hway hw3 b0 b1 b2 b3 b4 b5 b6 b7 HB8
                refine wpAt_drop 1 ?_
                simp only [List.toList_toArray, List.drop_succ_cons, List.drop_zero, Act.put, List.setIfInBounds_toArray, List.set_cons_zero, List.set_cons_succ]
                go_wp2
                refine wpN_of ?_
                go_wp2
                refine wpN_of ?_
                go_wp2
                exact ⟨k + 1, rfl, ⟨hlt, HS2⟩, by omega⟩
        · have hke : k = l0.length := by omega
          subst hke
          clear hlt hk
          refine wpN_seqP ?_
          go_wp2
          refine wpN_seqP ?_
          go_wp2
          have hmk2 := fun W => run_make_row' (P := Try.prog) 34 22 (.slice none 0 0) 24 Try.underlying34 row_info rfl .i64 .i64 n (by omega) (by omega) W
          refine wpN_seqP ?_
          go_wp2
          have HOU := Aside0.mk (Outs.start HS.out)
          obtain ⟨go, hgo⟩ : ∃ go, go = W.heap.size := ⟨_, rfl⟩
          obtain ⟨Wa, hWa⟩ : ∃ Wa, Wa = W.alloc (.cells (madeCells #[Value.slice none 0 0] n) 22) := ⟨_, rfl⟩
          rw [← hgo, ← hWa] at HOU
          rw [← hgo, ← hWa]
          have HCH1 := Aside0.mk (show ∀ j, j < n → ∃ o1 o2 o3 o4 o5 o6, w1.heap[w.heap.size + 1 + j]? = some (.chan o1 o2 o3 o4 o5 o6) from fun j hj => by obtain ⟨s, hs⟩ := HSA.out.ch j hj; exact ⟨_, _, _, _, _, _, hs⟩)
          clear hgo hWa HS hmk hmc
          refine wpN_seq ?_
          refine wpN_seqP ?_
          go_wp2
          refine wpN_block ?_
          refine wpN_loopF (fun (j : Nat) f => { tmps := #[f 0, .int .i64 n, f 2, f 3, f 4, f 5, f 6, f 7, f 8, .slice (some ⟨go, 0, none⟩) n n, f 10, f 11, f 12, f 13, f 14, f 15, f 16, f 17, f 18, f 19, f 20, f 21, f 22, f 23, f 24, f 25, f 26, f 27, f 28, f 29, f 30, f 31, f 32, f 33, f 34, f 35, f 36, f 37, f 38, f 39, f 40, f 41, f 42, f 43, f 44, f 45, f 46, f 47, f 48, f 49, f 50, f 51, f 52, f 53, f 54, f 55, f 56, f 57, f 58, f 59, f 60, f 61, .slice (some ⟨w.heap.size, 0, none⟩) n n, .int .i64 n, .int .i64 j, f 65, f 66, f 67, f 68, f 69, f 70, f 71, f 72, f 73, f 74, f 75, f 76, f 77, f 78, f 79, f 80, f 81, f 82, f 83, f 84, f 85, f 86, f 87, f 88, f 89, f 90, f 91, f 92, f 93], defers := [] }) (fun j W => j ≤ n ∧ ∃ vs, Aside0 (Outs w w1 W n j go l0 F vs)) (fun j => n - j) 0 rfl ⟨Nat.zero_le _, _, HOU⟩ ?round5
          case round5 =>
            clear HOU f W
            rintro j f W ⟨hj, vs, HO⟩
            by_cases hlt : j < n
            · have hltz : (j : Int) < (n : Int) := by omega
              have hway := (blk_cell HO.out.row j).trans (wayCells_get n w.heap.size n j hlt)
              rw [if_pos hlt] at hway
              obtain ⟨s, hs⟩ := HO.out.ch j (Nat.le_refl j) hlt
              have HJN := Aside0.mk hlt
              have hcl := fun ats ty => (show (Builtin.close_ ats ty #[.chan (some (w.heap.size + 1 + j))]).run Try.prog W = .ok (.tuple #[]) (W.setChan (w.heap.size + 1 + j) l0.length ((goTo l0 j l0.length).map (fun q => Value.agg (valQ l0 F q))).toArray true s 0 false) from run_close_open (P := Try.prog) (w := W) ats ty hs)
              clear hs
              refine wpN_seqP ?_
              go_wp2
              refine wpN_seqP ?_
              go_wp2
              refine wpN_seq ?_
              refine wpN_block ?_
              refine wpN_seqP ?_
              go_wp2
              refine wpN_seqP ?_
              go_wp2
              have HM := Aside0.mk (Mid.start (s := s) HO.out hlt)
              obtain ⟨W2, hW2⟩ : ∃ W2, W2 = W.setChan (w.heap.size + 1 + j) l0.length ((goTo l0 j l0.length).map (fun q => Value.agg (valQ l0 F q))).toArray true s 0 false := ⟨_, rfl⟩
              rw [← hW2] at HM
              rw [← hW2]
              clear hW2 hcl hway HO
              refine wpN_seq ?_
              refine wpN_mono (Q := Exit.then (fun a W3 => ∃ s : G7, a = (fun f : Nat → Value => ({ tmps := #[f 0, .int .i64 n, f 2, f 3, f 4, f 5, f 6, f 7, f 8, .slice (some ⟨go, 0, none⟩) n n, .int .i64 j, .chan (some (w.heap.size + 1 + j)), .pointer (some ⟨s.b12, 0, none⟩), .bool s.ok, f 14, f 15, f 16, f 17, f 18, f 19, f 20, f 21, f 22, f 23, f 24, f 25, f 26, f 27, f 28, f 29, f 30, f 31, f 32, f 33, f 34, f 35, f 36, f 37, f 38, f 39, f 40, f 41, f 42, f 43, f 44, f 45, f 46, f 47, f 48, f 49, f 50, f 51, f 52, f 53, f 54, f 55, f 56, f 57, f 58, f 59, f 60, f 61, .slice (some ⟨w.heap.size, 0, none⟩) n n, .int .i64 n, .int .i64 j, f 65, f 66, f 67, f 68, f 69, f 70, f 71, f 72, f 73, f 74, f 75, f 76, f 77, f 78, f 79, f 80, f 81, f 82, f 83, f 84, f 85, f 86, f 87, f 88, f 89, f 90, f 91, f 92, f 93], defers := [] } : Act)) (fun i => a.tmps.getD i undef) ∧ (fun s W_ => Aside0 (Mid w w1 W W_ n j go l0 F vs s.done s.rem s.Av s.cv) ∧ Aside0 (W_.heap[s.b12]? = some (.cells (if s.ok = true then valQ l0 F s.q else blkQ 0 0 0 0 0 0 0 (.slice none 0 0)) 29 (0, 0))) ∧ Aside0 (W.heap.size ≤ s.b12 ∧ ∀ k, (Value.slice s.Av s.done.length s.cv).ownBlock = some k → k < s.b12) ∧ Aside0 (goTo l0 j l0.length = s.done ++ (if s.ok = true then s.q :: s.rem else []) ∧ (s.ok = false → s.rem = []))) s W3) (fun _ _ _ => False)) ?r22 ?b7
              case r22 =>
                refine wpN_region ?_
                show wpAt _ _ _ [0, 1, 2, 3, 4, 5, 6, 7] _ _
                refine wpAt_val (i := 0) (rest := [1, 2, 3, 4, 5, 6, 7]) (v := .chan (some (w.heap.size + 1 + j))) (w' := W2) rfl rfl (by simp [go_sem, execOp, Act.eval]) ?_
                simp only [Act.put, List.setIfInBounds_toArray, List.set_cons_zero, List.set_cons_succ]
                rcases hgl : goTo l0 j l0.length with _ | ⟨q, rem⟩
                · have HGL := Aside0.mk hgl
                  rw [hgl] at HM
                  clear hgl
                  obtain ⟨s1, r1, hchb⟩ := HM.out.chb
                  simp only [List.map_nil] at hchb
                  refine wpAt_comm (i := 1) (rest := [2, 3, 4, 5, 6, 7]) (cases := #[rcase (w.heap.size + 1 + j) (.agg #[(.int .i64 0), (.int .i64 0), (.int .i64 0), (.int .i64 0), (.int .i64 0), (.int .i64 0), (.int .i64 0), (.slice none 0 0)])]) (blocking := true) (shape := .recv true) (w1 := W2) rfl rfl (by simp [go_sem, execOp, rcase, Act.eval, Try.zeroValue29]) (fun fr cs es h => step_lone_recv_shut true h hchb) ?_
                  simp only [got, if_true]
                  simp only [Act.put, List.setIfInBounds_toArray, List.set_cons_zero, List.set_cons_succ]
                  refine wpAt_drop 2 ?_
                  simp only [List.toList_toArray, List.drop_succ_cons, List.drop_zero]
                  clear hchb
                  go_wp2_with (first | ((with_reducible refine gate_store (t := 29) (p := 12) rfl ?_); refine store_event (t := 29) (p := 12) (w1 := ((W2.alloc (.cells (blkQ 0 0 0 0 0 0 0 (.slice none 0 0)) 29))).setCells (W2.heap.size) 0 (blkQ 0 0 0 0 0 0 0 (.slice none 0 0)).toList) rfl rfl rfl ?hr ?_; (case hr => (unfold execOp; simp only [Act.eval, Sem.run_bind, Sem.run_pure, Result.andThen_ok]; show ((Sem.run Try.prog (Instr.storeAt 29 (.pointer (some ⟨W2.heap.size, 0, none⟩)) (.agg (blkQ 0 0 0 0 0 0 0 (.slice none 0 0)))) ((W2.alloc (.cells (blkQ 0 0 0 0 0 0 0 (.slice none 0 0)) 29)))).andThen _) = _; rw [(store_msgQ (blk_new W2 (.cells (blkQ 0 0 0 0 0 0 0 (.slice none 0 0)) 29)) rfl 0 0 0 0 0 0 0 (.slice none 0 0) rfl).1]; try rfl)); intro W3 hw_; have HMn := Aside0.mk (HM.out.below (show Below W2.heap.size W2 W3 by rw [hw_]; exact below_cellsQ ((Below.refl _ _).alloc (Nat.le_refl _) _) (Nat.le_refl _) _)); have HBn := Aside0.mk (show W3.heap[W2.heap.size]? = some (.cells (blkQ 0 0 0 0 0 0 0 (.slice none 0 0)) 29 (0, 0)) by rw [hw_]; exact (store_msgQ (blk_new W2 (.cells (blkQ 0 0 0 0 0 0 0 (.slice none 0 0)) 29)) rfl 0 0 0 0 0 0 0 (.slice none 0 0) rfl).2); clear hw_))
                  have HB2 := Aside0.mk HM.out.big
                  exact ⟨⟨[], [], 0, false, none, 0, W2.heap.size⟩, rfl, HMn, HBn, ⟨HB2.out, fun k hk => by simp [Value.ownBlock] at hk⟩, ⟨rfl, fun _ => rfl⟩⟩
                · have HGL := Aside0.mk hgl
                  rw [hgl] at HM
                  clear hgl
                  obtain ⟨s1, r1, hchb⟩ := HM.out.chb
                  simp only [List.map_cons] at hchb
                  refine wpAt_comm (i := 1) (rest := [2, 3, 4, 5, 6, 7]) (cases := #[rcase (w.heap.size + 1 + j) (.agg #[(.int .i64 0), (.int .i64 0), (.int .i64 0), (.int .i64 0), (.int .i64 0), (.int .i64 0), (.int .i64 0), (.slice none 0 0)])]) (blocking := true) (shape := .recv true) (w1 := W2) rfl rfl (by simp [go_sem, execOp, rcase, Act.eval, Try.zeroValue29]) (fun fr cs es h => step_lone_recv_buf true h hchb (by simp)) ?_
                  have hMr := HM.out.recv (s := s1) (r := r1) rfl
                  simp only [List.map_cons] at hMr
                  obtain ⟨Wr, hWr⟩ : ∃ Wr, Wr = W2.setChan (w.heap.size + 1 + j) l0.length ((Value.agg (valQ l0 F q) :: List.map (fun q => Value.agg (valQ l0 F q)) rem).toArray.extract 1 (Value.agg (valQ l0 F q) :: List.map (fun q => Value.agg (valQ l0 F q)) rem).toArray.size) true s1 (r1 + 1) false := ⟨_, rfl⟩
                  rw [← hWr] at hMr
                  rw [← hWr]
                  clear hWr HM hchb
                  have HM := Aside0.mk hMr
                  clear hMr
                  rw [show (Value.agg (valQ l0 F q) :: List.map (fun q => Value.agg (valQ l0 F q)) rem).toArray.getD 0 undef = Value.agg (valQ l0 F q) by simp]
                  obtain ⟨y0, y1, y2, y3, y4, y5, y6, y7, A7, c7, hy⟩ : ∃ y0 y1 y2 y3 y4 y5 y6 y7 A7 c7, y0 = (l0.getD q z29).f0 ∧ y1 = (l0.getD q z29).f1 ∧ y2 = (l0.getD q z29).f2 ∧ y3 = (l0.getD q z29).f3 ∧ y4 = (l0.getD q z29).f4 ∧ y5 = (l0.getD q z29).f5 ∧ y6 = (l0.getD q z29).f6 ∧ y7 = (l0.getD q z29).f7.length ∧ A7 = (F q).1 ∧ c7 = (F q).2 := ⟨_, _, _, _, _, _, _, _, _, _, rfl, rfl, rfl, rfl, rfl, rfl, rfl, rfl, rfl, rfl⟩
                  have hvq : valQ l0 F q = blkQ y0 y1 y2 y3 y4 y5 y6 (.slice A7 y7 c7) := by
                    obtain ⟨e0, e1, e2, e3, e4, e5, e6, e7, e8, e9⟩ := hy
                    rw [e0, e1, e2, e3, e4, e5, e6, e7, e8, e9]; rfl
                  have HVQ := Aside0.mk hvq
                  have HYQ := Aside0.mk hy
                  clear hy
                  rw [hvq]
                  clear hvq
                  simp only [got, if_true]
                  simp only [Act.put, List.setIfInBounds_toArray, List.set_cons_zero, List.set_cons_succ]
                  refine wpAt_drop 2 ?_
                  simp only [List.toList_toArray, List.drop_succ_cons, List.drop_zero]
                  go_wp2_with (first | ((with_reducible refine gate_store (t := 29) (p := 12) rfl ?_); refine store_event (t := 29) (p := 12) (w1 := ((Wr.alloc (.cells (blkQ 0 0 0 0 0 0 0 (.slice none 0 0)) 29))).setCells (Wr.heap.size) 0 (blkQ y0 y1 y2 y3 y4 y5 y6 (.slice A7 y7 c7)).toList) rfl rfl rfl ?hr ?_; (case hr => (unfold execOp; simp only [Act.eval, Sem.run_bind, Sem.run_pure, Result.andThen_ok]; show ((Sem.run Try.prog (Instr.storeAt 29 (.pointer (some ⟨Wr.heap.size, 0, none⟩)) (.agg (blkQ y0 y1 y2 y3 y4 y5 y6 (.slice A7 y7 c7)))) ((Wr.alloc (.cells (blkQ 0 0 0 0 0 0 0 (.slice none 0 0)) 29)))).andThen _) = _; rw [(store_msgQ (blk_new Wr (.cells (blkQ 0 0 0 0 0 0 0 (.slice none 0 0)) 29)) rfl y0 y1 y2 y3 y4 y5 y6 (.slice A7 y7 c7) rfl).1]; try rfl)); intro W3 hw_; have HMn := Aside0.mk (HM.out.below (show Below Wr.heap.size Wr W3 by rw [hw_]; exact below_cellsQ ((Below.refl _ _).alloc (Nat.le_refl _) _) (Nat.le_refl _) _)); have HBn := Aside0.mk (show W3.heap[Wr.heap.size]? = some (.cells (blkQ y0 y1 y2 y3 y4 y5 y6 (.slice A7 y7 c7)) 29 (0, 0)) by rw [hw_]; exact (store_msgQ (blk_new Wr (.cells (blkQ 0 0 0 0 0 0 0 (.slice none 0 0)) 29)) rfl y0 y1 y2 y3 y4 y5 y6 (.slice A7 y7 c7) rfl).2); clear hw_))
                  have HB2 := Aside0.mk HM.out.big
                  have HBq : Aside0 (W3.heap[Wr.heap.size]? = some (.cells (valQ l0 F q) 29 (0, 0))) := ⟨by rw [HVQ.out]; exact HBn.out⟩
                  exact ⟨⟨[], rem, q, true, none, 0, Wr.heap.size⟩, rfl, HMn, HBq, ⟨HB2.out, fun k hk => by simp [Value.ownBlock] at hk⟩, ⟨rfl, fun h => by cases h⟩⟩
              case b7 =>
                intro e a W3 hR
                cases e
                case exit => exact hR.elim
                case goto => exact hR.elim
                case ret => exact hR.elim
                case panic => exact hR.elim
                case outgrown => exact hR.elim
                obtain ⟨s0, ha, hI⟩ := hR
                show wpN _ _ _ a _
                rw [ha]
                generalize (fun i => a.tmps.getD i undef) = f
                clear ha a
                refine wpN_block ?_
                refine wpN_loopF (fun (s : G7) f => { tmps := #[f 0, .int .i64 n, f 2, f 3, f 4, f 5, f 6, f 7, f 8, .slice (some ⟨go, 0, none⟩) n n, .int .i64 j, .chan (some (w.heap.size + 1 + j)), .pointer (some ⟨s.b12, 0, none⟩), .bool s.ok, f 14, f 15, f 16, f 17, f 18, f 19, f 20, f 21, f 22, f 23, f 24, f 25, f 26, f 27, f 28, f 29, f 30, f 31, f 32, f 33, f 34, f 35, f 36, f 37, f 38, f 39, f 40, f 41, f 42, f 43, f 44, f 45, f 46, f 47, f 48, f 49, f 50, f 51, f 52, f 53, f 54, f 55, f 56, f 57, f 58, f 59, f 60, f 61, .slice (some ⟨w.heap.size, 0, none⟩) n n, .int .i64 n, .int .i64 j, f 65, f 66, f 67, f 68, f 69, f 70, f 71, f 72, f 73, f 74, f 75, f 76, f 77, f 78, f 79, f 80, f 81, f 82, f 83, f 84, f 85, f 86, f 87, f 88, f 89, f 90, f 91, f 92, f 93], defers := [] }) (fun s W_ => Aside0 (Mid w w1 W W_ n j go l0 F vs s.done s.rem s.Av s.cv) ∧ Aside0 (W_.heap[s.b12]? = some (.cells (if s.ok = true then valQ l0 F s.q else blkQ 0 0 0 0 0 0 0 (.slice none 0 0)) 29 (0, 0))) ∧ Aside0 (W.heap.size ≤ s.b12 ∧ ∀ k, (Value.slice s.Av s.done.length s.cv).ownBlock = some k → k < s.b12) ∧ Aside0 (goTo l0 j l0.length = s.done ++ (if s.ok = true then s.q :: s.rem else []) ∧ (s.ok = false → s.rem = []))) (fun s => s.rem.length + (if s.ok = true then 1 else 0)) s0 rfl hI ?round7
                case round7 =>
                  clear hI s0 f W3 HM W2
                  rintro ⟨done, rem, q, ok, Av, cv, b12⟩ f W2 ⟨HM, HBX, HBN, HGL⟩
                  simp only at HM HBX HBN HGL
                  cases ok
                  · obtain ⟨hg1, hg2⟩ := HGL.out
                    simp only [Bool.false_eq_true, if_false, List.append_nil] at hg1
                    have hr := hg2 rfl
                    subst hr
                    subst hg1
                    have HE := Aside0.mk HM.out.end_
                    clear HM HBX HBN HGL hg2
                    refine wpN_seqP ?_
                    go_wp2
                    refine wpN_of ?_
                    go_wp2
                    exact ⟨j + 1, rfl, ⟨HJN.out, _, HE⟩, by omega⟩
                  · obtain ⟨hg1, -⟩ := HGL.out
                    simp only [if_true] at hg1 HBX
                    have HG1 := Aside0.mk hg1
                    clear hg1 HGL
                    obtain ⟨y0, y1, y2, y3, y4, y5, y6, y7, A7, c7, hy⟩ : ∃ y0 y1 y2 y3 y4 y5 y6 y7 A7 c7, y0 = (l0.getD q z29).f0 ∧ y1 = (l0.getD q z29).f1 ∧ y2 = (l0.getD q z29).f2 ∧ y3 = (l0.getD q z29).f3 ∧ y4 = (l0.getD q z29).f4 ∧ y5 = (l0.getD q z29).f5 ∧ y6 = (l0.getD q z29).f6 ∧ y7 = (l0.getD q z29).f7.length ∧ A7 = (F q).1 ∧ c7 = (F q).2 := ⟨_, _, _, _, _, _, _, _, _, _, rfl, rfl, rfl, rfl, rfl, rfl, rfl, rfl, rfl, rfl⟩
                    have hvq : valQ l0 F q = blkQ y0 y1 y2 y3 y4 y5 y6 (.slice A7 y7 c7) := by
                      obtain ⟨e0, e1, e2, e3, e4, e5, e6, e7, e8, e9⟩ := hy
                      rw [e0, e1, e2, e3, e4, e5, e6, e7, e8, e9]; rfl
                    have HVQ := Aside0.mk hvq
                    have HYQ := Aside0.mk hy
                    clear hy
                    rw [hvq] at HBX
                    clear hvq
                    obtain ⟨b1_, b2_, b3_⟩ := HM.out.o.bounds
                    have hbn := HBN.out.1
                    have hqL : q < l0.length := by
                      have : q ∈ goTo l0 j l0.length := by rw [HG1.out]; simp
                      unfold goTo at this
                      have := (List.mem_filter.1 this).1
                      simpa using this
                    have HQL := Aside0.mk hqL
                    have hdl : done.length ≤ l0.length := by
                      have := goTo_len l0 j l0.length
                      rw [HG1.out, List.length_append] at this
                      omega
                    have HDL := Aside0.mk hdl
                    have hcj := (blk_cell HM.out.cell j)
                    have hcj2 : (vs.set j (Value.slice Av done.length cv)).toArray[j]? = some (Value.slice Av done.length cv) := by
                      rw [List.getElem?_toArray, List.getElem?_set, if_pos rfl, if_pos (by rw [HM.out.o.len]; exact HJN.out)]
                    rw [hcj2] at hcj
                    clear hcj2
                    refine wpN_seqP ?_
                    go_wp2
                    refine wpN_seq ?_
                    refine wpN_of ?_
                    refine wp_block ?_
                    have HM3 := Aside0.mk (HM.out.below (below_drew (Below.refl _ _)))
                    have HBX3 := Aside0.mk (blk_drew HBX.out)
                    have hcj3 : Aside0 (W2.drew.cell? ⟨go, j, none⟩ = some (Value.slice Av done.length cv)) := ⟨hcj⟩
                    refine start_ (n := 11) (S := fun w' => w'.cell? ⟨go, j, none⟩ = some (.slice Av done.length cv) ∧ w'.cell? ⟨b12, 0, none⟩ = some (.int .i64 y0) ∧ w'.cell? ⟨b12, 1, none⟩ = some (.int .i64 y1) ∧ w'.cell? ⟨b12, 2, none⟩ = some (.int .i64 y2) ∧ w'.cell? ⟨b12, 3, none⟩ = some (.int .i64 y3) ∧ w'.cell? ⟨b12, 4, none⟩ = some (.int .i64 y4) ∧ w'.cell? ⟨b12, 5, none⟩ = some (.int .i64 y5) ∧ w'.cell? ⟨b12, 6, none⟩ = some (.int .i64 y6) ∧ w'.cell? ⟨b12, 7, none⟩ = some (.slice A7 y7 c7)) (ds := [8, 10]) #[false, false, false, false, false, false, false, false, false, false, false] (by kernel_rfl) rfl rfl ⟨hcj3.out, (blk_cell HBX3.out 0).trans rfl, (blk_cell HBX3.out 1).trans rfl, (blk_cell HBX3.out 2).trans rfl, (blk_cell HBX3.out 3).trans rfl, (blk_cell HBX3.out 4).trans rfl, (blk_cell HBX3.out 5).trans rfl, (blk_cell HBX3.out 6).trans rfl, (blk_cell HBX3.out 7).trans rfl⟩ (fun hHeld => ?_)
                    generalize World.drew W2 = W3 at HM3 HBX3 hcj3 hHeld ⊢
                    refine pure_ (i := 0) (N := some 81) (v := ?_) (a' := ?_) #[true, false, false, false, false, false, false, false, false, false, false] rfl rfl (by kernel_rfl) (fun _ _ _ h => h) (Or.inl ⟨by rfl, ?_⟩) ?_ ?_
                    rotate_left
                    · intro w'
                      go_simp
                      with_reducible rfl
                    rotate_left
                    · simp only [Act.put, List.setIfInBounds_toArray, List.set_cons_zero, List.set_cons_succ, i64_w, i32_w]
                      rfl
                    refine pure_ (i := 1) (N := some 82) (v := ?_) (a' := ?_) #[true, true, false, false, false, false, false, false, false, false, false] rfl rfl (by kernel_rfl) (fun _ _ _ h => h) (Or.inl ⟨by rfl, ?_⟩) ?_ ?_
                    rotate_left
                    · intro w'
                      go_simp
                      with_reducible rfl
                    rotate_left
                    · simp only [Act.put, List.setIfInBounds_toArray, List.set_cons_zero, List.set_cons_succ, i64_w, i32_w]
                      rfl
                    refine pure_ (i := 2) (N := some 83) (v := ?_) (a' := ?_) #[true, true, true, false, false, false, false, false, false, false, false] rfl rfl (by kernel_rfl) (fun _ _ _ h => h) (Or.inl ⟨by rfl, ?_⟩) ?_ ?_
                    rotate_left
                    · intro w'
                      go_simp
                      with_reducible rfl
                    rotate_left
                    · simp only [Act.put, List.setIfInBounds_toArray, List.set_cons_zero, List.set_cons_succ, i64_w, i32_w]
                      rfl
                    refine pure_ (i := 3) (N := some 84) (v := ?_) (a' := ?_) #[true, true, true, true, false, false, false, false, false, false, false] rfl rfl (by kernel_rfl) (fun _ _ _ h => h) (Or.inl ⟨by rfl, ?_⟩) ?_ ?_
                    rotate_left
                    · intro w'
                      go_simp
                      with_reducible rfl
                    rotate_left
                    · simp only [Act.put, List.setIfInBounds_toArray, List.set_cons_zero, List.set_cons_succ, i64_w, i32_w]
                      rfl
                    refine pure_ (i := 4) (N := some 85) (v := ?_) (a' := ?_) #[true, true, true, true, true, false, false, false, false, false, false] rfl rfl (by kernel_rfl) (fun _ _ _ h => h) (Or.inl ⟨by rfl, ?_⟩) ?_ ?_
                    rotate_left
                    · intro w'
                      go_simp
                      with_reducible rfl
                    rotate_left
                    · simp only [Act.put, List.setIfInBounds_toArray, List.set_cons_zero, List.set_cons_succ, i64_w, i32_w]
                      rfl
                    refine take_ (i := 5) (N := some 86) (v := ?_) (a' := ?_) #[true, true, true, true, true, true, false, false, false, false, false] rfl rfl (by kernel_rfl) (fun _ _ _ h => h) (Or.inl ⟨by rfl, ?_⟩) hHeld ?_ ?_
                    rotate_left
                    · rintro w' ⟨s0, s1, s2, s3, s4, s5, s6, s7, s8⟩
                      go_simp
                      with_reducible rfl
                    rotate_left
                    · simp only [Act.put, List.setIfInBounds_toArray, List.set_cons_zero, List.set_cons_succ, i64_w, i32_w]
                      rfl
                    refine take_ (i := 6) (N := some 87) (v := ?_) (a' := ?_) #[true, true, true, true, true, true, true, false, false, false, false] rfl rfl (by kernel_rfl) (fun _ _ _ h => h) (Or.inl ⟨by rfl, ?_⟩) hHeld ?_ ?_
                    rotate_left
                    · rintro w' ⟨s0, s1, s2, s3, s4, s5, s6, s7, s8⟩
                      go_simp
                      with_reducible rfl
                    rotate_left
                    · simp only [Act.put, List.setIfInBounds_toArray, List.set_cons_zero, List.set_cons_succ, i64_w, i32_w]
                      rfl
                    refine one_ (i := 7) (N := some 88) #[true, true, true, true, true, true, true, true, false, false, false] rfl rfl (by kernel_rfl) (by decide) (fun K hK => ?_)
                    refine value_ (w1 := ?_) (v := ?_) (by rfl) rfl ?_ ?_
                    rotate_left 2
                    · go_simp
                      constructor
                      · rfl
                      · rfl
                    have HBl := (Below.refl W3.heap.size W3).alloc (Nat.le_refl _) (.cells #[.int .i64 y0, .int .i64 y1, .int .i64 y2, .int .i64 y3, .int .i64 y4, .int .i64 y5, .int .i64 y6, .slice A7 y7 c7] 29)
                    have HM4 := Aside0.mk (HM3.out.below HBl)
                    have HBX4 := Aside0.mk (blk_below HBX3.out HBl)
                    have hcj4 := Aside0.mk ((HBl.cell (p := ⟨go, j, none⟩) (by show go < W3.heap.size; have := HM3.out.big; omega)).trans hcj3.out)
                    have HRL := Aside0.mk (lit_mine (vv := .slice Av done.length cv) (go := go) (w1s := w1.heap.size) (x := l0.getD q z29) (base := w.heap.size) (g := W3.heap.size) (W := W3) (y0 := y0) (y1 := y1) (y2 := y2) (y3 := y3) (y4 := y4) (y5 := y5) (y6 := y6) (y7 := y7) (A7 := A7) (c7 := c7) rfl (by have htx := HM4.out.txt (HQ.out (by have := HQL.out; omega)) HCH1.out HQL.out (by have := HW0S.out; omega); obtain ⟨_, _, _, _, _, _, _, e7, e8, e9⟩ := HYQ.out; rw [← e7, ← e8, ← e9] at htx; exact htx) (by obtain ⟨e0, e1, e2, e3, e4, e5, e6, _⟩ := HYQ.out; exact ⟨e0, e1, e2, e3, e4, e5, e6⟩) HM4.out.o.go1 (fun k hk => by have := HM4.out.vnew k hk; have := HM4.out.o.bounds.2.2; omega))
                    clear HBl
                    refine hK.out _ _ ⟨hcj4.out, (blk_cell HBX4.out 0).trans rfl, (blk_cell HBX4.out 1).trans rfl, (blk_cell HBX4.out 2).trans rfl, (blk_cell HBX4.out 3).trans rfl, (blk_cell HBX4.out 4).trans rfl, (blk_cell HBX4.out 5).trans rfl, (blk_cell HBX4.out 6).trans rfl, (blk_cell HBX4.out 7).trans rfl⟩ (fun hHeld => ?_)
                    clear hK K
                    refine norm_ (a' := ?_) ?_ ?_
                    rotate_left
                    · show Act.put _ (some 88) _ = _
                      simp only [Act.put, List.setIfInBounds_toArray, List.set_cons_zero, List.set_cons_succ, i64_w, i32_w]
                      rfl
                    refine last_ (i := 8) (N := some 89) #[true, true, true, true, true, true, true, true, true, false, false] rfl rfl (by kernel_rfl) (by decide) (fun K hK => ?_)
                    refine Kd.R_append_rows_step k29 (w0 := w) w.heap.size rfl (.tmp 86) (.tmp 88) 22 29 (.agg #[(.int .i64 0), (.int .i64 0), (.int .i64 0), (.int .i64 0), (.int .i64 0), (.int .i64 0), (.int .i64 0), (.slice none 0 0)]) 80 rfl Try.underlying22 msg_info rfl (show (0 : Nat) < 8 by decide) (by omega) (.slice Av done.length cv) (done.map (fun q => l0.getD q z29)) [l0.getD q z29] (some ⟨W3.heap.size, 0, none⟩) 1 1 (fun q => q ≠ go) (fun k => k ≠ go ∧ some k ≠ (Value.slice Av done.length cv).ownBlock) rfl rfl HM4.out.row HRL.out (fun _ _ h => h) (fun _ h => h) (fun k hk => by have := HM4.out.o.go2; have := HM4.out.big; omega) HM4.out.bel HM4.out.bel.size (by have := HDL.out; rw [List.length_map]; omega) ?_
                    intro v1 W5 ho hb hg hat
                    obtain ⟨A9, c9, rfl⟩ := Kd.R_slice ho
                    rw [show (List.map (fun q => l0.getD q z29) done ++ [l0.getD q z29]).length = (done ++ [q]).length by simp] at ho hat ⊢
                    obtain ⟨m, hm⟩ : ∃ m, m = (done ++ [q]).length := ⟨_, rfl⟩
                    rw [← hm] at ho hat ⊢
                    have HMM := Aside0.mk hm
                    have hgo5 := (hg.block go (by have := HM4.out.o.go2; have := HM4.out.big; omega) (fun e => by have := HM4.out.vnew go e.symm; have := HM4.out.o.go2; omega)).trans HM4.out.cell
                    have hb125 := (hg.block b12 (blk_lt HBX4.out) (fun e => by have := HBN.out.2 b12 e.symm; omega)).trans HBX4.out
                    have HBX5 := Aside0.mk hb125
                    have hc5 := (blk_cell hgo5 j).trans (show _ = some (Value.slice Av done.length cv) by rw [List.getElem?_toArray, List.getElem?_set, if_pos rfl, if_pos (by rw [HM4.out.o.len]; exact HJN.out)])
                    have hf5 := blk_frozen hgo5 j
                    clear hm hgo5 hb125
                    have HO5 := Aside0.mk ho
                    have HB5 := Aside0.mk hb
                    have HG5 := Aside0.mk hg
                    have HAT := Aside0.mk hat
                    refine hK.out _ _ ?_
                    clear hK K
                    refine norm_ (a' := ?_) ?_ ?_
                    rotate_left
                    · show Act.put _ (some 89) _ = _
                      simp only [Act.put, List.setIfInBounds_toArray, List.set_cons_zero, List.set_cons_succ, i64_w, i32_w]
                      rfl
                    refine pure_ (i := 9) (N := some 90) (v := ?_) (a' := ?_) #[true, true, true, true, true, true, true, true, true, true, false] rfl rfl (by kernel_rfl) (fun _ _ _ h => h) (Or.inl ⟨by rfl, ?_⟩) ?_ ?_
                    rotate_left
                    · intro w'
                      go_simp
                      with_reducible rfl
                    rotate_left
                    · simp only [Act.put, List.setIfInBounds_toArray, List.set_cons_zero, List.set_cons_succ, i64_w, i32_w]
                      rfl
                    refine last_ (i := 10) (N := none) #[true, true, true, true, true, true, true, true, true, true, true] rfl rfl (by kernel_rfl) (by decide) (fun K hK => ?_)
                    refine skip_ (w1 := ?_) (by rfl) rfl ?_ ?_
                    rotate_left
                    · go_simp
                      rfl
                    refine hK.out _ _ ?_
                    clear hK K
                    refine done_ (by kernel_rfl) ?_
                    have HM6 := HM4.out.laid (q := q) (A' := A9) (c' := c9) (by rw [← HMM.out]; exact HO5.out) HG5.out (by rw [← HMM.out]; exact HAT.out) HB5.out
                    rw [← HMM.out] at HM6
                    have HBX6 := Aside0.mk (blk_far HBX5.out (p := ⟨go, j, none⟩) (show b12 ≠ go by have := HBN.out.1; have := HM4.out.o.go2; omega) (.slice A9 m c9))
                    have HN6 : ∀ k, (Value.slice A9 (done ++ [q]).length c9).ownBlock = some k → k < (W5.setCell ⟨go, j, none⟩ (.slice A9 m c9)).heap.size := by
                      intro k hk
                      have := Kd.R_lt HO5.out k (by rw [HMM.out]; exact hk)
                      simp [World.setCell]; exact this
                    obtain ⟨W6, hW6⟩ : ∃ W6, W6 = W5.setCell ⟨go, j, none⟩ (.slice A9 m c9) := ⟨_, rfl⟩
                    rw [← hW6] at HM6 HBX6 HN6 ⊢
                    clear hW6 HM HM3 HM4 HBX HBX3 HBX4 HBX5 hHeld hcj3 hcj4 HRL hc5 hf5
                    have HM := Aside0.mk HM6
                    have HNB := Aside0.mk HN6
                    clear HM6 HN6
                    have b0 := blk_cell HBX6.out 0
                    have b1 := blk_cell HBX6.out 1
                    have b2 := blk_cell HBX6.out 2
                    have b3 := blk_cell HBX6.out 3
                    have b4 := blk_cell HBX6.out 4
                    have b5 := blk_cell HBX6.out 5
                    have b6 := blk_cell HBX6.out 6
                    have b7 := blk_cell HBX6.out 7
                    simp only [blkQ, List.getElem?_toArray, List.getElem?_cons_zero, List.getElem?_cons_succ] at b0 b1 b2 b3 b4 b5 b6 b7
                    simp only [Exit.inBlock, Exit.then]
                    show wpN _ _ _ _ _
                    refine wpN_seqP ?_
                    go_wp2_with (first | ((with_reducible refine gate_store (t := 29) (p := 12) rfl ?_); refine store_event (t := 29) (p := 12) (w1 := ((W6.alloc (.cells (blkQ 0 0 0 0 0 0 0 (.slice none 0 0)) 29))).setCells (W6.heap.size) 0 (blkQ y0 y1 y2 y3 y4 y5 y6 (.slice A7 y7 c7)).toList) rfl rfl rfl ?hr ?_; (case hr => (unfold execOp; simp only [Act.eval, Sem.run_bind, Sem.run_pure, Result.andThen_ok]; show ((Sem.run Try.prog (Instr.storeAt 29 (.pointer (some ⟨W6.heap.size, 0, none⟩)) (.agg (blkQ y0 y1 y2 y3 y4 y5 y6 (.slice A7 y7 c7)))) ((W6.alloc (.cells (blkQ 0 0 0 0 0 0 0 (.slice none 0 0)) 29)))).andThen _) = _; rw [(store_msgQ (blk_new W6 (.cells (blkQ 0 0 0 0 0 0 0 (.slice none 0 0)) 29)) rfl y0 y1 y2 y3 y4 y5 y6 (.slice A7 y7 c7) rfl).1]; try rfl)); intro W7 hw_; have HMn := Aside0.mk (HM.out.below (show Below W6.heap.size W6 W7 by rw [hw_]; exact below_cellsQ ((Below.refl _ _).alloc (Nat.le_refl _) _) (Nat.le_refl _) _)); have HBn := Aside0.mk (show W7.heap[W6.heap.size]? = some (.cells (blkQ y0 y1 y2 y3 y4 y5 y6 (.slice A7 y7 c7)) 29 (0, 0)) by rw [hw_]; exact (store_msgQ (blk_new W6 (.cells (blkQ 0 0 0 0 0 0 0 (.slice none 0 0)) 29)) rfl y0 y1 y2 y3 y4 y5 y6 (.slice A7 y7 c7) rfl).2); clear hw_))
                    refine wpN_region ?_
                    show wpAt _ _ _ [0, 1, 2, 3, 4, 5, 6] _ _
                    refine wpAt_val (i := 0) (rest := [1, 2, 3, 4, 5, 6]) (v := .chan (some (w.heap.size + 1 + j))) (w' := W7) rfl rfl (by simp [go_sem, execOp, Act.eval]) ?_
                    simp only [Act.put, List.setIfInBounds_toArray, List.set_cons_zero, List.set_cons_succ]
                    clear b0 b1 b2 b3 b4 b5 b6 b7 HBX6
                    have HBIG := Aside0.mk HM.out.big
                    clear HM
                    rcases rem with _ | ⟨q2, rem2⟩
                    · obtain ⟨s1, r1, hchb⟩ := HMn.out.chb
                      simp only [List.map_nil] at hchb
                      refine wpAt_comm (i := 1) (rest := [2, 3, 4, 5, 6]) (cases := #[rcase (w.heap.size + 1 + j) (.agg #[(.int .i64 0), (.int .i64 0), (.int .i64 0), (.int .i64 0), (.int .i64 0), (.int .i64 0), (.int .i64 0), (.slice none 0 0)])]) (blocking := true) (shape := .recv true) (w1 := W7) rfl rfl (by simp [go_sem, execOp, rcase, Act.eval, Try.zeroValue29]) (fun fr cs es h => step_lone_recv_shut true h hchb) ?_
                      simp only [got, if_true]
                      simp only [Act.put, List.setIfInBounds_toArray, List.set_cons_zero, List.set_cons_succ]
                      refine wpAt_drop 2 ?_
                      simp only [List.toList_toArray, List.drop_succ_cons, List.drop_zero]
                      clear hchb
                      go_wp2_with (first | ((with_reducible refine gate_store (t := 29) (p := 12) rfl ?_); refine store_event (t := 29) (p := 12) (w1 := (W7).setCells (W6.heap.size) 0 (blkQ 0 0 0 0 0 0 0 (.slice none 0 0)).toList) rfl rfl rfl ?hr ?_; (case hr => (unfold execOp; simp only [Act.eval, Sem.run_bind, Sem.run_pure, Result.andThen_ok]; show ((Sem.run Try.prog (Instr.storeAt 29 (.pointer (some ⟨W6.heap.size, 0, none⟩)) (.agg (blkQ 0 0 0 0 0 0 0 (.slice none 0 0)))) (W7)).andThen _) = _; rw [(store_msgQ HBn.out rfl 0 0 0 0 0 0 0 (.slice none 0 0) rfl).1]; try rfl)); intro W8 hw_; have HM8 := Aside0.mk (show Mid w w1 W W8 n j go l0 F vs (done ++ [q]) [] A9 c9 by rw [hw_]; exact HMn.out.boxput HBn.out HBIG.out (fun e => by have := HNB.out _ e.symm; omega) _); have HB8 := Aside0.mk (show W8.heap[W6.heap.size]? = some (.cells (blkQ 0 0 0 0 0 0 0 (.slice none 0 0)) 29 (0, 0)) by rw [hw_]; exact (store_msgQ HBn.out rfl 0 0 0 0 0 0 0 (.slice none 0 0) rfl).2); clear hw_))
                      exact ⟨⟨done ++ [q], [], q, false, A9, c9, W6.heap.size⟩, rfl, ⟨HM8, HB8, ⟨HBIG.out, HNB.out⟩, ⟨by rw [HG1.out]; simp, fun _ => rfl⟩⟩, by simp⟩
                    · obtain ⟨s1, r1, hchb⟩ := HMn.out.chb
                      simp only [List.map_cons] at hchb
                      refine wpAt_comm (i := 1) (rest := [2, 3, 4, 5, 6]) (cases := #[rcase (w.heap.size + 1 + j) (.agg #[(.int .i64 0), (.int .i64 0), (.int .i64 0), (.int .i64 0), (.int .i64 0), (.int .i64 0), (.int .i64 0), (.slice none 0 0)])]) (blocking := true) (shape := .recv true) (w1 := W7) rfl rfl (by simp [go_sem, execOp, rcase, Act.eval, Try.zeroValue29]) (fun fr cs es h => step_lone_recv_buf true h hchb (by simp)) ?_
                      have hMr := HMn.out.recv (s := s1) (r := r1) rfl
                      simp only [List.map_cons] at hMr
                      have hBr := (setChan_far W7 (w.heap.size + 1 + j) l0.length ((Value.agg (valQ l0 F q2) :: List.map (fun q => Value.agg (valQ l0 F q)) rem2).toArray.extract 1 (Value.agg (valQ l0 F q2) :: List.map (fun q => Value.agg (valQ l0 F q)) rem2).toArray.size) true s1 (r1 + 1) false W6.heap.size (by have := HBIG.out; have := HMn.out.o.bounds; have := HJN.out; omega)).trans HBn.out
                      obtain ⟨Wr, hWr⟩ : ∃ Wr, Wr = W7.setChan (w.heap.size + 1 + j) l0.length ((Value.agg (valQ l0 F q2) :: List.map (fun q => Value.agg (valQ l0 F q)) rem2).toArray.extract 1 (Value.agg (valQ l0 F q2) :: List.map (fun q => Value.agg (valQ l0 F q)) rem2).toArray.size) true s1 (r1 + 1) false := ⟨_, rfl⟩
                      rw [← hWr] at hMr hBr ⊢
                      clear hWr HMn HBn hchb
                      have HMr := Aside0.mk hMr
                      have HBr := Aside0.mk hBr
                      clear hMr hBr
                      rw [show (Value.agg (valQ l0 F q2) :: List.map (fun q => Value.agg (valQ l0 F q)) rem2).toArray.getD 0 undef = Value.agg (valQ l0 F q2) by simp]
                      obtain ⟨z0, z1, z2, z3, z4, z5, z6, z7, A2, c2, hy⟩ : ∃ z0 z1 z2 z3 z4 z5 z6 z7 A2 c2, z0 = (l0.getD q2 z29).f0 ∧ z1 = (l0.getD q2 z29).f1 ∧ z2 = (l0.getD q2 z29).f2 ∧ z3 = (l0.getD q2 z29).f3 ∧ z4 = (l0.getD q2 z29).f4 ∧ z5 = (l0.getD q2 z29).f5 ∧ z6 = (l0.getD q2 z29).f6 ∧ z7 = (l0.getD q2 z29).f7.length ∧ A2 = (F q2).1 ∧ c2 = (F q2).2 := ⟨_, _, _, _, _, _, _, _, _, _, rfl, rfl, rfl, rfl, rfl, rfl, rfl, rfl, rfl, rfl⟩
                      have hvq : valQ l0 F q2 = blkQ z0 z1 z2 z3 z4 z5 z6 (.slice A2 z7 c2) := by
                        obtain ⟨e0, e1, e2, e3, e4, e5, e6, e7, e8, e9⟩ := hy
                        rw [e0, e1, e2, e3, e4, e5, e6, e7, e8, e9]; rfl
                      have HVZ := Aside0.mk hvq
                      have HYZ := Aside0.mk hy
                      clear hy
                      rw [hvq]
                      clear hvq
                      simp only [got, if_true]
                      simp only [Act.put, List.setIfInBounds_toArray, List.set_cons_zero, List.set_cons_succ]
                      refine wpAt_drop 2 ?_
                      simp only [List.toList_toArray, List.drop_succ_cons, List.drop_zero]
                      go_wp2_with (first | ((with_reducible refine gate_store (t := 29) (p := 12) rfl ?_); refine store_event (t := 29) (p := 12) (w1 := (Wr).setCells (W6.heap.size) 0 (blkQ z0 z1 z2 z3 z4 z5 z6 (.slice A2 z7 c2)).toList) rfl rfl rfl ?hr ?_; (case hr => (unfold execOp; simp only [Act.eval, Sem.run_bind, Sem.run_pure, Result.andThen_ok]; show ((Sem.run Try.prog (Instr.storeAt 29 (.pointer (some ⟨W6.heap.size, 0, none⟩)) (.agg (blkQ z0 z1 z2 z3 z4 z5 z6 (.slice A2 z7 c2)))) (Wr)).andThen _) = _; rw [(store_msgQ HBr.out rfl z0 z1 z2 z3 z4 z5 z6 (.slice A2 z7 c2) rfl).1]; try rfl)); intro W9 hw_; have HM8 := Aside0.mk (show Mid w w1 W W9 n j go l0 F vs (done ++ [q]) rem2 A9 c9 by rw [hw_]; exact HMr.out.boxput HBr.out HBIG.out (fun e => by have := HNB.out _ e.symm; omega) _); have HB8 := Aside0.mk (show W9.heap[W6.heap.size]? = some (.cells (blkQ z0 z1 z2 z3 z4 z5 z6 (.slice A2 z7 c2)) 29 (0, 0)) by rw [hw_]; exact (store_msgQ HBr.out rfl z0 z1 z2 z3 z4 z5 z6 (.slice A2 z7 c2) rfl).2); clear hw_))
                      exact ⟨⟨done ++ [q], rem2, q2, true, A9, c9, W6.heap.size⟩, rfl, ⟨HM8, ⟨by rw [HVZ.out]; exact HB8.out⟩, ⟨HBIG.out, HNB.out⟩, ⟨by rw [HG1.out]; simp, fun h => by cases h⟩⟩, by simp⟩
            · have hje : j = n := by omega
              subst hje
              clear hlt
              refine wpN_seqP ?_
              go_wp2
              refine wpN_seqP ?_
              go_wp2
              refine wpN_of ?_
              go_wp2
              go_ret
              exact ⟨_, rfl, HO.out.all hn7, HO.out.bel⟩

theorem net_Split.calls (A0 : Option Addr) (c0 : Nat) (l0 : List S29) (a1 : Int) (r : List (List S29)) (w : World) (hr0 : Kd.C k29 w A0 l0.length l0) (hc0 : l0.length ≤ c0) (h : net_Split.f l0 a1 = some r) :
    Calls Try.prog 21 #[.slice A0 l0.length c0, .int .i64 a1] w fun e w' => ∃ v0_ : Value, e = .returned (v0_) ∧ Kd.R (Kd.slice 29 k29) 22 w' w.heap.size (fun _ => True) v0_ r ∧ Below w.heap.size w w' := by
  unfold net_Split.f at h
  split at h
  rotate_left
  · cases h
  rename_i hl
  cases h
  unfold splitM
  by_cases ho : a1 < 1 ∨ 7 < a1
  · rw [if_pos ho]
    exact net_Split_far A0 c0 l0 a1 w ho
  · rw [if_neg ho]
    obtain ⟨n, rfl⟩ : ∃ n : Nat, a1 = (n : Int) := ⟨a1.toNat, by omega⟩
    rw [Int.toNat_natCast]
    exact net_Split_in A0 c0 l0 n w hr0 hc0 (by omega) (by omega) (by unfold net_own.f; rw [if_pos ⟨by omega, hl.2⟩]) hl.1
end Go.Proofs.Ytfejidinfcmfjaa.P
/-
  slices.IndexFunc and slices.ContainsFunc over texts, at whatever function value that answers a plain predicate, by hand.
-/
namespace Go.Proofs.Ytfejidinfcmfjaa.P
open Go.RowKit Go.Shelf Go.Proofs.YtfejidinfcmfjaaW.PrintWords Go.Proofs.YtfejidinfcmfjaaW.PrintLast Go.Proofs.Plain

end Go.Proofs.Ytfejidinfcmfjaa.P
/-
  slices.IndexFunc and slices.DeleteFunc over messages, and net.Cut, by hand.
-/
namespace Go.Proofs.Ytfejidinfcmfjaa.P
open Go.RowKit Go.Shelf Go.Proofs.YtfejidinfcmfjaaW.PrintWords Go.Proofs.YtfejidinfcmfjaaW.PrintLast Go.Proofs.YtfejidinfcmfjaaW.PrintMore Go.Proofs.Plain

/-- A message as a value. -/
def encM (x : S29) (v : Value) : Value := .agg #[.int .i64 x.f0, .int .i64 x.f1, .int .i64 x.f2, .int .i64 x.f3, .int .i64 x.f4, .int .i64 x.f5, .int .i64 x.f6, v]
/-- A function value that answers p of messages, in whatever world the memory below B is as in w. -/
def PredM (g : Nat) (lb : Array Value) (p : S29 → Bool) (B : Nat) (w : World) : Prop :=
  (∀ args w, (callFunc g args).run Try.prog w = .ok (.enter g args) w) ∧ ∀ (x : S29) (A : Option Addr) (n c : Nat) (W : World), Below B w W → Calls Try.prog g (#[encM x (.slice A n c)] ++ lb) W fun e w' => e = .returned (.bool (p x)) ∧ Below W.heap.size W w'
set_option maxHeartbeats 4000000 in
theorem IndexFuncMsg (g : Nat) (lb : Array Value) (p : S29 → Bool) (A : Option Addr) (c B : Nat) (l : List S29) (w : World) (hr : Kd.C k29 w A l.length l) (hB : B ≤ w.heap.size) (hp : PredM g lb p B w) :
    Calls Try.prog 76 #[.slice A l.length c, .func (.func g) #[] lb] w fun e w' => e = .returned (.int .i64 (idx p l)) ∧ Below w.heap.size w w' := by
  have HR := Aside0.mk hr
  have hm := hr.2.1
  have HLB := Aside0.mk hB
  obtain ⟨eg, hpr⟩ := hp
  have HP := Aside0.mk hpr
  clear hr hpr hB
  go_enter Try.func76, Try.ntmps76
  go_wp2
  go_loopw [4, 5, 8] (fun _ _ i wr => ∃ k : Nat, k ≤ l.length ∧ i = .int .i64 k ∧ Aside0 (∀ x ∈ l.take k, p x = false) ∧ Aside0 (Below w.heap.size w wr)) (fun _ _ i _ => l.length - (intOf i).toNat)
  case atStart => exact ⟨0, Nat.zero_le _, rfl, ⟨by simp⟩, ⟨Below.refl _ _⟩⟩
  case round =>
    obtain ⟨k, hk, rfl, hall, HB⟩ := hrel
    by_cases hlt : k < l.length
    · obtain ⟨ad, A7, c7, rfl, hx0, hx1, hx2, hx3, hx4, hx5, hx6, hx7, -, -⟩ := at_T29 (Kd.C_below HR.out HB.out) (k : Int) (by omega) (by omega)
      rw [rd_msg l k hlt, Int.toNat_natCast] at hx0 hx1 hx2 hx3 hx4 hx5 hx6 hx7
      have hcall := HP.out l[k] A7 l[k].f7.length c7 wr (HB.out.mono HLB.out)
      unfold encM at hcall
      cases hpk : p l[k]
      · have hal2 : Aside0 (∀ x ∈ l.take (k + 1), p x = false) := ⟨by
          rw [List.take_succ_eq_append_getElem hlt]; intro s hs
          rcases List.mem_append.1 hs with h | h
          · exact hall.out s h
          · rw [List.mem_singleton.1 h]; exact hpk⟩
        have HC := Aside0.mk hcall
        have HK := Aside0.mk hpk
        clear hcall hpk
        go_wp2_with (go_at_fn g; refine HC.out.mono ?_; rintro e w3 ⟨rfl, hb3⟩; have HB3 := Aside0.mk (HB.out.trans (hb3.mono HB.out.size)); clear hb3; rw [HK.out])
        go_roundw
        case rel => exact ⟨k + 1, by omega, by go_num, hal2, HB3⟩
        case measure => simp [intOf]; omega
      · have HC := Aside0.mk hcall
        have HK := Aside0.mk hpk
        have hres := Aside0.mk (idx_at hlt hall.out hpk)
        clear hcall hpk
        go_wp2_with (go_at_fn g; refine HC.out.mono ?_; rintro e w3 ⟨rfl, hb3⟩; have HB3 := Aside0.mk (HB.out.trans (hb3.mono HB.out.size)); clear hb3; rw [HK.out])
        go_ret
        exact ⟨by rw [hres.out]; rfl, HB3.out⟩
    · obtain rfl : k = l.length := by omega
      have hres := Aside0.mk (idx_none (p := p) (l := l) (fun x hx => hall.out x (by rw [List.take_length]; exact hx)))
      go_wp2
      go_ret
      exact ⟨by rw [hres.out]; rfl, HB.out⟩


/-- How far a DeleteFunc has come: i are kept of the first j. -/
structure KeptM (p : S29 → Bool) (xs cur : List S29) (i j : Nat) : Prop where
  len : cur.length = xs.length
  ij : i < j
  jn : j ≤ xs.length
  kept : cur.take i = (xs.take j).filter (fun x => !p x)
  rest : cur.drop j = xs.drop j
theorem KeptM.start {p : S29 → Bool} {xs : List S29} {k : Nat} (hk : k < xs.length) (h1 : ∀ x ∈ xs.take k, p x = false) (h2 : p xs[k] = true) : KeptM p xs xs k (k + 1) := by
  refine ⟨rfl, Nat.lt_succ_self _, hk, ?_, rfl⟩
  rw [List.take_succ_eq_append_getElem hk, List.filter_append, List.filter_eq_self.2 (fun x hx => by rw [h1 x hx]; rfl)]
  simp [h2]
theorem KeptM.skip {p : S29 → Bool} {xs cur : List S29} {i j : Nat} (h : KeptM p xs cur i j) (hj : j < xs.length) (hp : p xs[j] = true) : KeptM p xs cur i (j + 1) := by
  refine ⟨h.len, Nat.lt_succ_of_lt h.ij, hj, ?_, ?_⟩
  · rw [List.take_succ_eq_append_getElem hj, List.filter_append, h.kept]
    simp [hp]
  · rw [← List.drop_drop, h.rest, List.drop_drop]
theorem KeptM.at {p : S29 → Bool} {xs cur : List S29} {i j : Nat} (h : KeptM p xs cur i j) (hj : j < xs.length) : cur[j]'(by rw [h.len]; exact hj) = xs[j] := by
  have h1 : (cur.drop j)[0]? = (xs.drop j)[0]? := by rw [h.rest]
  rw [List.getElem?_drop, List.getElem?_drop, Nat.add_zero, List.getElem?_eq_getElem (by rw [h.len]; exact hj), List.getElem?_eq_getElem hj] at h1
  exact Option.some.inj h1
theorem KeptM.keep {p : S29 → Bool} {xs cur : List S29} {i j : Nat} (h : KeptM p xs cur i j) (hj : j < xs.length) (hp : p xs[j] = false) : KeptM p xs (cur.set i xs[j]) (i + 1) (j + 1) := by
  have hi : i < cur.length := by have := h.ij; have := h.len; omega
  refine ⟨by rw [List.length_set]; exact h.len, Nat.succ_lt_succ h.ij, hj, ?_, ?_⟩
  · rw [List.take_succ_eq_append_getElem hj, List.filter_append, ← h.kept]
    have h3 : (cur.set i xs[j]).take (i + 1) = cur.take i ++ [xs[j]] := by
      rw [List.take_succ_eq_append_getElem (by rw [List.length_set]; exact hi), List.take_set_of_le (Nat.le_refl i), List.getElem_set_self]
    rw [h3]
    simp [hp]
  · rw [List.drop_set_of_lt (by have := h.ij; omega), ← List.drop_drop, h.rest, List.drop_drop]
theorem idx_cases (p : S29 → Bool) (l : List S29) : (idx p l = -1 ∧ ∀ x ∈ l, p x = false) ∨ ∃ (k : Nat) (hk : k < l.length), idx p l = (k : Int) ∧ (∀ x ∈ l.take k, p x = false) ∧ p l[k] = true := by
  by_cases h : ∀ x ∈ l, p x = false
  · exact .inl ⟨idx_none h, h⟩
  · right
    have hlt : l.findIdx p < l.length := by
      rw [List.findIdx_lt_length]
      obtain ⟨x, hx⟩ := Classical.not_forall.1 h
      obtain ⟨hx, hp⟩ := Classical.not_imp.1 hx
      exact ⟨x, hx, by simpa using hp⟩
    have h1 : ∀ x ∈ l.take (l.findIdx p), p x = false := by
      intro x hx
      obtain ⟨j, hj, rfl⟩ := List.getElem_of_mem hx
      rw [List.getElem_take]
      rw [List.length_take] at hj
      have := List.not_of_lt_findIdx (p := p) (xs := l) (i := j) (by omega)
      simpa using this
    exact ⟨_, hlt, idx_at hlt h1 (List.findIdx_getElem), h1, List.findIdx_getElem⟩
/-- A message stored into an element. -/
theorem store_msgAt {W : World} {g o : Nat} {cur : Array Value} (hh : W.heap[g]? = some (.cells cur 29 (0, 0))) (hs : o + 8 ≤ cur.size) (n0 n1 n2 n3 n4 n5 n6 : Int) (v : Value) (hv : v.oneCell' = true) :
    (Instr.storeAt 29 (.pointer (some ⟨g, o, none⟩)) (.agg (blkQ n0 n1 n2 n3 n4 n5 n6 v))).run Try.prog W = .ok () (W.setCells g o (blkQ n0 n1 n2 n3 n4 n5 n6 v).toList) := by
  have hl : (blkQ n0 n1 n2 n3 n4 n5 n6 v).toList.length = 8 := rfl
  exact run_store_run (P := Try.prog) (o := o) 29 _ _ hh rfl (by rw [hl]; kernel_rfl) (by rw [hl]; omega) (blkQ_one n0 n1 n2 n3 n4 n5 n6 v hv)


/-- Element i is written. -/
theorem seg_msg {W0 W : World} {base g n c i : Nat} {cur : List S29} {cells : Array Value} {x : S29} {A7 : Option Addr} {c7 : Nat} (h : Kd.R k29 29 W base (fun _ => True) (.slice (some ⟨g, 0, none⟩) n c) cur) (hg : W.heap[g]? = some (.cells cells 29 (0, 0))) (hi : i < n)
    (hM : k29.M W0 base (fun k => True ∧ k ≠ g) x [.int .i64 x.f0, .int .i64 x.f1, .int .i64 x.f2, .int .i64 x.f3, .int .i64 x.f4, .int .i64 x.f5, .int .i64 x.f6, .slice A7 x.f7.length c7]) (hb : Below W0.heap.size W0 W) (hn : n ≤ 9223372036854775807) :
    Kd.R k29 29 (W.setCells g (i * 8) (blkQ x.f0 x.f1 x.f2 x.f3 x.f4 x.f5 x.f6 (.slice A7 x.f7.length c7)).toList) base (fun _ => True) (.slice (some ⟨g, 0, none⟩) n c) (cur.set i x) ∧ W.grownBy (W.setCells g (i * 8) (blkQ x.f0 x.f1 x.f2 x.f3 x.f4 x.f5 x.f6 (.slice A7 x.f7.length c7)).toList) (some g) := by
  obtain ⟨cs, hcl, _, hcc, _⟩ := Kd.R_elem h z29 (i : Int) (by omega) (by omega)
  have hsz : k29.sz = 8 := rfl
  have hd : cs.drop (0 + (blkQ x.f0 x.f1 x.f2 x.f3 x.f4 x.f5 x.f6 (.slice A7 x.f7.length c7)).toList.length) = [] := List.drop_of_length_le (by rw [hcl, hsz]; exact Nat.le_refl 8)
  have := Kd.R_seg h (i : Int) (by omega) (by omega) (c := cs) (seg := (blkQ x.f0 x.f1 x.f2 x.f3 x.f4 x.f5 x.f6 (.slice A7 x.f7.length c7)).toList) (j := 0) (okp := fun k => True ∧ k ≠ g) (x' := x) hcl hcc (Nat.le_refl 8) (by
    rw [hd, List.take_zero, List.nil_append, List.append_nil]
    exact Kd.M_below hM hb) (fun k hk => hk)
  rw [Int.toNat_natCast, hsz, Nat.add_zero] at this
  exact this
set_option maxHeartbeats 8000000 in
set_option maxRecDepth 100000 in
theorem DeleteFuncMsg (f : Nat) (lb : Array Value) (p : S29 → Bool) (A : Option Addr) (c base : Nat) (xs : List S29) (w : World) (h : Kd.R k29 29 w base (fun _ => True) (.slice A xs.length c) xs) (hb : base ≤ w.heap.size) (hp : PredM f lb p base w) :
    Calls Try.prog 54 #[.slice A xs.length c, .func (.func f) #[] lb] w fun e w' => ∃ v0_ : Value, e = .returned v0_ ∧ Kd.R k29 29 w' base (fun _ => True) v0_ (xs.filter (fun x => !p x)) ∧ Below base w w' := by
  obtain ⟨-, hnc, hC⟩ := Kd.R_reads' h
  have hmax : xs.length ≤ 9223372036854775807 := Kd.C_max hC
  have HIX := Aside0.mk (IndexFuncMsg f lb p A c base xs w hC hb hp)
  have HCN := Aside0.mk hmax
  have HBW := Aside0.mk hb
  obtain ⟨eg, hpr⟩ := hp
  have HP := Aside0.mk hpr
  have HR := Aside0.mk h
  rcases idx_cases p xs with ⟨hi, hall⟩ | ⟨k, hk, hi, hall, hpk⟩
  · rw [hi] at HIX
    have HF := Aside0.mk (show xs.filter (fun x => !p x) = xs from List.filter_eq_self.2 (fun x hx => by rw [hall x hx]; rfl))
    clear h hC hpr hi hall hb
    go_enter Try.func54, Try.ntmps54
    go_wp2_with (first | (go_at_call 76; refine HIX.out.mono ?_; rintro e w1 ⟨rfl, hb⟩; have HB1 := Aside0.mk hb; clear hb))
    go_ret
    exact ⟨_, rfl, by rw [HF.out]; exact Kd.R_below HR.out HB1.out, HB1.out.mono HBW.out⟩
  · rw [hi] at HIX
    have hne1 : ((k : Int) == -1) = false := beq_eq_false_iff_ne.2 (by omega)
    obtain ⟨g, cap, hv, hbg, hgl, cells, hcells⟩ := Kd.R_form h (by omega)
    injection hv with hA _ hc_
    subst hA; subst hc_
    have HST := Aside0.mk (KeptM.start hk hall hpk)
    have HGB := Aside0.mk hbg
    have hkn : (k : Int) + 1 ≤ (xs.length : Int) := by omega
    clear h hC hpr hi hall hb hpk hcells hgl hbg
    go_enter Try.func54, Try.ntmps54
    go_wp2_with (first | (go_at_call 76; refine HIX.out.mono ?_; rintro e w1 ⟨rfl, hb⟩; have HB1 := Aside0.mk hb; clear hb))
    go_loopw [5, 6] (fun s5 s6 wr => ∃ (i j : Nat) (cur : List S29), s5 = .int .i64 i ∧ s6 = .int .i64 j ∧ Aside0 (KeptM p xs cur i j) ∧ Aside0 (Kd.R k29 29 wr base (fun _ => True) (.slice (some ⟨g, 0, none⟩) xs.length c) cur) ∧ Aside0 (Below base w wr))
      (fun _ s6 _ => xs.length - (intOf s6).toNat)
    case atStart => exact ⟨k, k + 1, xs, rfl, by go_num, HST, ⟨Kd.R_below HR.out HB1.out⟩, ⟨HB1.out.mono HBW.out⟩⟩
    case round =>
      clear HST HB1
      obtain ⟨i, j, cur, rfl, rfl, HI, HO, HB⟩ := hrel
      have hij := HI.out.ij
      have hjn := HI.out.jn
      have hln := HI.out.len
      by_cases hlt : j < xs.length
      · have hltz : (j : Int) < (xs.length : Int) := by omega
        obtain ⟨cells, hcells, hcsz⟩ := R_room HO.out
        obtain ⟨cs, hcl, hM, hcc, hfz⟩ := Kd.R_elem HO.out z29 (j : Int) (by omega) (by omega)
        obtain ⟨x, hx⟩ : ∃ x, x = xs[j] := ⟨_, rfl⟩
        rw [show cur.getD (j : Int).toNat z29 = x by rw [List.getD_eq_getElem?_getD, Int.toNat_natCast, List.getElem?_eq_getElem (by omega), hx]; exact HI.out.at hlt] at hM
        obtain ⟨v7, hcs, h7⟩ := k29_openM hM
        obtain ⟨A7, c7, rfl⟩ := Kd.R_slice h7
        subst hcs
        have HM := Aside0.mk hM
        have HXJ := Aside0.mk hx
        have HG := Aside0.mk hcells
        have hi_lt := Aside0.mk (show i < xs.length by omega)
        have HSZ := Aside0.mk (show i * 8 + 8 ≤ cells.size by rw [hcsz, show k29.sz = 8 from rfl]; omega)
        have q0 := hcc 0 _ rfl
        have q1 := hcc 1 _ rfl
        have q2 := hcc 2 _ rfl
        have q3 := hcc 3 _ rfl
        have q4 := hcc 4 _ rfl
        have q5 := hcc 5 _ rfl
        have q6 := hcc 6 _ rfl
        have q7 := hcc 7 _ rfl
        rw [show k29.sz = 8 from rfl, Int.toNat_natCast] at q0 q1 q2 q3 q4 q5 q6 q7
        rw [Nat.add_zero] at q0
        have hiz : (i : Int) < (xs.length : Int) := by omega
        clear hcells hcsz hcl hM hcc hfz h7 hx
        cases hpx : p x
        · have HK := Aside0.mk hpx
          clear hpx
          go_wp2_with (first | ((with_reducible refine gate_store (t := 29) (p := 7) rfl ?_); refine store_event (t := 29) (p := 7) (w1 := ((wr.alloc (.cells (blkQ 0 0 0 0 0 0 0 (.slice none 0 0)) 29))).setCells (wr.heap.size) (0) (blkQ x.f0 x.f1 x.f2 x.f3 x.f4 x.f5 x.f6 (.slice A7 x.f7.length c7)).toList) rfl rfl rfl ?hr ?_; (case hr => (unfold execOp; simp only [Act.eval, Sem.run_bind, Sem.run_pure, Result.andThen_ok]; show ((Sem.run Try.prog (Instr.storeAt 29 (.pointer (some ⟨wr.heap.size, 0, none⟩)) (.agg (blkQ x.f0 x.f1 x.f2 x.f3 x.f4 x.f5 x.f6 (.slice A7 x.f7.length c7)))) ((wr.alloc (.cells (blkQ 0 0 0 0 0 0 0 (.slice none 0 0)) 29)))).andThen _) = _; rw [(store_msgQ (blk_new wr (.cells (blkQ 0 0 0 0 0 0 0 (.slice none 0 0)) 29)) rfl x.f0 x.f1 x.f2 x.f3 x.f4 x.f5 x.f6 (.slice A7 x.f7.length c7) rfl).1]; try rfl)); intro w2 hw_; have HS := Aside0.mk (show Below wr.heap.size wr w2 by rw [hw_]; exact below_cellsQ ((Below.refl _ _).alloc (Nat.le_refl _) _) (Nat.le_refl _) _); have HY2 := Aside0.mk (show w2.heap[wr.heap.size]? = some (.cells (blkQ x.f0 x.f1 x.f2 x.f3 x.f4 x.f5 x.f6 (.slice A7 x.f7.length c7)) 29 (0, 0)) by rw [hw_]; exact (store_msgQ (blk_new wr (.cells (blkQ 0 0 0 0 0 0 0 (.slice none 0 0)) 29)) rfl x.f0 x.f1 x.f2 x.f3 x.f4 x.f5 x.f6 (.slice A7 x.f7.length c7) rfl).2); have y0 := blk_cell HY2.out 0; have y1 := blk_cell HY2.out 1; have y2 := blk_cell HY2.out 2; have y3 := blk_cell HY2.out 3; have y4 := blk_cell HY2.out 4; have y5 := blk_cell HY2.out 5; have y6 := blk_cell HY2.out 6; have y7 := blk_cell HY2.out 7; simp only [blkQ, List.getElem?_toArray, List.getElem?_cons_zero, List.getElem?_cons_succ] at y0 y1 y2 y3 y4 y5 y6 y7; clear hw_ q0 q1 q2 q3 q4 q5 q6 q7) | (go_at_fn f; refine (HP.out x A7 x.f7.length c7 w2 (HB.out.trans (HS.out.mono (Nat.le_trans HBW.out HB.out.size)))).mono ?_; rintro e w3 ⟨rfl, hb3⟩; have HS3 := Aside0.mk (HS.out.trans (hb3.mono HS.out.size)); have HO3 := Aside0.mk (Kd.R_below HO.out HS3.out); have HB3 := Aside0.mk (HB.out.trans (HS3.out.mono (Nat.le_trans HBW.out HB.out.size))); have HY3 := Aside0.mk (blk_below HY2.out hb3); have HG3 := Aside0.mk (blk_below HG.out HS3.out); have z0 := blk_cell HY3.out 0; have z1 := blk_cell HY3.out 1; have z2 := blk_cell HY3.out 2; have z3 := blk_cell HY3.out 3; have z4 := blk_cell HY3.out 4; have z5 := blk_cell HY3.out 5; have z6 := blk_cell HY3.out 6; have z7 := blk_cell HY3.out 7; simp only [blkQ, List.getElem?_toArray, List.getElem?_cons_zero, List.getElem?_cons_succ] at z0 z1 z2 z3 z4 z5 z6 z7; clear hb3 y0 y1 y2 y3 y4 y5 y6 y7; rw [HK.out]) | ((with_reducible refine gate_store (t := 29) (p := 33) rfl ?_); refine store_event (t := 29) (p := 33) (w1 := (w3).setCells (g) (i * 8) (blkQ x.f0 x.f1 x.f2 x.f3 x.f4 x.f5 x.f6 (.slice A7 x.f7.length c7)).toList) rfl rfl rfl ?hr ?_; (case hr => (unfold execOp; simp only [Act.eval, Sem.run_bind, Sem.run_pure, Result.andThen_ok]; show ((Sem.run Try.prog (Instr.storeAt 29 (.pointer (some ⟨g, i * 8, none⟩)) (.agg (blkQ x.f0 x.f1 x.f2 x.f3 x.f4 x.f5 x.f6 (.slice A7 x.f7.length c7)))) (w3)).andThen _) = _; rw [store_msgAt HG3.out HSZ.out x.f0 x.f1 x.f2 x.f3 x.f4 x.f5 x.f6 (.slice A7 x.f7.length c7) rfl]; try rfl)); intro w4 hw_; have HSEG := Aside0.mk (show Kd.R k29 29 w4 base (fun _ => True) (.slice (some ⟨g, 0, none⟩) xs.length c) (cur.set i x) ∧ w3.grownBy w4 (some g) by rw [hw_]; exact seg_msg HO3.out HG3.out hi_lt.out HM.out HS3.out HCN.out); clear hw_ z0 z1 z2 z3 z4 z5 z6 z7))
          go_roundw
          case rel => exact ⟨i + 1, j + 1, cur.set i x, by go_num, by go_num, ⟨by rw [HXJ.out]; exact HI.out.keep hlt (by rw [← HXJ.out]; exact HK.out)⟩, ⟨HSEG.out.1⟩, ⟨HB3.out.grown HSEG.out.2 (Nat.le_trans HBW.out HB3.out.size) (fun q hq => by injection hq with hq; subst hq; exact HGB.out)⟩⟩
          case measure => simp [intOf]; omega
        · have HK := Aside0.mk hpx
          clear hpx
          go_wp2_with (first | ((with_reducible refine gate_store (t := 29) (p := 7) rfl ?_); refine store_event (t := 29) (p := 7) (w1 := ((wr.alloc (.cells (blkQ 0 0 0 0 0 0 0 (.slice none 0 0)) 29))).setCells (wr.heap.size) (0) (blkQ x.f0 x.f1 x.f2 x.f3 x.f4 x.f5 x.f6 (.slice A7 x.f7.length c7)).toList) rfl rfl rfl ?hr ?_; (case hr => (unfold execOp; simp only [Act.eval, Sem.run_bind, Sem.run_pure, Result.andThen_ok]; show ((Sem.run Try.prog (Instr.storeAt 29 (.pointer (some ⟨wr.heap.size, 0, none⟩)) (.agg (blkQ x.f0 x.f1 x.f2 x.f3 x.f4 x.f5 x.f6 (.slice A7 x.f7.length c7)))) ((wr.alloc (.cells (blkQ 0 0 0 0 0 0 0 (.slice none 0 0)) 29)))).andThen _) = _; rw [(store_msgQ (blk_new wr (.cells (blkQ 0 0 0 0 0 0 0 (.slice none 0 0)) 29)) rfl x.f0 x.f1 x.f2 x.f3 x.f4 x.f5 x.f6 (.slice A7 x.f7.length c7) rfl).1]; try rfl)); intro w2 hw_; have HS := Aside0.mk (show Below wr.heap.size wr w2 by rw [hw_]; exact below_cellsQ ((Below.refl _ _).alloc (Nat.le_refl _) _) (Nat.le_refl _) _); have HY2 := Aside0.mk (show w2.heap[wr.heap.size]? = some (.cells (blkQ x.f0 x.f1 x.f2 x.f3 x.f4 x.f5 x.f6 (.slice A7 x.f7.length c7)) 29 (0, 0)) by rw [hw_]; exact (store_msgQ (blk_new wr (.cells (blkQ 0 0 0 0 0 0 0 (.slice none 0 0)) 29)) rfl x.f0 x.f1 x.f2 x.f3 x.f4 x.f5 x.f6 (.slice A7 x.f7.length c7) rfl).2); have y0 := blk_cell HY2.out 0; have y1 := blk_cell HY2.out 1; have y2 := blk_cell HY2.out 2; have y3 := blk_cell HY2.out 3; have y4 := blk_cell HY2.out 4; have y5 := blk_cell HY2.out 5; have y6 := blk_cell HY2.out 6; have y7 := blk_cell HY2.out 7; simp only [blkQ, List.getElem?_toArray, List.getElem?_cons_zero, List.getElem?_cons_succ] at y0 y1 y2 y3 y4 y5 y6 y7; clear hw_ q0 q1 q2 q3 q4 q5 q6 q7) | (go_at_fn f; refine (HP.out x A7 x.f7.length c7 w2 (HB.out.trans (HS.out.mono (Nat.le_trans HBW.out HB.out.size)))).mono ?_; rintro e w3 ⟨rfl, hb3⟩; have HS3 := Aside0.mk (HS.out.trans (hb3.mono HS.out.size)); have HO3 := Aside0.mk (Kd.R_below HO.out HS3.out); have HB3 := Aside0.mk (HB.out.trans (HS3.out.mono (Nat.le_trans HBW.out HB.out.size))); clear hb3 y0 y1 y2 y3 y4 y5 y6 y7; rw [HK.out]))
          go_roundw
          case rel => exact ⟨i, j + 1, cur, rfl, by go_num, ⟨HI.out.skip hlt (by rw [← HXJ.out]; exact HK.out)⟩, HO3, HB3⟩
          case measure => simp [intOf]; omega
      · obtain rfl : j = xs.length := by omega
        have HT := Aside0.mk (Kd.R_take HO.out (show i ≤ cur.length by omega))
        obtain ⟨w4, hcl, ho4, hg4⟩ := clear_tail (q := xs.length - i) (c2 := c - i) rfl HT.out (by omega) (by omega)
        have HO4 := Aside0.mk ho4
        have HG4 := Aside0.mk hg4
        have HKI := Aside0.mk (show cur.take i = xs.filter (fun x => !p x) by rw [HI.out.kept, List.take_length])
        have hltz : ¬ (xs.length : Int) < (xs.length : Int) := by omega
        have hz1 : (i : Int) ≤ (xs.length : Int) := by omega
        have hz2 : (0 : Int) ≤ (i : Int) := by omega
        have hz3 : ¬ c = i := by omega
        have hz4 : (i : Int) ≤ (c : Int) := by omega
        have hz5 : i ≤ c := by omega
        clear ho4 hg4 hlt
        go_wp2
        go_ret
        exact ⟨_, rfl, by rw [← HKI.out]; exact HO4.out, HB.out.grown HG4.out (Nat.le_trans HBW.out HB.out.size) (fun q hq => by injection hq with hq; subst hq; exact HGB.out)⟩

/-- Is a message between these two? -/
def cutP (a b : Int) (x : S29) : Bool := (x.f1 == a && x.f2 == b) || (x.f1 == b && x.f2 == a)
set_option maxHeartbeats 4000000 in
theorem cut_pred (a b : Int) (x : S29) (A7 : Option Addr) (n7 c7 g1 g2 : Nat) (w : World) (h1 : w.heap[g1]? = some (.cells #[.int .i64 a] 3 (0, 0))) (h2 : w.heap[g2]? = some (.cells #[.int .i64 b] 3 (0, 0))) :
    Calls Try.prog 55 #[.agg #[.int .i64 x.f0, .int .i64 x.f1, .int .i64 x.f2, .int .i64 x.f3, .int .i64 x.f4, .int .i64 x.f5, .int .i64 x.f6, .slice A7 n7 c7], .pointer (some ⟨g1, 0, none⟩), .pointer (some ⟨g2, 0, none⟩)] w fun e w' => e = .returned (.bool (cutP a b x)) ∧ Below w.heap.size w w' := by
  have HB := Aside0.mk ((Below.refl w.heap.size w).alloc (Nat.le_refl _) (.cells #[.int .i64 x.f0, .int .i64 x.f1, .int .i64 x.f2, .int .i64 x.f3, .int .i64 x.f4, .int .i64 x.f5, .int .i64 x.f6, .slice A7 n7 c7] 29))
  have q1 := blk_cell (blk_alloc h1 (.cells #[.int .i64 x.f0, .int .i64 x.f1, .int .i64 x.f2, .int .i64 x.f3, .int .i64 x.f4, .int .i64 x.f5, .int .i64 x.f6, .slice A7 n7 c7] 29)) 0
  have q2 := blk_cell (blk_alloc h2 (.cells #[.int .i64 x.f0, .int .i64 x.f1, .int .i64 x.f2, .int .i64 x.f3, .int .i64 x.f4, .int .i64 x.f5, .int .i64 x.f6, .slice A7 n7 c7] 29)) 0
  have y1 := blk_cell (blk_new w (.cells #[.int .i64 x.f0, .int .i64 x.f1, .int .i64 x.f2, .int .i64 x.f3, .int .i64 x.f4, .int .i64 x.f5, .int .i64 x.f6, .slice A7 n7 c7] 29)) 1
  have y2 := blk_cell (blk_new w (.cells #[.int .i64 x.f0, .int .i64 x.f1, .int .i64 x.f2, .int .i64 x.f3, .int .i64 x.f4, .int .i64 x.f5, .int .i64 x.f6, .slice A7 n7 c7] 29)) 2
  simp only [List.getElem?_toArray, List.getElem?_cons_zero, List.getElem?_cons_succ] at q1 q2 y1 y2
  clear h1 h2
  unfold cutP
  generalize x.f1 = k1 at *
  generalize x.f2 = k2 at *
  cases e1 : (k1 == a) <;> cases e2 : (k2 == b) <;> cases e3 : (k1 == b) <;> cases e4 : (k2 == a)
  all_goals
    go_enter Try.func55, Try.ntmps55
    go_wp2
    go_ret
    exact ⟨rfl, HB.out⟩

/-- What net.Cut answers. -/
def net_Cut.f (l : List S29) (a b : Int) : Option (List S29) :=
  if l.length ≤ 1000000000 ∧ ∀ x ∈ l, x.f7.length ≤ 1000000000 then some (l.filter (fun x => !cutP a b x)) else none
set_option maxHeartbeats 4000000 in
theorem net_Cut.calls (A0 : Option Addr) (c0 : Nat) (l0 : List S29) (a1 : Int) (a2 : Int) (r : List S29) (w : World) (hr0 : Kd.C k29 w A0 l0.length l0) (hc0 : l0.length ≤ c0) (h : net_Cut.f l0 a1 a2 = some r) :
    Calls Try.prog 23 #[.slice A0 l0.length c0, .int .i64 a1, .int .i64 a2] w fun e w' => ∃ v0_ : Value, e = .returned (v0_) ∧ Kd.R k29 29 w' w.heap.size (fun _ => True) v0_ r ∧ Below w.heap.size w w' := by
  unfold net_Cut.f at h
  split at h
  rotate_left
  · cases h
  rename_i hl
  cases h
  have hB1 := (Below.refl w.heap.size w).alloc (Nat.le_refl _) (.cells #[.int .i64 a1] 3)
  have HB0 := Aside0.mk (hB1.alloc hB1.size (.cells #[.int .i64 a2] 3))
  have k1 := blk_alloc (blk_new w (.cells #[.int .i64 a1] 3)) (.cells #[.int .i64 a2] 3)
  have k2 := blk_new (w.alloc (.cells #[.int .i64 a1] 3)) (.cells #[.int .i64 a2] 3)
  rw [World.size_alloc] at k2
  have HR0 := Aside0.mk (Kd.C_below hr0 HB0.out)
  have HC0 := Aside0.mk hc0
  have HF := Aside0.mk (show net_own.f l0 = some l0 by unfold net_own.f; rw [if_pos hl])
  have HP := Aside0.mk (show ∀ w1, Below ((w.alloc (.cells #[.int .i64 a1] 3)).alloc (.cells #[.int .i64 a2] 3)).heap.size ((w.alloc (.cells #[.int .i64 a1] 3)).alloc (.cells #[.int .i64 a2] 3)) w1 → PredM 55 #[.pointer (some ⟨w.heap.size, 0, none⟩), .pointer (some ⟨w.heap.size + 1, 0, none⟩)] (cutP a1 a2) ((w.alloc (.cells #[.int .i64 a1] 3)).alloc (.cells #[.int .i64 a2] 3)).heap.size w1 from fun w1 hb1 => ⟨enters_of Try.func55 (by kernel_rfl) rfl, fun x A n c W hb => cut_pred a1 a2 x A n c _ _ W (blk_below k1 (hb1.trans hb)) (blk_below k2 (hb1.trans hb))⟩)
  have hmf : ∀ (fn : Fn) (first cap : Array Value) (w : World), (Instr.makeFunc fn first cap).run Try.prog w = .ok (.func fn first cap) w := fun _ _ _ _ => rfl
  clear hr0 hB1 k1 k2
  go_enter Try.func23, Try.ntmps23
  go_wp2_with (first | (go_at_call 50; (with_reducible refine (net_own.calls A0 c0 l0 l0 _ HR0.out HC0.out HF.out).mono ?_); rintro e w1 ⟨v, rfl, h1, hb⟩; obtain ⟨A1, c1, rfl⟩ := Kd.R_slice h1; have HO1 := Aside0.mk h1; have HB1 := Aside0.mk hb; clear h1 hb) | (go_at_call 54; (with_reducible refine (DeleteFuncMsg 55 _ (cutP a1 a2) A1 c1 _ l0 w1 HO1.out HB1.out.size (HP.out w1 HB1.out)).mono ?_); rintro e w2 ⟨v2, rfl, h2, hb⟩; have HO2 := Aside0.mk (Kd.R_lower h2 HB0.out.size); have HB2 := Aside0.mk (HB0.out.trans ((HB1.out.trans hb).mono HB0.out.size)); clear h2 hb))
  go_ret
  exact ⟨_, rfl, HO2.out, HB2.out⟩
end Go.Proofs.Ytfejidinfcmfjaa.P
-- Written by a program of this session (xprint.py) over the kit's print.py.
namespace Go.Proofs.Ytfejidinfcmfjaa.P
open Go.RowKit Go.Proofs.YtfejidinfcmfjaaW.PrintWords Go.Proofs.YtfejidinfcmfjaaW.PrintLast Go.Proofs.YtfejidinfcmfjaaW.PrintMore
attribute [local go_sem] max2_int min2_int max_two min_two max_three min_three max_four min_four   -- for this text's walks alone
set_option linter.unusedVariables false
set_option linter.unusedSimpArgs false

/-! ### sextonref25_Same: function 27 -/
def sextonref25_Same.l0 : Nat → List (List (S29)) → List (List (S29)) → Int → Option (Bool)
  | 0, _, _, _ => none
  | k + 1, x0, x1, x5 => if x5 < (x0.length : Int) then (if 0 ≤ x5 then (if x5 < (x1.length : Int) then ((sextonref23_SameRow.f k (rd_L4 x0 x5) (rd_L4 x1 x5)).bind fun t286 => (if t286 = true then (sextonref25_Same.l0 k x0 x1 (wrap64 (x5 + 1))) else (some false))) else (none)) else (none)) else (some true)
def sextonref25_Same.f (k : Nat) (l0 : List (List (S29))) (l1 : List (List (S29))) : Option (Bool) := if (l0.length : Int) = (l1.length : Int) then (sextonref25_Same.l0 k l0 l1 0) else (some false)
def sextonref25_Same.T6 : Bool × List (List Nat × List Nat) := (true, [([], []), ([], []), ([0, 1], [0, 1]), ([2], [2]), ([], []), ([], []), ([4, 5], [4, 5]), ([6], [6]), ([3, 7], [3, 7]), ([8], [8])])
def sextonref25_Same.B6 : List Nat := [0, 0, 3, 7, 0, 0, 48, 112, 255, 511]
theorem sextonref25_Same.tab6 : rtab .any (opsOf Try.f27 6) = sextonref25_Same.T6 := by kernel_rfl
theorem sextonref25_Same.bits6 : waitsOk sextonref25_Same.T6.2 sextonref25_Same.B6 = true := by kernel_rfl
set_option maxHeartbeats 8000000 in
set_option maxRecDepth 100000 in
theorem sextonref25_Same.calls (k : Nat) (A0 : Option Addr) (c0 : Nat) (l0 : List (List (S29))) (A1 : Option Addr) (c1 : Nat) (l1 : List (List (S29))) (r : Bool) (w : World) (hr0 : Kd.C (Kd.slice 29 k29) w A0 l0.length l0) (hc0 : l0.length ≤ c0) (hr1 : Kd.C (Kd.slice 29 k29) w A1 l1.length l1) (hc1 : l1.length ≤ c1) (h : sextonref25_Same.f k l0 l1 = some r) :
    Calls Try.prog 27 #[.slice A0 l0.length c0, .slice A1 l1.length c1] w fun e w' => e = .returned (.bool r) ∧ Below w.heap.size w w' := by
  have HR0 := Aside0.mk hr0
  have HC0 := Aside0.mk hc0
  clear hr0 hc0
  have HR1 := Aside0.mk hr1
  have HC1 := Aside0.mk hc1
  clear hr1 hc1
  have HB := Aside0.mk (Below.refl w.heap.size w)
  have H : (if (l0.length : Int) = (l1.length : Int) then (sextonref25_Same.l0 k l0 l1 0) else (some false)) = some r := h
  clear h
  by_cases c3 : (l0.length : Int) = (l1.length : Int)
  · rw [if_pos c3] at H
    have c3b0 : ((l0.length : Int) == (l1.length : Int)) = true := beq_iff_eq.mpr c3
    have c3b1 : ((l0.length : Int) != (l1.length : Int)) = false := bne_eq_false_iff_eq.mpr c3
    have c3b2 : (l0.length == l1.length) = true := by first | simpa using c3 | (simp at c3 ⊢; omega)
    clear c3
    have H' := Aside0.mk H
    clear H
    go_enter Try.func27, Try.ntmps27
    go_wp2
    go_loopg [5] k (fun kq v5 w' => ∃ (x5_1 : Int), v5 = .int .i64 x5_1 ∧ Aside0 (sextonref25_Same.l0 kq l0 l1 x5_1 = some r) ∧ Aside0 (kq ≤ k) ∧ Aside0 (Below w.heap.size w w'))
    case atStart => exact ⟨(0), (by first | rfl | (simp; done) | (simp [*]; done)), H', ⟨Nat.le_refl _⟩, ⟨by repeat (first | (with_reducible first | exact HB.out | apply below_alloc | apply pw_below_drewN | apply below_drew1) | exact HB.out)⟩⟩
    case round =>
      clear H'
      try clear c1
      try clear c2
      try clear p2
      try clear c3
      try clear c3b0
      try clear c3b1
      try clear c3b2
      obtain ⟨x5_1, rfl, HA, HK1, HB⟩ := hrel
      cases gk with
      | zero => exact absurd HA.out (by simp [sextonref25_Same.l0])
      | succ k1 =>
        have H := HA.out
        clear HA
        simp only [sextonref25_Same.l0] at H
        by_cases c4 : x5_1 < (l0.length : Int)
        · rw [if_pos c4] at H
          have c4b0 : decide (x5_1 < (l0.length : Int)) = true := decide_eq_true c4
          clear c4
          by_cases c5 : 0 ≤ x5_1
          · rw [if_pos c5] at H
            have c5b0 : decide (0 ≤ x5_1) = true := decide_eq_true c5
            clear c5
            by_cases c6 : x5_1 < (l1.length : Int)
            · rw [if_pos c6] at H
              have c6b0 : decide (x5_1 < (l1.length : Int)) = true := decide_eq_true c6
              clear c6
              replace H := Option.bind_eq_some_iff.mp H
              obtain ⟨t286, A70, H⟩ := H
              replace H : (if t286 = true then (sextonref25_Same.l0 k1 l0 l1 (wrap64 (x5_1 + 1))) else (some false)) = some r := H
              have A7 := Aside0.mk A70
              clear A70
              by_cases c8 : t286 = true
              · subst c8
                have H1 : (sextonref25_Same.l0 k1 l0 l1 (wrap64 (x5_1 + 1))) = some r := by rw [if_pos rfl] at H; exact H
                clear H
                have H := H1
                clear H1
                have H' := Aside0.mk H
                clear H
                try go_wp2
                have n0_ := Aside0.mk (below_drew1 HB.out)
                clear HB
                have HB := n0_
                clear n0_
                have p284 : 0 ≤ (x5_1 : Int) := of_decide_eq_true (by first | (with_reducible assumption) | assumption)
                have q284 : x5_1 < (l0.length : Int) := of_decide_eq_true (by first | (with_reducible assumption) | assumption)
                obtain ⟨ad284, A284_0, c284_0, e284, hx284_0, hl284_0, hi284_0⟩ := at_L4 HR0.out x5_1 p284 q284
                have hw284_0 := hx284_0
                cases e284
                replace hx284_0 := (HB.out.cell (World.block_lt_of_cell? w _ hx284_0)).trans hx284_0
                have HR284_0 := Aside0.mk hi284_0
                have HC284_0 := Aside0.mk hl284_0
                clear hi284_0 hl284_0
                replace p284 := eq_true p284
                replace q284 := eq_true q284
                have p285 : 0 ≤ (x5_1 : Int) := of_decide_eq_true (by first | (with_reducible assumption) | assumption)
                have q285 : x5_1 < (l1.length : Int) := of_decide_eq_true (by first | (with_reducible assumption) | assumption)
                obtain ⟨ad285, A285_0, c285_0, e285, hx285_0, hl285_0, hi285_0⟩ := at_L4 HR1.out x5_1 p285 q285
                have hw285_0 := hx285_0
                cases e285
                replace hx285_0 := (HB.out.cell (World.block_lt_of_cell? w _ hx285_0)).trans hx285_0
                have HR285_0 := Aside0.mk hi285_0
                have HC285_0 := Aside0.mk hl285_0
                clear hi285_0 hl285_0
                replace p285 := eq_true p285
                replace q285 := eq_true q285
                refine start_ (n := 10) (S := fun w' => w'.cell? (ad284.add (x5_1).toNat) = some (.slice A284_0 (rd_L4 l0 x5_1).length c284_0) ∧ w'.cell? (ad285.add (x5_1).toNat) = some (.slice A285_0 (rd_L4 l1 x5_1).length c285_0)) (ds := []) #[false, false, false, false, false, false, false, false, false, false] (by kernel_rfl) rfl rfl ⟨((HB.out.cell (World.block_lt_of_cell? w _ hw284_0)).trans hw284_0), ((HB.out.cell (World.block_lt_of_cell? w _ hw285_0)).trans hw285_0)⟩ (fun hHeld => ?_); refine with_tabW sextonref25_Same.tab6 sextonref25_Same.bits6 (fun HT_ HW_ => ?_)
                generalize wr.drew = w9 at HB HR284_0 HR285_0 hx284_0 hx285_0 hHeld ⊢
                refine pure_ (i := 0) (N := some 17) (v := ?_) (a' := ?_) #[true, false, false, false, false, false, false, false, false, false] rfl rfl (any_of HT_.out (by kernel_rfl)) (fun _ _ _ h => h) (Or.inl ⟨by rfl, ?_⟩) ?_ ?_
                rotate_left
                · intro w'
                  go_simp
                  with_reducible rfl
                rotate_left
                · simp only [Act.put, List.setIfInBounds_toArray, List.set_cons_zero, List.set_cons_succ, i64_w, i32_w]
                  rfl
                refine pure_ (i := 1) (N := some 18) (v := ?_) (a' := ?_) #[true, true, false, false, false, false, false, false, false, false] rfl rfl (any_of HT_.out (by kernel_rfl)) (fun _ _ _ h => h) (Or.inl ⟨by rfl, ?_⟩) ?_ ?_
                rotate_left
                · intro w'
                  go_simp
                  with_reducible rfl
                rotate_left
                · simp only [Act.put, List.setIfInBounds_toArray, List.set_cons_zero, List.set_cons_succ, i64_w, i32_w]
                  rfl
                refine pure_ (i := 2) (N := some 19) (v := ?_) (a' := ?_) #[true, true, true, false, false, false, false, false, false, false] rfl rfl (any_of HT_.out (by kernel_rfl)) (fun _ _ _ h => h) (Or.inl ⟨by rfl, ?_⟩) ?_ ?_
                rotate_left
                · intro w'
                  go_simp
                  with_reducible rfl
                rotate_left
                · simp only [Act.put, List.setIfInBounds_toArray, List.set_cons_zero, List.set_cons_succ, i64_w, i32_w]
                  rfl
                refine pure_ (i := 4) (N := some 21) (v := ?_) (a' := ?_) #[true, true, true, false, true, false, false, false, false, false] rfl rfl (any_of HT_.out (by kernel_rfl)) (fun _ _ _ h => h) (Or.inl ⟨by rfl, ?_⟩) ?_ ?_
                rotate_left
                · intro w'
                  go_simp
                  with_reducible rfl
                rotate_left
                · simp only [Act.put, List.setIfInBounds_toArray, List.set_cons_zero, List.set_cons_succ, i64_w, i32_w]
                  rfl
                refine pure_ (i := 5) (N := some 22) (v := ?_) (a' := ?_) #[true, true, true, false, true, true, false, false, false, false] rfl rfl (any_of HT_.out (by kernel_rfl)) (fun _ _ _ h => h) (Or.inl ⟨by rfl, ?_⟩) ?_ ?_
                rotate_left
                · intro w'
                  go_simp
                  with_reducible rfl
                rotate_left
                · simp only [Act.put, List.setIfInBounds_toArray, List.set_cons_zero, List.set_cons_succ, i64_w, i32_w]
                  rfl
                refine pure_ (i := 6) (N := some 23) (v := ?_) (a' := ?_) #[true, true, true, false, true, true, true, false, false, false] rfl rfl (any_of HT_.out (by kernel_rfl)) (fun _ _ _ h => h) (Or.inl ⟨by rfl, ?_⟩) ?_ ?_
                rotate_left
                · intro w'
                  go_simp
                  with_reducible rfl
                rotate_left
                · simp only [Act.put, List.setIfInBounds_toArray, List.set_cons_zero, List.set_cons_succ, i64_w, i32_w]
                  rfl
                refine take_ (i := 3) (N := some 20) (v := ?_) (a' := ?_) #[true, true, true, true, true, true, true, false, false, false] rfl rfl (take_ofW HT_.out HW_.out (by kernel_rfl)) (fun _ _ _ h => h) (Or.inl ⟨by rfl, ?_⟩) hHeld ?_ ?_
                rotate_left
                · rintro w' ⟨s0, s1⟩
                  go_simp
                  with_reducible rfl
                rotate_left
                · simp only [Act.put, List.setIfInBounds_toArray, List.set_cons_zero, List.set_cons_succ, i64_w, i32_w]
                  rfl
                refine take_ (i := 7) (N := some 24) (v := ?_) (a' := ?_) #[true, true, true, true, true, true, true, true, false, false] rfl rfl (take_ofW HT_.out HW_.out (by kernel_rfl)) (fun _ _ _ h => h) (Or.inl ⟨by rfl, ?_⟩) hHeld ?_ ?_
                rotate_left
                · rintro w' ⟨s0, s1⟩
                  go_simp
                  with_reducible rfl
                rotate_left
                · simp only [Act.put, List.setIfInBounds_toArray, List.set_cons_zero, List.set_cons_succ, i64_w, i32_w]
                  rfl
                refine one_ (i := 8) (N := some 25) #[true, true, true, true, true, true, true, true, true, false] rfl rfl (one_of HT_.out (by kernel_rfl)) (by decide) (fun K hK => ?_)
                refine goes_ Try.func25 (by kernel_rfl) rfl #[.slice A284_0 (rd_L4 l0 x5_1).length c284_0, .slice A285_0 (rd_L4 l1 x5_1).length c285_0] (by rfl) rfl rfl (by (try simp only [List.map_toArray, List.map_cons, List.map_nil]); first | done | rfl | (simp only [List.length_drop, List.length_take]; rfl)) ?_
                with_reducible refine (sextonref23_SameRow.calls k1 _ _ (rd_L4 l0 x5_1) _ _ (rd_L4 l1 x5_1) true _ ?side1 ?side2 ?side3 ?side4 A7.out).mono ?_
                (case side1 => repeat (first | exact (Kd.C_below HR284_0.out HB.out) | (with_reducible refine Kd.C_alloc ?_ _) | (with_reducible refine Kd.C_drewN ?_ _) | (with_reducible refine Kd.C_drew ?_)))
                (case side2 => exact HC284_0.out)
                (case side3 => repeat (first | exact (Kd.C_below HR285_0.out HB.out) | (with_reducible refine Kd.C_alloc ?_ _) | (with_reducible refine Kd.C_drewN ?_ _) | (with_reducible refine Kd.C_drew ?_)))
                (case side4 => exact HC285_0.out)
                rintro e w10 ⟨rfl, hb⟩
                refine ⟨_, rfl, ?_⟩
                have n0_ := Aside0.mk (below_step (by repeat (first | (with_reducible first | exact HB.out | apply below_alloc | apply pw_below_drewN | apply below_drew1) | exact HB.out)) hb)
                clear HB
                have HB := n0_
                clear n0_
                (try clear hb)
                (try clear hb2)
                (try clear hk)
                (try clear hi)
                refine hK.out _ _ ⟨((HB.out.cell (World.block_lt_of_cell? w _ hw284_0)).trans hw284_0), ((HB.out.cell (World.block_lt_of_cell? w _ hw285_0)).trans hw285_0)⟩ (fun hHeld => ?_)
                clear hK K
                refine norm_ (a' := ?_) ?_ ?_
                rotate_left
                · show Act.put _ (some 25) _ = _
                  simp only [Act.put, List.setIfInBounds_toArray, List.set_cons_zero, List.set_cons_succ, i64_w, i32_w]
                  rfl
                refine pure_ (i := 9) (N := some 26) (v := ?_) (a' := ?_) #[true, true, true, true, true, true, true, true, true, true] rfl rfl (any_of HT_.out (by kernel_rfl)) (fun _ _ _ h => h) (Or.inl ⟨by rfl, ?_⟩) ?_ ?_
                rotate_left
                · intro w'
                  go_simp
                  with_reducible rfl
                rotate_left
                · simp only [Act.put, List.setIfInBounds_toArray, List.set_cons_zero, List.set_cons_succ, i64_w, i32_w]
                  rfl
                refine done_ (done_of HT_.out (by kernel_rfl)) ?_
                try go_wp2
                go_roundg k1
                case measure => have := HK1.out; omega
                case rel => exact ⟨(wrap64 (x5_1 + 1)), (by first | rfl | (simp; done) | (simp [*]; done)), H', ⟨by have := HK1.out; omega⟩, ⟨by repeat (first | (with_reducible first | exact HB.out | apply below_alloc | apply pw_below_drewN | apply below_drew1) | exact HB.out)⟩⟩
              · replace c8 := Bool.eq_false_iff.mpr c8
                subst c8
                have H1 : (some false) = some r := by rw [if_neg (show ¬ (false = true) by decide)] at H; exact H
                clear H
                have H := H1
                clear H1
                obtain rfl := Option.some.inj H
                try go_wp2
                have n0_ := Aside0.mk (below_drew1 HB.out)
                clear HB
                have HB := n0_
                clear n0_
                have p284 : 0 ≤ (x5_1 : Int) := of_decide_eq_true (by first | (with_reducible assumption) | assumption)
                have q284 : x5_1 < (l0.length : Int) := of_decide_eq_true (by first | (with_reducible assumption) | assumption)
                obtain ⟨ad284, A284_0, c284_0, e284, hx284_0, hl284_0, hi284_0⟩ := at_L4 HR0.out x5_1 p284 q284
                have hw284_0 := hx284_0
                cases e284
                replace hx284_0 := (HB.out.cell (World.block_lt_of_cell? w _ hx284_0)).trans hx284_0
                have HR284_0 := Aside0.mk hi284_0
                have HC284_0 := Aside0.mk hl284_0
                clear hi284_0 hl284_0
                replace p284 := eq_true p284
                replace q284 := eq_true q284
                have p285 : 0 ≤ (x5_1 : Int) := of_decide_eq_true (by first | (with_reducible assumption) | assumption)
                have q285 : x5_1 < (l1.length : Int) := of_decide_eq_true (by first | (with_reducible assumption) | assumption)
                obtain ⟨ad285, A285_0, c285_0, e285, hx285_0, hl285_0, hi285_0⟩ := at_L4 HR1.out x5_1 p285 q285
                have hw285_0 := hx285_0
                cases e285
                replace hx285_0 := (HB.out.cell (World.block_lt_of_cell? w _ hx285_0)).trans hx285_0
                have HR285_0 := Aside0.mk hi285_0
                have HC285_0 := Aside0.mk hl285_0
                clear hi285_0 hl285_0
                replace p285 := eq_true p285
                replace q285 := eq_true q285
                refine start_ (n := 10) (S := fun w' => w'.cell? (ad284.add (x5_1).toNat) = some (.slice A284_0 (rd_L4 l0 x5_1).length c284_0) ∧ w'.cell? (ad285.add (x5_1).toNat) = some (.slice A285_0 (rd_L4 l1 x5_1).length c285_0)) (ds := []) #[false, false, false, false, false, false, false, false, false, false] (by kernel_rfl) rfl rfl ⟨((HB.out.cell (World.block_lt_of_cell? w _ hw284_0)).trans hw284_0), ((HB.out.cell (World.block_lt_of_cell? w _ hw285_0)).trans hw285_0)⟩ (fun hHeld => ?_); refine with_tabW sextonref25_Same.tab6 sextonref25_Same.bits6 (fun HT_ HW_ => ?_)
                generalize wr.drew = w11 at HB HR284_0 HR285_0 hx284_0 hx285_0 hHeld ⊢
                refine pure_ (i := 0) (N := some 17) (v := ?_) (a' := ?_) #[true, false, false, false, false, false, false, false, false, false] rfl rfl (any_of HT_.out (by kernel_rfl)) (fun _ _ _ h => h) (Or.inl ⟨by rfl, ?_⟩) ?_ ?_
                rotate_left
                · intro w'
                  go_simp
                  with_reducible rfl
                rotate_left
                · simp only [Act.put, List.setIfInBounds_toArray, List.set_cons_zero, List.set_cons_succ, i64_w, i32_w]
                  rfl
                refine pure_ (i := 1) (N := some 18) (v := ?_) (a' := ?_) #[true, true, false, false, false, false, false, false, false, false] rfl rfl (any_of HT_.out (by kernel_rfl)) (fun _ _ _ h => h) (Or.inl ⟨by rfl, ?_⟩) ?_ ?_
                rotate_left
                · intro w'
                  go_simp
                  with_reducible rfl
                rotate_left
                · simp only [Act.put, List.setIfInBounds_toArray, List.set_cons_zero, List.set_cons_succ, i64_w, i32_w]
                  rfl
                refine pure_ (i := 2) (N := some 19) (v := ?_) (a' := ?_) #[true, true, true, false, false, false, false, false, false, false] rfl rfl (any_of HT_.out (by kernel_rfl)) (fun _ _ _ h => h) (Or.inl ⟨by rfl, ?_⟩) ?_ ?_
                rotate_left
                · intro w'
                  go_simp
                  with_reducible rfl
                rotate_left
                · simp only [Act.put, List.setIfInBounds_toArray, List.set_cons_zero, List.set_cons_succ, i64_w, i32_w]
                  rfl
                refine pure_ (i := 4) (N := some 21) (v := ?_) (a' := ?_) #[true, true, true, false, true, false, false, false, false, false] rfl rfl (any_of HT_.out (by kernel_rfl)) (fun _ _ _ h => h) (Or.inl ⟨by rfl, ?_⟩) ?_ ?_
                rotate_left
                · intro w'
                  go_simp
                  with_reducible rfl
                rotate_left
                · simp only [Act.put, List.setIfInBounds_toArray, List.set_cons_zero, List.set_cons_succ, i64_w, i32_w]
                  rfl
                refine pure_ (i := 5) (N := some 22) (v := ?_) (a' := ?_) #[true, true, true, false, true, true, false, false, false, false] rfl rfl (any_of HT_.out (by kernel_rfl)) (fun _ _ _ h => h) (Or.inl ⟨by rfl, ?_⟩) ?_ ?_
                rotate_left
                · intro w'
                  go_simp
                  with_reducible rfl
                rotate_left
                · simp only [Act.put, List.setIfInBounds_toArray, List.set_cons_zero, List.set_cons_succ, i64_w, i32_w]
                  rfl
                refine pure_ (i := 6) (N := some 23) (v := ?_) (a' := ?_) #[true, true, true, false, true, true, true, false, false, false] rfl rfl (any_of HT_.out (by kernel_rfl)) (fun _ _ _ h => h) (Or.inl ⟨by rfl, ?_⟩) ?_ ?_
                rotate_left
                · intro w'
                  go_simp
                  with_reducible rfl
                rotate_left
                · simp only [Act.put, List.setIfInBounds_toArray, List.set_cons_zero, List.set_cons_succ, i64_w, i32_w]
                  rfl
                refine take_ (i := 3) (N := some 20) (v := ?_) (a' := ?_) #[true, true, true, true, true, true, true, false, false, false] rfl rfl (take_ofW HT_.out HW_.out (by kernel_rfl)) (fun _ _ _ h => h) (Or.inl ⟨by rfl, ?_⟩) hHeld ?_ ?_
                rotate_left
                · rintro w' ⟨s0, s1⟩
                  go_simp
                  with_reducible rfl
                rotate_left
                · simp only [Act.put, List.setIfInBounds_toArray, List.set_cons_zero, List.set_cons_succ, i64_w, i32_w]
                  rfl
                refine take_ (i := 7) (N := some 24) (v := ?_) (a' := ?_) #[true, true, true, true, true, true, true, true, false, false] rfl rfl (take_ofW HT_.out HW_.out (by kernel_rfl)) (fun _ _ _ h => h) (Or.inl ⟨by rfl, ?_⟩) hHeld ?_ ?_
                rotate_left
                · rintro w' ⟨s0, s1⟩
                  go_simp
                  with_reducible rfl
                rotate_left
                · simp only [Act.put, List.setIfInBounds_toArray, List.set_cons_zero, List.set_cons_succ, i64_w, i32_w]
                  rfl
                refine one_ (i := 8) (N := some 25) #[true, true, true, true, true, true, true, true, true, false] rfl rfl (one_of HT_.out (by kernel_rfl)) (by decide) (fun K hK => ?_)
                refine goes_ Try.func25 (by kernel_rfl) rfl #[.slice A284_0 (rd_L4 l0 x5_1).length c284_0, .slice A285_0 (rd_L4 l1 x5_1).length c285_0] (by rfl) rfl rfl (by (try simp only [List.map_toArray, List.map_cons, List.map_nil]); first | done | rfl | (simp only [List.length_drop, List.length_take]; rfl)) ?_
                with_reducible refine (sextonref23_SameRow.calls k1 _ _ (rd_L4 l0 x5_1) _ _ (rd_L4 l1 x5_1) false _ ?side1 ?side2 ?side3 ?side4 A7.out).mono ?_
                (case side1 => repeat (first | exact (Kd.C_below HR284_0.out HB.out) | (with_reducible refine Kd.C_alloc ?_ _) | (with_reducible refine Kd.C_drewN ?_ _) | (with_reducible refine Kd.C_drew ?_)))
                (case side2 => exact HC284_0.out)
                (case side3 => repeat (first | exact (Kd.C_below HR285_0.out HB.out) | (with_reducible refine Kd.C_alloc ?_ _) | (with_reducible refine Kd.C_drewN ?_ _) | (with_reducible refine Kd.C_drew ?_)))
                (case side4 => exact HC285_0.out)
                rintro e w12 ⟨rfl, hb⟩
                refine ⟨_, rfl, ?_⟩
                have n0_ := Aside0.mk (below_step (by repeat (first | (with_reducible first | exact HB.out | apply below_alloc | apply pw_below_drewN | apply below_drew1) | exact HB.out)) hb)
                clear HB
                have HB := n0_
                clear n0_
                (try clear hb)
                (try clear hb2)
                (try clear hk)
                (try clear hi)
                refine hK.out _ _ ⟨((HB.out.cell (World.block_lt_of_cell? w _ hw284_0)).trans hw284_0), ((HB.out.cell (World.block_lt_of_cell? w _ hw285_0)).trans hw285_0)⟩ (fun hHeld => ?_)
                clear hK K
                refine norm_ (a' := ?_) ?_ ?_
                rotate_left
                · show Act.put _ (some 25) _ = _
                  simp only [Act.put, List.setIfInBounds_toArray, List.set_cons_zero, List.set_cons_succ, i64_w, i32_w]
                  rfl
                refine pure_ (i := 9) (N := some 26) (v := ?_) (a' := ?_) #[true, true, true, true, true, true, true, true, true, true] rfl rfl (any_of HT_.out (by kernel_rfl)) (fun _ _ _ h => h) (Or.inl ⟨by rfl, ?_⟩) ?_ ?_
                rotate_left
                · intro w'
                  go_simp
                  with_reducible rfl
                rotate_left
                · simp only [Act.put, List.setIfInBounds_toArray, List.set_cons_zero, List.set_cons_succ, i64_w, i32_w]
                  rfl
                refine done_ (done_of HT_.out (by kernel_rfl)) ?_
                try go_wp2
                go_ret
                exact ⟨by first | rfl | (simp [errW_none, errW_some] <;> rfl) | (simp [*, errW_none, errW_some] <;> rfl), by repeat (first | (with_reducible first | exact HB.out | apply below_alloc | apply pw_below_drewN | apply below_drew1) | exact HB.out)⟩
            · rw [if_neg c6] at H
              exact absurd H (by simp)
          · rw [if_neg c5] at H
            exact absurd H (by simp)
        · rw [if_neg c4] at H
          have c4b0 : decide (x5_1 < (l0.length : Int)) = false := decide_eq_false c4
          clear c4
          obtain rfl := Option.some.inj H
          go_wp2
          go_ret
          exact ⟨by first | rfl | (simp [errW_none, errW_some] <;> rfl) | (simp [*, errW_none, errW_some] <;> rfl), by repeat (first | (with_reducible first | exact HB.out | apply below_alloc | apply pw_below_drewN | apply below_drew1) | exact HB.out)⟩
  · rw [if_neg c3] at H
    have c3b0 : ((l0.length : Int) == (l1.length : Int)) = false := beq_eq_false_iff_ne.mpr c3
    have c3b1 : ((l0.length : Int) != (l1.length : Int)) = true := bne_iff_ne.mpr c3
    have c3b2 : (l0.length == l1.length) = false := by first | simpa using c3 | (simp at c3 ⊢; omega)
    obtain rfl := Option.some.inj H
    go_enter Try.func27, Try.ntmps27
    go_wp2
    go_ret
    exact ⟨by first | rfl | (simp [errW_none, errW_some] <;> rfl) | (simp [*, errW_none, errW_some] <;> rfl), by repeat (first | (with_reducible first | exact HB.out | apply below_alloc | apply pw_below_drewN | apply below_drew1) | exact HB.out)⟩

end Go.Proofs.Ytfejidinfcmfjaa.P
/-
  slices.Grow of no messages, slices.Concat of rows of messages: their texts are shared.
-/
namespace Go.Proofs.Ytfejidinfcmfjaa.P
open Go.RowKit Go.Proofs.YtfejidinfcmfjaaW.PrintWords Go.Proofs.YtfejidinfcmfjaaW.PrintLast Go.Proofs.YtfejidinfcmfjaaW.PrintMore Go.Proofs.Plain

theorem msg_info2 : ∃ i, Try.prog.info? 29 = some i ∧ i.zero = some (.agg #[(.int .i64 0), (.int .i64 0), (.int .i64 0), (.int .i64 0), (.int .i64 0), (.int .i64 0), (.int .i64 0), (.slice none 0 0)]) ∧ i.size = 8 ∧ i.bytes = 80 := by
  obtain ⟨i, hi, hz⟩ := Option.map_eq_some_iff.1 msg_info
  simp only [Prod.mk.injEq] at hz
  exact ⟨i, hi, hz⟩
set_option maxHeartbeats 2000000 in
/-- slices.Grow of nil: a row of none, with room. -/
theorem grow_msgs (n : Nat) (w : World) (hn : n ≤ 2000000000) :
    Calls Try.prog 75 #[.slice none 0 0, .int .i64 n] w fun e w' => ∃ v0_ : Value, e = .returned (v0_) ∧ (∀ w0, Kd.R (kP w0) 29 w' w.heap.size (fun _ => True) v0_ []) ∧ Below w.heap.size w w' := by
  have hn0 : ¬ ((n : Int) < 0) := by omega
  have hn1 : (n : Int) ≤ 2000000000 := by omega
  by_cases h0 : n = 0
  · subst h0
    go_enter Try.func75, Try.ntmps75
    go_wp2
    go_ret
    exact ⟨_, rfl, fun _ => Kd.R_nil _ _ _ _ _, Below.refl _ _⟩
  · obtain ⟨i, hi, hz, hs, hb⟩ := msg_info2
    have hpos : (0 : Int) < (n : Int) := by omega
    have hrun := fun (W : World) => Lib.run_append_nil_zeros (P := Try.prog) W 22 3 22 29 i _ .i64 .i64 Try.underlying22 Try.underlying3 hi hz n (by omega) (by omega) (by omega) (by rw [hb]; omega)
    obtain ⟨cap, hcap⟩ : ∃ cap, cap = grownCap w n 0 29 := ⟨_, rfl⟩
    have h1 : n ≤ cap := by rw [hcap]; exact grownCap_ge _ _ _ _
    have h2 : cap ≤ maxLen := by rw [hcap]; exact grownCap_le_maxLen _ _ _ _ (by simp [maxLen]; omega)
    obtain ⟨cur, hcur⟩ : ∃ cur, cur = Builtin.zeroCells (Value.cells (.agg #[(.int .i64 0), (.int .i64 0), (.int .i64 0), (.int .i64 0), (.int .i64 0), (.int .i64 0), (.int .i64 0), (.slice none 0 0)])) n ++ Builtin.zeroCells (Value.cells (.agg #[(.int .i64 0), (.int .i64 0), (.int .i64 0), (.int .i64 0), (.int .i64 0), (.int .i64 0), (.int .i64 0), (.slice none 0 0)])) (cap - n) := ⟨_, rfl⟩
    have h3 : cur.size = cap * 8 := by
      rw [hcur, Array.size_append, size_zeroCells, size_zeroCells]
      show n * 8 + (cap - n) * 8 = cap * 8
      omega
    have hrow := hrun w
    rw [← hcap, ← hcur] at hrow
    have HR := Aside0.mk hrow
    have HB := Aside0.mk (show Below w.heap.size w (w.drew.alloc (.cells cur 29)) from (below_drew (Below.refl _ _)).alloc (Nat.le_refl _) _)
    have HO := Aside0.mk (show ∀ w0, Kd.R (kP w0) 29 (w.drew.alloc (.cells cur 29)) w.heap.size (fun _ => True) (.slice (some ⟨w.heap.size, 0, none⟩) 0 cap) [] from fun w0 => ⟨fun _ _ => trivial, [], ⟨rfl, .inr ⟨w.heap.size, cap, cur, rfl, Nat.le_refl _, blk_new w.drew (.cells cur 29), Nat.zero_le _, h2, h3, by simp⟩⟩, Reps.none _ _⟩)
    have hcut : (0 : Int) ≤ (cap : Int) := by omega
    clear hrun hrow hcur hcap h1 h2 h3 hi hz hs hb
    go_enter Try.func75, Try.ntmps75
    go_wp2_with (at_builtin; refine Lib.wpList_append_run _ rfl (.tmp 20) (.tmp 21) 22 3 rfl _ _ rfl rfl _ _ HR.out ?_)
    go_ret
    exact ⟨_, rfl, HO.out, HB.out⟩

theorem flat_take (ls : List (List S29)) (j : Nat) (h : j < ls.length) : (ls.take (j + 1)).flatten = (ls.take j).flatten ++ ls[j] := by
  rw [List.take_succ_eq_append_getElem h, List.flatten_append, List.flatten_singleton]
theorem flat_le (ls : List (List S29)) (j : Nat) : (ls.take j).flatten.length ≤ ls.flatten.length := by
  have : ls.flatten = (ls.take j).flatten ++ (ls.drop j).flatten := by rw [← List.flatten_append, List.take_append_drop]
  rw [this, List.length_append]
  omega
set_option maxHeartbeats 4000000 in
theorem concat_msgs (A : Option Addr) (c : Nat) (ls : List (List S29)) (w : World) (hr : Kd.C (Kd.slice 29 k29) w A ls.length ls) (hc : ls.length ≤ c) (hl : ls.length ≤ 1000000000) (hf : ls.flatten.length ≤ 1000000000) :
    Calls Try.prog 51 #[.slice A ls.length c] w fun e w' => ∃ v0_ : Value, e = .returned (v0_) ∧ Kd.R (kP w) 29 w' w.heap.size (fun _ => True) v0_ ls.flatten ∧ Below w.heap.size w w' := by
  have HR := Aside0.mk hr
  have HF := Aside0.mk hf
  clear hr hf
  go_enter Try.func51, Try.ntmps51
  go_wp2
  go_loopw [3, 11] (fun s i wr => ∃ j : Nat, j ≤ ls.length ∧ i = .int .i64 j ∧ s = .int .i64 ((ls.take j).flatten.length : Nat) ∧ wr = w)
    (fun _ i _ => ls.length - (intOf i).toNat)
  case atStart => exact ⟨0, Nat.zero_le _, rfl, rfl, rfl⟩
  case round =>
    obtain ⟨j, hj, rfl, rfl, rfl⟩ := hrel
    by_cases hlt : j < ls.length
    · obtain ⟨ad, A0, c0, hA, hcell, hlc, hC⟩ := at_L4 HR.out (j : Int) (by omega) (by omega)
      have hrd : rd_L4 ls (j : Int) = ls[j] := by simp [rd_L4, List.getD_eq_getElem?_getD, hlt]
      rw [hrd, Int.toNat_natCast] at hcell
      have hA2 := Aside0.mk hA
      obtain ⟨n1, hn1⟩ : ∃ n1, n1 = (ls.take j).flatten.length := ⟨_, rfl⟩
      obtain ⟨n2, hn2⟩ : ∃ n2, n2 = ls[j].length := ⟨_, rfl⟩
      have hsum : (ls.take (j + 1)).flatten.length = n1 + n2 := by rw [flat_take ls j hlt, List.length_append, hn1, hn2]
      have hle := flat_le ls (j + 1)
      have hfl := HF.out
      rw [← hn2] at hcell
      rw [← hn1]
      have HS := Aside0.mk hsum
      have hb : n1 + n2 ≤ 1000000000 := by omega
      have hneg : ¬ ((n1 : Int) + (n2 : Int) < 0) := by omega
      subst hA
      clear hlc hC hrd hn1 hn2 hsum hle hfl
      go_wp2
      go_roundw
      case rel => exact ⟨j + 1, hlt, by go_num, by rw [HS.out]; go_num, by first | trivial | rfl⟩
      case measure => simp [intOf]; omega
    · obtain rfl : j = ls.length := by omega
      rw [List.take_length]
      obtain ⟨w0, hw0⟩ : ∃ w0, w0 = wr := ⟨_, rfl⟩
      subst hw0
      have hfl := HF.out
      obtain ⟨n, hn⟩ : ∃ n, n = ls.flatten.length := ⟨_, rfl⟩
      rw [← hn] at hfl ⊢
      clear hlt hj hn
      go_wp2_with (go_at_call 75; (with_reducible refine (grow_msgs n w0 (by omega)).mono ?_); rintro e w1 ⟨v, rfl, h1, hb⟩; have HB1 := Aside0.mk hb; have HO1 := Aside0.mk h1; clear hb h1)
      go_loopw [6, 27] (fun s i w2 => ∃ j : Nat, j ≤ ls.length ∧ i = .int .i64 j ∧ Aside0 (Kd.R (kP w0) 29 w2 w0.heap.size (fun _ => True) s (ls.take j).flatten) ∧ Aside0 (Below w0.heap.size w0 w2))
        (fun _ i _ => ls.length - (intOf i).toNat)
      case atStart => exact ⟨0, Nat.zero_le _, rfl, ⟨HO1.out w0⟩, HB1⟩
      case round =>
        clear HO1 HB1
        obtain ⟨j, hj, rfl, HO, HB⟩ := hrel
        by_cases hlt : j < ls.length
        · obtain ⟨ad, A0, c0, hA, hcell, hlc, hC⟩ := at_L4 HR.out (j : Int) (by omega) (by omega)
          have hrd : rd_L4 ls (j : Int) = ls[j] := by simp [rd_L4, List.getD_eq_getElem?_getD, hlt]
          rw [hrd, Int.toNat_natCast] at hcell
          rw [hrd] at hlc hC
          obtain ⟨x, hx⟩ : ∃ x, x = ls[j] := ⟨_, rfl⟩
          obtain ⟨y, hy⟩ : ∃ y, y = (ls.take j).flatten := ⟨_, rfl⟩
          have hsum : (ls.take (j + 1)).flatten = y ++ x := by rw [flat_take ls j hlt, hx, hy]
          have hle := flat_le ls (j + 1)
          rw [hsum, List.length_append] at hle
          rw [← hx] at hcell hlc hC
          rw [← hy] at HO
          have HS := Aside0.mk hsum
          have HLE := Aside0.mk (show y.length + x.length ≤ 1000000000 from Nat.le_trans hle HF.out)
          have HCx := Aside0.mk (show ReadsRow (k29.K w0) 8 _ A0 x.length x from ReadsRow.imp_ hC HB.out (fun _ _ h => h))
          have hcell2 := pw_cell_below HB.out hcell
          subst hA
          clear hlc hC hrd hx hy hsum hle hcell
          go_wp2_with (at_builtin; refine Kd.R_append_rows (kP w0) (w0 := w0) w0.heap.size rfl (.tmp 31) (.tmp 32) 22 29 (.agg #[(.int .i64 0), (.int .i64 0), (.int .i64 0), (.int .i64 0), (.int .i64 0), (.int .i64 0), (.int .i64 0), (.slice none 0 0)]) 80 rfl Try.underlying22 msg_info rfl (show (0 : Nat) < 8 by decide) (by omega) _ y x _ _ _ (fun _ => True) (fun _ => False) rfl rfl HO.out HCx.out (fun _ _ h => h) (fun _ h => h.elim) (fun _ _ => trivial) HB.out HB.out.size (by have := HLE.out; omega) ?_; intro v1 w1 ho hb _ _; have HO2 := Aside0.mk ho; have HB2 := Aside0.mk hb; clear ho hb)
          go_roundw
          case rel => exact ⟨j + 1, hlt, by go_num, by rw [HS.out]; exact HO2, HB2⟩
          case measure => simp [intOf]; omega
        · obtain rfl : j = ls.length := by omega
          rw [List.take_length] at HO
          clear hlt hj
          go_wp2
          go_ret
          exact ⟨_, rfl, HO.out, HB.out⟩
end Go.Proofs.Ytfejidinfcmfjaa.P
/-
  net.Put, by hand: as many of the others as there is room for, behind the messages, in memory of the call's own.
-/
namespace Go.Proofs.Ytfejidinfcmfjaa.P
open Go.RowKit Go.Proofs.YtfejidinfcmfjaaW.PrintWords Go.Proofs.YtfejidinfcmfjaaW.PrintLast Go.Proofs.YtfejidinfcmfjaaW.PrintMore Go.Proofs.Plain
attribute [local go_sem] max2_int min2_int max_two min_two

theorem kP_reads {w0 W : World} {base : Nat} {ok : Nat → Prop} {A : Option Addr} {n c : Nat} {xs : List S29} (h : Kd.R (kP w0) 29 W base ok (.slice A n c) xs) (hb : Below w0.heap.size w0 W) : Kd.C k29 W A xs.length xs :=
  C_rel (Kd.R_reads' h).2.2 rfl rfl (fun j x y cs hx hy hK => by rw [hx] at hy; cases hy; exact k29.K_below hb hK)
/-- How many of the others there is room for. -/
def manyM (n0 n1 : Nat) : Nat := min n1 (200 - n0)
/-- What net.Put answers. -/
def net_Put.f (l more : List S29) : Option (List S29 × Int) :=
  if l.length ≤ 500000000 ∧ more.length ≤ 500000000 ∧ (∀ x ∈ l, x.f7.length ≤ 1000000000) ∧ (∀ x ∈ more, x.f7.length ≤ 1000000000) then some (l ++ more.take (manyM l.length more.length), ((more.length - manyM l.length more.length : Nat) : Int)) else none
/-- A literal of two rows of messages. -/
theorem lit_two (W : World) {A0 A1 : Option Addr} {c0 c1 : Nat} {l0 l1 : List S29} {e : TypeId} (h0 : Kd.C k29 W A0 l0.length l0) (hc0 : l0.length ≤ c0) (h1 : Kd.C k29 W A1 l1.length l1) (hc1 : l1.length ≤ c1) :
    Kd.C (Kd.slice 29 k29) (W.alloc (.cells #[.slice A0 l0.length c0, .slice A1 l1.length c1] e)) (some ⟨W.heap.size, 0, none⟩) 2 [l0, l1] := by
  have hb : Below W.heap.size W (W.alloc (.cells #[.slice A0 l0.length c0, .slice A1 l1.length c1] e)) := (Below.refl _ _).alloc (Nat.le_refl _) _
  have hB := blk_new W (.cells #[.slice A0 l0.length c0, .slice A1 l1.length c1] e)
  have k0 := blk_cell hB 0
  have k1 := blk_cell hB 1
  refine ⟨rfl, by omega, fun _ => ⟨_, rfl, fun j p hj => ?_⟩⟩
  have hj2 : j < 2 := (List.getElem?_eq_some_iff.1 hj).1
  have hj3 : j = 0 ∨ j = 1 := by omega
  rcases hj3 with rfl | rfl
  · cases hj
    refine ⟨_, rfl, ⟨A0, c0, rfl, hc0, Kd.C_below h0 hb⟩, fun i u hu => ?_⟩
    have hi : i = 0 := by have := (List.getElem?_eq_some_iff.1 hu).1; simp at this; exact this
    subst hi; cases hu
    rw [add_plain]; exact k0
  · cases hj
    refine ⟨_, rfl, ⟨A1, c1, rfl, hc1, Kd.C_below h1 hb⟩, fun i u hu => ?_⟩
    have hi : i = 0 := by have := (List.getElem?_eq_some_iff.1 hu).1; simp at this; exact this
    subst hi; cases hu
    rw [add_plain]; exact k1

theorem concat_two {A0 A1 : Option Addr} {c0 c1 : Nat} {l0 l1 l3 : List S29} {e : TypeId} (w : World) (h3 : l3 = l0 ++ l1) (h0 : Kd.C k29 w A0 l0.length l0) (hc0 : l0.length ≤ c0) (h1 : Kd.C k29 w A1 l1.length l1) (hc1 : l1.length ≤ c1) (hq : l3.length ≤ 1000000000) :
    Calls Try.prog 51 #[.slice (some ⟨w.heap.size, 0, none⟩) 2 2] (w.alloc (.cells #[.slice A0 l0.length c0, .slice A1 l1.length c1] e)) fun e_ w' => ∃ (A : Option Addr) (c : Nat), e_ = .returned (.slice A l3.length c) ∧ Kd.C k29 w' A l3.length l3 ∧ l3.length ≤ c ∧ Below w.heap.size w w' := by
  subst h3
  have hf : [l0, l1].flatten = l0 ++ l1 := by simp
  have hA := (Below.refl w.heap.size w).alloc (Nat.le_refl _) (.cells #[.slice A0 l0.length c0, .slice A1 l1.length c1] e)
  have hq2 : [l0, l1].flatten.length ≤ 1000000000 := by rw [hf]; exact hq
  have h2 : ([l0, l1] : List (List S29)).length ≤ 1000000000 := by simp
  have h := concat_msgs (some ⟨w.heap.size, 0, none⟩) 2 [l0, l1] (w.alloc (.cells #[.slice A0 l0.length c0, .slice A1 l1.length c1] e)) (lit_two w h0 hc0 h1 hc1) (Nat.le_refl 2) h2 hq2
  rw [hf] at h
  refine h.mono ?_
  rintro e_ w1 ⟨v, rfl, h1, hb⟩
  obtain ⟨A, c, rfl⟩ := Kd.R_slice h1
  exact ⟨A, c, rfl, kP_reads h1 hb, (Kd.R_reads' h1).2.1, hA.trans (hb.mono hA.size)⟩

set_option maxHeartbeats 4000000 in
theorem net_Put.calls (A0 : Option Addr) (c0 : Nat) (l0 : List S29) (A1 : Option Addr) (c1 : Nat) (l1 : List S29) (r1 : List S29) (r2 : Int) (w : World) (hr0 : Kd.C k29 w A0 l0.length l0) (hc0 : l0.length ≤ c0) (hr1 : Kd.C k29 w A1 l1.length l1) (hc1 : l1.length ≤ c1) (h : net_Put.f l0 l1 = some (r1, r2)) :
    Calls Try.prog 15 #[.slice A0 l0.length c0, .slice A1 l1.length c1] w fun e w' => ∃ v0_ : Value, e = .returned (.tuple #[v0_, .int .i64 r2]) ∧ Kd.R k29 29 w' w.heap.size (fun _ => True) v0_ r1 ∧ Below w.heap.size w w' := by
  unfold net_Put.f at h
  split at h
  rotate_left
  · cases h
  rename_i hl
  obtain ⟨q1, q2, q3, q4⟩ := hl
  cases h
  obtain ⟨m, hm⟩ : ∃ m, m = manyM l0.length l1.length := ⟨_, rfl⟩
  have hm2 : m = min l1.length (200 - l0.length) := hm
  rw [← hm]
  clear hm
  have hml : m ≤ l1.length := by omega
  obtain ⟨l2, hl2⟩ : ∃ l2, l2 = l1.take m := ⟨_, rfl⟩
  have hl2n : l2.length = m := by rw [hl2, List.length_take]; omega
  have HC2 := Aside0.mk (show Kd.C k29 w A1 l2.length l2 by rw [hl2]; exact Kd.C_take hr1 hml)
  have HC0 := Aside0.mk hr0
  have HLC := Aside0.mk (show l2.length ≤ c1 by omega)
  have HLC0 := Aside0.mk hc0
  obtain ⟨l3, hl3⟩ : ∃ l3, l3 = l0 ++ l2 := ⟨_, rfl⟩
  have HL3 := Aside0.mk hl3
  have HQ := Aside0.mk (show l3.length ≤ 1000000000 by rw [hl3]; simp; omega)
  have hall : ∀ x ∈ l0 ++ l2, x.f7.length ≤ 1000000000 := by
    intro x hx
    rcases List.mem_append.1 hx with h | h
    · exact q3 x h
    · rw [hl2] at h; exact q4 x (List.mem_of_mem_take h)
  have HF := Aside0.mk (show net_own.f l3 = some l3 by
    rw [hl3]
    unfold net_own.f
    rw [if_pos ⟨by rw [List.length_append]; omega, hall⟩])
  rw [← hl2, ← hl3]
  subst hl2n
  obtain ⟨n1, hn1⟩ : ∃ n1, n1 = l1.length := ⟨_, rfl⟩
  rw [← hn1] at hm2 hml hc1 q2 ⊢
  have hmn : ((200 : Int) - (l0.length : Int) < 0 → (if 0 < n1 then (0 : Int) else (n1 : Int)) = (l2.length : Int)) ∧ (¬ (200 : Int) - (l0.length : Int) < 0 → (if (200 : Int) - (l0.length : Int) < (n1 : Int) then (200 : Int) - (l0.length : Int) else (n1 : Int)) = (l2.length : Int)) := by
    refine ⟨fun h2 => ?_, fun h2 => ?_⟩ <;> split <;> omega
  have hm0 : (0 : Int) ≤ (l2.length : Int) := by omega
  have hmc : l2.length ≤ c1 := by omega
  have hsub : (n1 : Int) - (l2.length : Int) = ((n1 - l2.length : Nat) : Int) := by omega
  clear hr0 hr1 hl2 hl3 q3 q4 hn1 hm2 hc0 hall
  rcases Decidable.em ((200 : Int) - (l0.length : Int) < 0) with h2 | h2
  rotate_left
  case' inr => replace hmn := hmn.2 h2
  case' inl => replace hmn := hmn.1 h2
  all_goals
    go_enter Try.func15, Try.ntmps15
    go_wp2_with (first | (go_at_call 51; (with_reducible refine (concat_two w HL3.out HC0.out HLC0.out HC2.out HLC.out HQ.out).mono ?_); rintro e w1 ⟨A, c, rfl, h1, h2_, hb⟩; have HB1 := Aside0.mk hb; have HR1 := Aside0.mk h1; have HC1 := Aside0.mk h2_; clear hb h1 h2_) | (go_at_call 50; (with_reducible refine (net_own.calls A c l3 l3 w1 HR1.out HC1.out HF.out).mono ?_); rintro e w2 ⟨v2, rfl, h1, hb⟩; have HB2 := Aside0.mk (HB1.out.trans (hb.mono HB1.out.size)); have HO2 := Aside0.mk (Kd.R_lower h1 HB1.out.size); clear hb h1))
    go_ret2
    exact ⟨_, rfl, HO2.out, HB2.out⟩
end Go.Proofs.Ytfejidinfcmfjaa.P
/-
  net.own, by hand: no two messages have one text's row.
-/
namespace Go.Proofs.Ytfejidinfcmfjaa.P
open Go.RowKit Go.Proofs.YtfejidinfcmfjaaW.PrintWords Go.Proofs.YtfejidinfcmfjaaW.PrintLast Go.Proofs.YtfejidinfcmfjaaW.PrintMore Go.Proofs.Plain

set_option maxHeartbeats 4000000 in
theorem net_own.callsS (A0 : Option Addr) (c0 : Nat) (l0 : List S29) (r : List S29) (w : World) (hr0 : Kd.C k29 w A0 l0.length l0) (hc0 : l0.length ≤ c0) (h : net_own.f l0 = some r) :
    Calls Try.prog 50 #[.slice A0 l0.length c0] w fun e w' => ∃ v0_ : Value, e = .returned (v0_) ∧ Kd.S k29 29 w' w.heap.size (fun _ => True) v0_ r ∧ Below w.heap.size w w' := by
  unfold net_own.f at h
  split at h
  rotate_left
  · cases h
  rename_i hlen
  obtain rfl := Option.some.inj h
  have HR := Aside0.mk hr0
  have HC := Aside0.mk hc0
  have HL := Aside0.mk hlen
  clear hr0 hc0 hlen h
  go_enter Try.func50, Try.ntmps50
  go_wp2_with (go_at_call 53; (with_reducible refine (clone_msgs A0 c0 l0 w HR.out HC.out HL.out.1).mono ?_); rintro e w1 ⟨v, rfl, h1, hb⟩; obtain ⟨A, c, rfl⟩ := Kd.R_slice h1; have HB1 := Aside0.mk hb; have HO1 := Aside0.mk h1; clear hb h1)
  have hl0 : l0.length ≤ 1000000000 := HL.out.1
  go_loopw [9] (fun i wr => ∃ j : Nat, j ≤ l0.length ∧ i = .int .i64 j ∧ Aside0 (∃ f, Kd.R (Kd.tag f (kX w)) 29 wr w.heap.size (fun _ => True) (.slice A l0.length c) (mixM l0 j).zipIdx) ∧ Aside0 (Below w.heap.size w wr))
    (fun i _ => l0.length - (intOf i).toNat)
  case atStart =>
    refine ⟨0, Nat.zero_le _, rfl, ⟨fun _ => 0, R_rel HO1.out rfl (by rw [List.length_zipIdx, mixM_len]) (fun j x y cs hx hy hM => ?_)⟩, HB1⟩
    have hj : j < l0.length := (List.getElem?_eq_some_iff.1 hx).1
    rw [List.getElem?_zipIdx, mixM_get l0 0 j hj, decide_eq_false (by omega)] at hy
    rw [List.getElem?_eq_getElem hj] at hx
    cases hx; cases hy
    exact hM
  case round =>
    clear HO1 HB1
    obtain ⟨j, hj, rfl, HOX, HB⟩ := hrel
    obtain ⟨f, hof⟩ := HOX.out
    have HO := Aside0.mk hof
    clear hof HOX
    by_cases hlt : j < l0.length
    · obtain ⟨g, cap, hv, hbg, hgl, cells, hcells⟩ := Kd.R_form HO.out (by rw [List.length_zipIdx, mixM_len]; omega)
      injection hv with hA hn hcap
      subst hA
      subst hcap
      obtain ⟨cs, hcl, hM, hcc, hfz⟩ := Kd.R_elem HO.out ((false, z29), 0) (j : Int) (by omega) (by omega)
      have hget : (mixM l0 j).zipIdx.getD (j : Int).toNat ((false, z29), 0) = ((false, l0[j]), j) := by
        rw [List.getD_eq_getElem?_getD, Int.toNat_natCast, List.getElem?_zipIdx, mixM_get l0 j j hlt, decide_eq_false (by omega), Nat.zero_add]; rfl
      rw [hget] at hM
      have hM0 : k29.K w l0[j] cs := hM
      obtain ⟨A7, c7, hcs, hl7, hC7⟩ := k29_open hM0
      have h7 := hcc 7 (.slice A7 l0[j].f7.length c7) (by rw [hcs]; rfl)
      have f7 := hfz 7
      have hszX : (Kd.tag f (kX w)).sz = 8 := rfl
      rw [hszX, Int.toNat_natCast] at h7 f7
      obtain ⟨xs, hxs⟩ : ∃ xs, xs = l0[j].f7 := ⟨_, rfl⟩
      rw [← hxs] at h7 hl7 hC7
      have HXS := Aside0.mk hxs
      have HCL := Aside0.mk hcl
      have HCC := Aside0.mk hcc
      have HCS := Aside0.mk hcs
      have HG := Aside0.mk hcells
      have HL7 := Aside0.mk hl7
      have HC7 := Aside0.mk (Kd.C_below hC7 HB.out)
      have HX7 := Aside0.mk (show slices_Clone_string_string.f xs = some xs by unfold slices_Clone_string_string.f; rw [if_pos (by rw [hxs]; exact HL.out.2 _ (List.getElem_mem hlt))])
      have HBG := Aside0.mk hbg
      clear hxs hcl hcc hcs hcells hl7 hC7 hM hM0 hget hszX hfz hbg hn
      go_wp2_with (go_at_call 74; (with_reducible refine (slices_Clone_string_string.calls A7 c7 xs xs wr HC7.out HL7.out HX7.out).mono ?_); rintro e w2 ⟨v7, rfl, h1, hb⟩; obtain ⟨A8, c8, rfl⟩ := Kd.R_slice h1; have HB2 := Aside0.mk hb; have HV7 := Aside0.mk h1; have q7 := (blk_cell (blk_below HG.out hb) (j * 8 + 7)).trans ((blk_cell HG.out (j * 8 + 7)).symm.trans h7); have g7 := blk_frozen (blk_below HG.out hb) (j * 8 + 7); clear hb h1 h7 f7)
      go_roundw
      case rel =>
        refine ⟨j + 1, hlt, by go_num, ⟨fun b => if b < wr.heap.size then f b else j, ?_⟩, ⟨?_⟩⟩
        · have HOf : Kd.R (Kd.tag (fun b => if b < wr.heap.size then f b else j) (kX w)) 29 wr w.heap.size (fun _ => True) (.slice (some ⟨g, 0, none⟩) l0.length c) (mixM l0 j).zipIdx := by
            refine Kd.R_mono (R_rel (Kd.R_bound HO.out) rfl rfl (fun i x y cs hx hy hM => ?_)) (fun _ _ => trivial)
            rw [hx] at hy
            cases hy
            exact (kX w).M_mono (fun k hk => ⟨hk.1, by show (if k < wr.heap.size then f k else j) = _; rw [if_pos hk.1.1.2.2.1]; exact hk.2⟩) hM
          have HO2 := Kd.R_below HOf HB2.out
          have hm : j ≤ (mixM l0 j).length := by rw [mixM_len]; exact hj
          have hszX : (Kd.tag (fun b => if b < wr.heap.size then f b else j) (kX w)).sz = 8 := rfl
          have hrow := (Kd.R_seg HO2 (j : Int) (by omega) (by omega) (c := cs) (seg := [.slice A8 xs.length c8]) (j := 7) (okp := fun k => k ≠ g) (x' := ((true, l0[j]), j)) HCL.out (fun i u hu => pw_cell_below HB2.out (HCC.out i u hu)) (Nat.le_refl 8) (show k29.M w2 w.heap.size (fun k => k ≠ g ∧ (if k < wr.heap.size then f k else j) = j) l0[j] _ by
            rw [HCS.out]
            refine k29_mkM w2 w.heap.size _ l0[j] (v7 := .slice A8 xs.length c8) ?_
            rw [← HXS.out]
            refine Kd.R_mono (Kd.R_lower (Kd.R_bound (Kd.R_newB HV7.out HG.out)) HB.out.size) (fun k hk => ⟨hk.1.2, ?_⟩)
            rw [if_neg (by have := hk.2.1; omega)]) (fun k hk => ⟨trivial, hk⟩)).1
          have hset : (mixM l0 j).zipIdx.set j ((true, l0[j]), j) = (mixM l0 (j + 1)).zipIdx := by
            rw [← mixM_set l0 j hlt]
            apply List.ext_getElem?
            intro i
            rw [List.getElem?_set, List.getElem?_zipIdx, List.getElem?_zipIdx, List.getElem?_set, List.length_zipIdx, mixM_len]
            by_cases hij : j = i
            · subst hij; simp [hlt]
            · rw [if_neg hij, if_neg hij]
          rw [Int.toNat_natCast, hset, hszX] at hrow
          exact hrow
        · exact (HB.out.trans (HB2.out.mono HB.out.size)).setCell (p := ⟨g, j * 8 + 7, none⟩) HBG.out _
      case measure => simp [intOf]; omega
    · obtain rfl : j = l0.length := by omega
      clear hlt hj
      go_wp2
      go_ret
      refine ⟨_, rfl, ⟨f, R_rel HO.out rfl (by rw [List.length_zipIdx, List.length_zipIdx, mixM_len]) (fun j x y cs hx hy hM => ?_)⟩, HB.out⟩
      have hj : j < l0.length := by have := (List.getElem?_eq_some_iff.1 hy).1; rw [List.length_zipIdx] at this; exact this
      rw [List.getElem?_zipIdx, mixM_get l0 l0.length j hj, decide_eq_true hj] at hx
      rw [List.getElem?_zipIdx, List.getElem?_eq_getElem hj] at hy
      cases hx; cases hy
      exact hM
end Go.Proofs.Ytfejidinfcmfjaa.P
/-
  slices.Delete of one element of eight cells, by hand.
-/
namespace Go.Proofs.Ytfejidinfcmfjaa.P
open Go.RowKit Go.Proofs.YtfejidinfcmfjaaW.PrintWords Go.Proofs.YtfejidinfcmfjaaW.PrintLast Go.Proofs.YtfejidinfcmfjaaW.PrintMore Go.Proofs.Plain

set_option maxHeartbeats 4000000 in
theorem delete_any {α : Type} (d : Kd α) (hd : d.sz = 8) (g n c k base : Nat) (xs : List α) (w : World) (h : d.R 29 w base (fun _ => True) (.slice (some ⟨g, 0, none⟩) n c) xs) (hk : k < n) (hb : base ≤ w.heap.size) :
    Calls Try.prog 52 #[.slice (some ⟨g, 0, none⟩) n c, .int .i64 k, .int .i64 ((k : Int) + 1)] w fun e w' => e = .returned (.slice (some ⟨g, 0, none⟩) (n - 1) c) ∧ d.R 29 w' base (fun _ => True) (.slice (some ⟨g, 0, none⟩) (n - 1) c) (xs.eraseIdx k) ∧ Below base w w' ∧ (∀ j, j < w.heap.size → j ≠ g → w'.heap[j]? = w.heap[j]?) := by
  have HR := Aside0.mk (Kd.R_drew h)
  have HB := Aside0.mk hb
  have HD := Aside0.mk (below_drew (Below.refl base w))
  obtain ⟨hn1, hn2, hC⟩ := Kd.R_reads' h
  have hmax : n ≤ 9223372036854775807 := by rw [hn1]; exact Kd.C_max hC
  have hc0 : (0 : Int) ≤ (k : Int) := by omega
  have hc1 : (k : Int) + 1 ≤ (n : Int) := by omega
  have hc2 : (k : Int) ≤ (k : Int) + 1 := by omega
  have hc3 : (n : Int) ≤ (c : Int) := by omega
  have hc4 : ((k : Int) == (k : Int) + 1) = false := beq_eq_false_iff_ne.2 (by omega)
  have HK := Aside0.mk hk
  clear h hC hn1
  have HBW := Aside0.mk (show base ≤ w.drew.heap.size from hb)
  have hc5 : (n : Int) - 1 = ((n - 1 : Nat) : Int) := by omega
  have hc6 : ((n - 1 : Nat) : Int) ≤ (n : Int) := by omega
  have hc7 : (0 : Int) ≤ ((n - 1 : Nat) : Int) := by omega
  have hc8 : n - (n - 1) = 1 := by omega
  have hc9 : ¬ c = n - 1 := by omega
  have hd1 : k ≤ c := by omega
  have hd2 : (0 : Int) ≤ (k : Int) + 1 := by omega
  have hd3 : (k : Int) + 1 ≤ (c : Int) := by omega
  have mixed : Try.prog.follows .mixedOrders = true := by kernel_rfl
  by_cases hck : c = k + 1
  · subst hck
    obtain rfl : n = k + 1 := by omega
    clear hc1 hc2 hc3 hc5 hc6 hc7 hc8 hc9 hn2
    have hc5 : (k : Int) + 1 - (k : Int) = 1 := by omega
    have hc6 : k + 1 - k = 1 := by omega
    have hc7 : ¬ k + 1 = k := by omega
    have hc8 : (k : Int) ≤ (k : Int) + 1 := by omega
    go_enter Try.func52, Try.ntmps52
    go_wp2_with fail
    go_region_law_o (refine Kd.R_delete_step d (w0 := w) base rfl (.tmp 22) (.tmp 25) 22 29 rfl Try.underlying22 (by rw [hd]; exact msg_size) (g := g) (n := k + 1) (c := k + 1) (k := k) (m := 0) (c2 := 0) (A := some ⟨g, 0, none⟩) rfl rfl (by rw [if_pos rfl]) (by omega) HR.out HK.out HD.out HBW.out ?_; intro w1 ho hb1 hg1; rw [Nat.add_sub_cancel] at ho ⊢; obtain ⟨w2, hcl, ho2, hg2⟩ := clear_tail (q := 1) (c2 := 1) hd ho (by decide) (by omega); have HO2 := Aside0.mk ho2; have HB1 := Aside0.mk hb1; have HG1 := Aside0.mk hg1; have HG2 := Aside0.mk hg2; clear ho hb1 hg1 ho2 hg2)
    go_wp2
    rw [Nat.add_sub_cancel]
    go_ret
    exact ⟨rfl, HO2.out, HB1.out.grown HG2.out (Nat.le_trans HB.out HG1.out.size) (fun q hq => by injection hq with hq; subst hq; exact Kd.R_base HR.out _ (by simp [Value.ownBlock])), fun j hj hne => (HG2.out.block j (Nat.lt_of_lt_of_le hj HG1.out.size) (fun e => hne (by injection e))).trans (HG1.out.block j hj (fun e => hne (by injection e)))⟩
  · go_enter Try.func52, Try.ntmps52
    go_wp2_with fail
    go_region_law_o (refine Kd.R_delete_step d (w0 := w) base rfl (.tmp 22) (.tmp 25) 22 29 rfl Try.underlying22 (by rw [hd]; exact msg_size) (g := g) (n := n) (c := c) (k := k) rfl rfl (by rw [if_neg hck, Option.map_some, add_plain, hd]) rfl HR.out HK.out HD.out HBW.out ?_; intro w1 ho hb1 hg1; obtain ⟨w2, hcl, ho2, hg2⟩ := clear_tail (q := 1) (c2 := c - (n - 1)) hd ho (by decide) (by omega); have HO2 := Aside0.mk ho2; have HB1 := Aside0.mk hb1; have HG1 := Aside0.mk hg1; have HG2 := Aside0.mk hg2; clear ho hb1 hg1 ho2 hg2)
    go_wp2
    go_ret
    exact ⟨rfl, HO2.out, HB1.out.grown HG2.out (Nat.le_trans HB.out HG1.out.size) (fun q hq => by injection hq with hq; subst hq; exact Kd.R_base HR.out _ (by simp [Value.ownBlock])), fun j hj hne => (HG2.out.block j (Nat.lt_of_lt_of_le hj HG1.out.size) (fun e => hne (by injection e))).trans (HG1.out.block j hj (fun e => hne (by injection e)))⟩
end Go.Proofs.Ytfejidinfcmfjaa.P
/-
  A call through a function value that is known, in a region that draws its order: it returns, or it panics.
-/
namespace Go.Proofs.Ytfejidinfcmfjaa.CallV
open Go.Proofs Go.Proofs.YtfejidinfcmfjaaW.PrintWords Go.Proofs.YtfejidinfcmfjaaW.PrintLast
variable {P : Program} {ops : Array Oper} {Q : Exit → Act → World → Prop}

/-- A store's run. -/
theorem storeRun_ {oi : Oper} {a : Act} {W W1 : World} {t : TypeId} {p x : Operand} {pv xv : Value} (hop : oi.op = .store t p x) (hp : a.eval p = pv) (hx : a.eval x = xv) (h : (Instr.storeAt t pv xv).run P W = .ok () W1) : (execOp a.eval oi).run P W = .ok .skip W1 := by
  unfold execOp
  simp only [hop, hp, hx, Sem.run_bind, Sem.run_pure, Result.andThen_ok]
  show ((Sem.run P (Instr.storeAt t pv xv) W).andThen _) = _
  rw [h]
  rfl
end Go.Proofs.Ytfejidinfcmfjaa.CallV
/-
  net.Take, by hand: the message at a place, and the others, in memory of the call's own.
-/
namespace Go.Proofs.Ytfejidinfcmfjaa.P
open Go.RowKit Go.Proofs.YtfejidinfcmfjaaW.PrintWords Go.Proofs.YtfejidinfcmfjaaW.PrintLast Go.Proofs.YtfejidinfcmfjaaW.PrintMore Go.Proofs.Plain
theorem R_rowfarG {α : Type} {d : Kd α} {e : Nat} {W W' : World} {base : Nat} {ok : Nat → Prop} {v : Value} {xs : List α} (h : d.R e W base ok v xs) {g t : Nat} {cells : Array Value} (hb : W.heap[g]? = some (.cells cells t (0, 0))) (ht : ∀ q, q ∈ e :: d.E → q ≠ t) (hf : ∀ j, j < W.heap.size → j ≠ g → W'.heap[j]? = W.heap[j]?) : d.R e W' base ok v xs :=
  Kd.R_mono (Kd.R_step (Kd.R_types h hb ht) (fun k hk hl => hf k hl hk.2)) (fun k hk => hk.1)
theorem R_cellsG {α : Type} {d : Kd α} {e : Nat} {W : World} {base : Nat} {ok : Nat → Prop} {v : Value} {xs : List α} (h : d.R e W base ok v xs) {g t : Nat} {cells : Array Value} (hb : W.heap[g]? = some (.cells cells t (0, 0))) (ht : ∀ q, q ∈ e :: d.E → q ≠ t) (vs : List Value) : d.R e (W.setCells g 0 vs) base ok v xs :=
  Kd.R_mono (Kd.R_step (Kd.R_types h hb ht) (fun k hk _ => setCells_far _ _ k hk.2)) (fun k hk => hk.1)
theorem erase_zip (l : List S29) (k j : Nat) (y : S29) (i : Nat) (h : (l.zipIdx.eraseIdx k)[j]? = some (y, i)) : (l.eraseIdx k)[j]? = some y ∧ i ≠ k := by
  rw [List.getElem?_eraseIdx] at h ⊢
  by_cases hj : j < k
  · rw [if_pos hj] at h ⊢
    rw [List.getElem?_zipIdx] at h
    obtain ⟨y', h1, h2⟩ := Option.map_eq_some_iff.1 h
    cases h2
    exact ⟨h1, by omega⟩
  · rw [if_neg hj] at h ⊢
    rw [List.getElem?_zipIdx] at h
    obtain ⟨y', h1, h2⟩ := Option.map_eq_some_iff.1 h
    cases h2
    exact ⟨h1, by omega⟩
/-- The others' rows are none of the taken one's. -/
theorem apart_rest {f : Nat → Nat} {w : World} {base g n c k : Nat} {l : List S29} {v7 : Value} (h : (Kd.tag f k29).R 29 w base (fun _ => True) (.slice (some ⟨g, 0, none⟩) n c) (l.zipIdx.eraseIdx k)) (h7 : ∀ q, v7.ownBlock = some q → q ≠ g ∧ f q = k) :
    Kd.R k29 29 w base (fun q => some q ≠ v7.ownBlock) (.slice (some ⟨g, 0, none⟩) n c) (l.eraseIdx k) := by
  obtain ⟨hok, inner, ho, hr⟩ := h
  have hlen : (l.zipIdx.eraseIdx k).length = (l.eraseIdx k).length := by simp [List.length_eraseIdx]
  refine ⟨fun q hq e => ?_, inner, by rw [← hlen]; exact ho, by rw [hr.1, hlen]; rfl, fun j y hy => ?_⟩
  · simp [Value.ownBlock] at hq
    exact (h7 q e.symm).1 hq.symm
  · have hj : j < (l.zipIdx.eraseIdx k).length := by rw [hlen]; exact (List.getElem?_eq_some_iff.1 hy).1
    obtain ⟨⟨y', i⟩, hz⟩ : ∃ p, (l.zipIdx.eraseIdx k)[j]? = some p := ⟨_, List.getElem?_eq_getElem hj⟩
    obtain ⟨h1, h2⟩ := erase_zip l k j y' i hz
    rw [hy] at h1
    cases h1
    exact k29.M_mono (fun q hq => ⟨fun e => h2 (hq.2.symm.trans (h7 q e.symm).2), hq.1.2⟩) (hr.2 j _ hz)
theorem R_step_new {α : Type} {d : Kd α} {e : Nat} {W : World} {b g : Nat} {v : Value} {xs : List α} (h : d.R e W b (fun _ => True) v xs) (hg : g < b) (o : Nat) (vs : List Value) : d.R e (W.setCells g o vs) b (fun _ => True) v xs :=
  Kd.R_mono (Kd.R_step (Kd.R_bound h) (fun k hk _ => setCells_far _ _ k (by have := hk.2.1; omega))) (fun _ _ => trivial)
theorem delete_msgW {α : Type} (d : Kd α) (hd : d.sz = 8) (g n c k base : Nat) (xs : List α) (w : World) (h : d.R 29 w base (fun _ => True) (.slice (some ⟨g, 0, none⟩) n c) xs) (hk : k < n) (hb : base ≤ w.heap.size) :
    Calls Try.prog 52 #[.slice (some ⟨g, 0, none⟩) n c, .int .i64 k, .int .i64 (wrap64 ((k : Int) + 1))] w fun e w' => e = .returned (.slice (some ⟨g, 0, none⟩) (n - 1) c) ∧ d.R 29 w' base (fun _ => True) (.slice (some ⟨g, 0, none⟩) (n - 1) c) (xs.eraseIdx k) ∧ Below base w w' ∧ (∀ j, j < w.heap.size → j ≠ g → w'.heap[j]? = w.heap[j]?) := by
  obtain ⟨hn1, _, hC⟩ := Kd.R_reads' h
  have hmax : n ≤ 9223372036854775807 := by rw [hn1]; exact Kd.C_max hC
  rw [show wrap64 ((k : Int) + 1) = (k : Int) + 1 by unfold wrap64; omega]
  exact delete_any d hd g n c k base xs w h hk hb
/-- What net.Take answers. -/
def takeM (l : List S29) (at_ : Int) : S29 × List S29 × Bool := if at_ < 0 ∨ at_ ≥ (l.length : Int) then (z29, [], false) else (rd_T29 l at_, l.eraseIdx at_.toNat, true)
def net_TakeS.f (l : List S29) (at_ : Int) : Option (S29 × List S29 × Bool) :=
  if l.length ≤ 1000000000 ∧ ∀ x ∈ l, x.f7.length ≤ 1000000000 then some (takeM l at_) else none

set_option maxHeartbeats 4000000 in
theorem net_Take_out (A0 : Option Addr) (c0 : Nat) (l0 : List S29) (a1 : Int) (w : World) (hr0 : Kd.C k29 w A0 l0.length l0) (hc0 : l0.length ≤ c0) (h : a1 < 0 ∨ a1 ≥ (l0.length : Int)) :
    Calls Try.prog 17 #[.slice A0 l0.length c0, .int .i64 a1] w fun e w' => ∃ v7_ v8_ : Value, e = .returned (.tuple #[.agg #[.int .i64 0, .int .i64 0, .int .i64 0, .int .i64 0, .int .i64 0, .int .i64 0, .int .i64 0, v7_], v8_, .bool false]) ∧ Kd.R Kd.string 9 w' w.heap.size (fun _ => True) v7_ [] ∧ Kd.R k29 29 w' w.heap.size (fun q => some q ≠ (v7_ : Value).ownBlock) v8_ [] ∧ Below w.heap.size w w' := by
  have HB0 := Aside0.mk ((Below.refl w.heap.size w).alloc (Nat.le_refl _) (.cells (blkQ 0 0 0 0 0 0 0 (.slice none 0 0)) 29))
  have HX0 := Aside0.mk (blk_new w (.cells (blkQ 0 0 0 0 0 0 0 (.slice none 0 0)) 29))
  clear hr0
  rcases Decidable.em (a1 < 0) with h1 | h1
  · have ht : decide (a1 < 0) = true := decide_eq_true h1
    go_enter Try.func17, Try.ntmps17
    go_wp2_with (first | ((with_reducible refine gate_store (t := 29) (p := 4) rfl ?_); refine store_event (t := 29) (p := 4) (w1 := ((w.alloc (.cells (blkQ 0 0 0 0 0 0 0 (.slice none 0 0)) 29))).setCells (w.heap.size) 0 (blkQ 0 0 0 0 0 0 0 (.slice none 0 0)).toList) rfl rfl rfl ?hr ?_; (case hr => (unfold execOp; simp only [Act.eval, Sem.run_bind, Sem.run_pure, Result.andThen_ok]; show ((Sem.run Try.prog (Instr.storeAt 29 (.pointer (some ⟨w.heap.size, 0, none⟩)) (.agg (blkQ 0 0 0 0 0 0 0 (.slice none 0 0)))) ((w.alloc (.cells (blkQ 0 0 0 0 0 0 0 (.slice none 0 0)) 29)))).andThen _) = _; rw [(store_msgQ HX0.out rfl 0 0 0 0 0 0 0 (.slice none 0 0) rfl).1]; try rfl)); intro w1 hw_; have HX1 := Aside0.mk (show w1.heap[w.heap.size]? = some (.cells (blkQ 0 0 0 0 0 0 0 (.slice none 0 0)) 29 (0, 0)) by rw [hw_]; exact (store_msgQ HX0.out rfl 0 0 0 0 0 0 0 (.slice none 0 0) rfl).2); have HB1 := Aside0.mk (show Below w.heap.size w w1 by rw [hw_]; exact below_cellsQ HB0.out (Nat.le_refl _) _); have z0 := blk_cell HX1.out 0; have z1 := blk_cell HX1.out 1; have z2 := blk_cell HX1.out 2; have z3 := blk_cell HX1.out 3; have z4 := blk_cell HX1.out 4; have z5 := blk_cell HX1.out 5; have z6 := blk_cell HX1.out 6; have z7 := blk_cell HX1.out 7; simp only [blkQ, List.getElem?_toArray, List.getElem?_cons_zero, List.getElem?_cons_succ] at z0 z1 z2 z3 z4 z5 z6 z7; clear hw_))
    refine bodyPost_ret (v := .tuple #[.agg #[.int .i64 0, .int .i64 0, .int .i64 0, .int .i64 0, .int .i64 0, .int .i64 0, .int .i64 0, .slice none 0 0], .slice none 0 0, .bool false]) ?_ rfl ⟨_, _, rfl, Kd.R_nil _ _ _ _ _, Kd.R_nil _ _ _ _ _, HB1.out⟩
    simp [results, Try.results17, go_sem, z0, z1, z2, z3, z4, z5, z6, z7]
  · have ht : decide (a1 < 0) = false := decide_eq_false h1
    have h2 : (l0.length : Int) ≤ a1 := by omega
    have ht2 : decide (a1 ≥ (l0.length : Int)) = true := decide_eq_true h2
    clear h
    go_enter Try.func17, Try.ntmps17
    go_wp2_with (first | ((with_reducible refine gate_store (t := 29) (p := 4) rfl ?_); refine store_event (t := 29) (p := 4) (w1 := ((w.alloc (.cells (blkQ 0 0 0 0 0 0 0 (.slice none 0 0)) 29))).setCells (w.heap.size) 0 (blkQ 0 0 0 0 0 0 0 (.slice none 0 0)).toList) rfl rfl rfl ?hr ?_; (case hr => (unfold execOp; simp only [Act.eval, Sem.run_bind, Sem.run_pure, Result.andThen_ok]; show ((Sem.run Try.prog (Instr.storeAt 29 (.pointer (some ⟨w.heap.size, 0, none⟩)) (.agg (blkQ 0 0 0 0 0 0 0 (.slice none 0 0)))) ((w.alloc (.cells (blkQ 0 0 0 0 0 0 0 (.slice none 0 0)) 29)))).andThen _) = _; rw [(store_msgQ HX0.out rfl 0 0 0 0 0 0 0 (.slice none 0 0) rfl).1]; try rfl)); intro w1 hw_; have HX1 := Aside0.mk (show w1.heap[w.heap.size]? = some (.cells (blkQ 0 0 0 0 0 0 0 (.slice none 0 0)) 29 (0, 0)) by rw [hw_]; exact (store_msgQ HX0.out rfl 0 0 0 0 0 0 0 (.slice none 0 0) rfl).2); have HB1 := Aside0.mk (show Below w.heap.size w w1 by rw [hw_]; exact below_cellsQ HB0.out (Nat.le_refl _) _); have z0 := blk_cell HX1.out 0; have z1 := blk_cell HX1.out 1; have z2 := blk_cell HX1.out 2; have z3 := blk_cell HX1.out 3; have z4 := blk_cell HX1.out 4; have z5 := blk_cell HX1.out 5; have z6 := blk_cell HX1.out 6; have z7 := blk_cell HX1.out 7; simp only [blkQ, List.getElem?_toArray, List.getElem?_cons_zero, List.getElem?_cons_succ] at z0 z1 z2 z3 z4 z5 z6 z7; clear hw_))
    refine bodyPost_ret (v := .tuple #[.agg #[.int .i64 0, .int .i64 0, .int .i64 0, .int .i64 0, .int .i64 0, .int .i64 0, .int .i64 0, .slice none 0 0], .slice none 0 0, .bool false]) ?_ rfl ⟨_, _, rfl, Kd.R_nil _ _ _ _ _, Kd.R_nil _ _ _ _ _, HB1.out⟩
    simp [results, Try.results17, go_sem, z0, z1, z2, z3, z4, z5, z6, z7]

set_option maxHeartbeats 8000000 in
set_option maxRecDepth 100000 in
theorem net_Take_in (A0 : Option Addr) (c0 : Nat) (l0 : List S29) (k : Nat) (x : S29) (w : World) (hr0 : Kd.C k29 w A0 l0.length l0) (hc0 : l0.length ≤ c0) (hk : k < l0.length) (hx : l0.getD (k : Int).toNat z29 = x) (hf : net_own.f l0 = some l0) :
    Calls Try.prog 17 #[.slice A0 l0.length c0, .int .i64 k] w fun e w' => ∃ v7_ v8_ : Value, e = .returned (.tuple #[.agg #[.int .i64 x.f0, .int .i64 x.f1, .int .i64 x.f2, .int .i64 x.f3, .int .i64 x.f4, .int .i64 x.f5, .int .i64 x.f6, v7_], v8_, .bool true]) ∧ Kd.R Kd.string 9 w' w.heap.size (fun _ => True) v7_ x.f7 ∧ Kd.R k29 29 w' w.heap.size (fun q => some q ≠ (v7_ : Value).ownBlock) v8_ (l0.eraseIdx k) ∧ Below w.heap.size w w' := by
  have HB0 := Aside0.mk ((Below.refl w.heap.size w).alloc (Nat.le_refl _) (.cells (blkQ 0 0 0 0 0 0 0 (.slice none 0 0)) 29))
  have HX0 := Aside0.mk (blk_new w (.cells (blkQ 0 0 0 0 0 0 0 (.slice none 0 0)) 29))
  have HR0 := Aside0.mk (Kd.C_below hr0 HB0.out)
  have HC0 := Aside0.mk hc0
  have HF := Aside0.mk hf
  have HK := Aside0.mk hk
  have HXK := Aside0.mk hx
  have hk0 : decide ((k : Int) < 0) = false := decide_eq_false (by omega)
  have hk1 : decide ((k : Int) ≥ (l0.length : Int)) = false := decide_eq_false (by omega)
  have hk2 : ¬ ((l0.length : Int) ≤ (k : Int)) := by omega
  have hk3 : (k : Int) < (l0.length : Int) := by omega
  have hk4 : (0 : Int) ≤ (k : Int) := by omega
  have hk5 : ¬ (l0.length ≤ k) := by omega
  have hmax : l0.length ≤ 1000000000 := by
    unfold net_own.f at hf
    split at hf
    · rename_i h; exact h.1
    · cases hf
  clear hr0 hx hf
  go_enter Try.func17, Try.ntmps17
  go_wp2_with (first | (go_at_call 50; (refine (net_own.callsS A0 c0 l0 l0 _ HR0.out HC0.out HF.out).mono ?_); rintro e w1 ⟨v, rfl, h1, hb⟩; have hpos := HK.out; obtain ⟨f, h1⟩ := h1; have hlz : l0.zipIdx.length = l0.length := List.length_zipIdx; obtain ⟨g, c, rfl, hbg, hgl, cells, hcells⟩ := Kd.R_form h1 (by omega); rw [hlz] at h1 ⊢; obtain ⟨cs, hcl, hM, hcc, hfz⟩ := Kd.R_elem h1 (z29, 0) (k : Int) (by omega) (by omega); rw [show l0.zipIdx.getD (k : Int).toNat (z29, 0) = (x, k) by rw [List.getD_eq_getElem?_getD, Int.toNat_natCast, List.getElem?_zipIdx, List.getElem?_eq_getElem hpos, ← HXK.out, List.getD_eq_getElem?_getD, Int.toNat_natCast, List.getElem?_eq_getElem hpos]; simp] at hM; replace hM : k29.M w1 _ (fun q => (True ∧ q ≠ g) ∧ f q = k) x cs := hM; obtain ⟨v7, hcs, h7⟩ := k29_openM hM; obtain ⟨A7, c7, rfl⟩ := Kd.R_slice h7; subst hcs; have HB1 := Aside0.mk (HB0.out.trans (hb.mono HB0.out.size)); have HX1 := Aside0.mk (blk_below HX0.out hb); have HG1 := Aside0.mk hcells; have HO1 := Aside0.mk h1; have H71 := Aside0.mk (Kd.R_mono h7 (fun _ hq => ⟨hq.1.2, hq.2⟩) : Kd.R Kd.string 9 w1 _ (fun q => q ≠ g ∧ f q = k) _ _); have HLG := Aside0.mk hbg; have q0 := hcc 0 _ rfl; have q1 := hcc 1 _ rfl; have q2 := hcc 2 _ rfl; have q3 := hcc 3 _ rfl; have q4 := hcc 4 _ rfl; have q5 := hcc 5 _ rfl; have q6 := hcc 6 _ rfl; have q7 := hcc 7 _ rfl; rw [show (Kd.tag f k29).sz = 8 from rfl, Int.toNat_natCast] at q0 q1 q2 q3 q4 q5 q6 q7; rw [Nat.add_zero] at q0; clear h1 hb hcells hM hcc hfz hcl h7 hgl hbg hpos) | ((with_reducible refine gate_store (t := 29) (p := 8) rfl ?_); refine store_event (t := 29) (p := 8) (w1 := ((w1.alloc (.cells (blkQ 0 0 0 0 0 0 0 (.slice none 0 0)) 29))).setCells (w1.heap.size) 0 (blkQ x.f0 x.f1 x.f2 x.f3 x.f4 x.f5 x.f6 (.slice A7 x.f7.length c7)).toList) rfl rfl rfl ?hr ?_; (case hr => (unfold execOp; simp only [Act.eval, Sem.run_bind, Sem.run_pure, Result.andThen_ok]; show ((Sem.run Try.prog (Instr.storeAt 29 (.pointer (some ⟨w1.heap.size, 0, none⟩)) (.agg (blkQ x.f0 x.f1 x.f2 x.f3 x.f4 x.f5 x.f6 (.slice A7 x.f7.length c7)))) ((w1.alloc (.cells (blkQ 0 0 0 0 0 0 0 (.slice none 0 0)) 29)))).andThen _) = _; rw [(store_msgQ (blk_new w1 (.cells (blkQ 0 0 0 0 0 0 0 (.slice none 0 0)) 29)) rfl x.f0 x.f1 x.f2 x.f3 x.f4 x.f5 x.f6 (.slice A7 x.f7.length c7) rfl).1]; try rfl)); intro w2 hw_; have HS := Aside0.mk (show Below w1.heap.size w1 w2 by rw [hw_]; exact below_cellsQ ((Below.refl _ _).alloc (Nat.le_refl _) _) (Nat.le_refl _) _); have HY2 := Aside0.mk (show w2.heap[w1.heap.size]? = some (.cells (blkQ x.f0 x.f1 x.f2 x.f3 x.f4 x.f5 x.f6 (.slice A7 x.f7.length c7)) 29 (0, 0)) by rw [hw_]; exact (store_msgQ (blk_new w1 (.cells (blkQ 0 0 0 0 0 0 0 (.slice none 0 0)) 29)) rfl x.f0 x.f1 x.f2 x.f3 x.f4 x.f5 x.f6 (.slice A7 x.f7.length c7) rfl).2); have HB2 := Aside0.mk (HB1.out.trans (HS.out.mono HB1.out.size)); have HX2 := Aside0.mk (blk_below HX1.out HS.out); have HG2 := Aside0.mk (blk_below HG1.out HS.out); have HO2 := Aside0.mk (Kd.R_below HO1.out HS.out); have H72 := Aside0.mk (Kd.R_below H71.out HS.out); have HLT := Aside0.mk (show g < w1.heap.size from blk_lt HG1.out); clear hw_ q0 q1 q2 q3 q4 q5 q6 q7))

  have HBASE := Aside0.mk (show (w.alloc (.cells (blkQ 0 0 0 0 0 0 0 (.slice none 0 0)) 29)).heap.size ≤ w2.drew.heap.size from HB2.out.size |> fun _ => Nat.le_trans (Nat.le_of_lt (Nat.lt_of_le_of_lt HLG.out HLT.out)) (Nat.le_trans (Nat.le_of_lt (blk_lt HY2.out)) (Nat.le_refl _)))
  have HB3 := Aside0.mk (below_drew HB2.out)
  have HX3 := Aside0.mk (blk_drew HX2.out)
  have HG3 := Aside0.mk (blk_drew HG2.out)
  have HY3 := Aside0.mk (blk_drew HY2.out)
  have HO3 := Aside0.mk (Kd.R_drew HO2.out)
  have H73 := Aside0.mk (Kd.R_drew H72.out)
  refine start_ (n := 9) (S := fun w' => w'.cell? ⟨w1.heap.size, 0, none⟩ = some (.int .i64 x.f0) ∧ w'.cell? ⟨w1.heap.size, 1, none⟩ = some (.int .i64 x.f1) ∧ w'.cell? ⟨w1.heap.size, 2, none⟩ = some (.int .i64 x.f2) ∧ w'.cell? ⟨w1.heap.size, 3, none⟩ = some (.int .i64 x.f3) ∧ w'.cell? ⟨w1.heap.size, 4, none⟩ = some (.int .i64 x.f4) ∧ w'.cell? ⟨w1.heap.size, 5, none⟩ = some (.int .i64 x.f5) ∧ w'.cell? ⟨w1.heap.size, 6, none⟩ = some (.int .i64 x.f6) ∧ w'.cell? ⟨w1.heap.size, 7, none⟩ = some (.slice A7 x.f7.length c7)) (ds := [6]) #[false, false, false, false, false, false, false, false, false] (by kernel_rfl) rfl rfl ⟨(blk_cell HY3.out 0).trans rfl, (blk_cell HY3.out 1).trans rfl, (blk_cell HY3.out 2).trans rfl, (blk_cell HY3.out 3).trans rfl, (blk_cell HY3.out 4).trans rfl, (blk_cell HY3.out 5).trans rfl, (blk_cell HY3.out 6).trans rfl, (blk_cell HY3.out 7).trans rfl⟩ (fun hHeld => ?_)
  generalize World.drew w2 = w3 at HBASE HB3 HX3 HG3 HY3 HO3 H73 hHeld ⊢
  refine pure_ (i := 1) (N := some 25) (v := ?_) (a' := ?_) #[false, true, false, false, false, false, false, false, false] rfl rfl (by kernel_rfl) (fun _ _ _ h => h) (Or.inl ⟨by rfl, ?_⟩) ?_ ?_
  rotate_left
  · intro w'
    go_simp
    with_reducible rfl
  rotate_left
  · simp only [Act.put, List.setIfInBounds_toArray, List.set_cons_zero, List.set_cons_succ, i64_w, i32_w]
    rfl
  refine pure_ (i := 2) (N := some 26) (v := ?_) (a' := ?_) #[false, true, true, false, false, false, false, false, false] rfl rfl (by kernel_rfl) (fun _ _ _ h => h) (Or.inl ⟨by rfl, ?_⟩) ?_ ?_
  rotate_left
  · intro w'
    go_simp
    with_reducible rfl
  rotate_left
  · simp only [Act.put, List.setIfInBounds_toArray, List.set_cons_zero, List.set_cons_succ, i64_w, i32_w]
    rfl
  refine pure_ (i := 3) (N := some 27) (v := ?_) (a' := ?_) #[false, true, true, true, false, false, false, false, false] rfl rfl (by kernel_rfl) (fun _ _ _ h => h) (Or.inl ⟨by rfl, ?_⟩) ?_ ?_
  rotate_left
  · intro w'
    go_simp
    with_reducible rfl
  rotate_left
  · simp only [Act.put, List.setIfInBounds_toArray, List.set_cons_zero, List.set_cons_succ, i64_w, i32_w]
    rfl
  refine pure_ (i := 4) (N := some 28) (v := ?_) (a' := ?_) #[false, true, true, true, true, false, false, false, false] rfl rfl (by kernel_rfl) (fun _ _ _ h => h) (Or.inl ⟨by rfl, ?_⟩) ?_ ?_
  rotate_left
  · intro w'
    go_simp
    with_reducible rfl
  rotate_left
  · simp only [Act.put, List.setIfInBounds_toArray, List.set_cons_zero, List.set_cons_succ, i64_w, i32_w]
    rfl
  refine take_ (i := 0) (N := some 24) (v := ?_) (a' := ?_) #[true, true, true, true, true, false, false, false, false] rfl rfl (by kernel_rfl) (fun _ _ _ h => h) (Or.inl ⟨by rfl, ?_⟩) hHeld ?_ ?_
  rotate_left
  · rintro w' ⟨s0, s1, s2, s3, s4, s5, s6, s7⟩
    go_simp
    with_reducible rfl
  rotate_left
  · simp only [Act.put, List.setIfInBounds_toArray, List.set_cons_zero, List.set_cons_succ, i64_w, i32_w]
    rfl
  refine one_ (i := 5) (N := some 29) #[true, true, true, true, true, true, false, false, false] rfl rfl (by kernel_rfl) (by decide) (fun K hK => ?_)
  refine goes_ Try.func52 (by kernel_rfl) rfl #[.slice (some ⟨g, 0, none⟩) l0.length c, .int .i64 k, .int .i64 (wrap64 ((k : Int) + 1))] (by rfl) rfl rfl (by (try simp only [List.map_toArray, List.map_cons, List.map_nil]); first | done | rfl) ?_
  refine (delete_msgW (Kd.tag f k29) rfl g l0.length c k _ l0.zipIdx w3 HO3.out HK.out HBASE.out).mono ?_
  rintro e w4 ⟨rfl, hR, hb, hfar⟩
  refine ⟨_, rfl, ?_⟩
  have HO4 := Aside0.mk hR
  have HY4 := Aside0.mk ((hfar _ (blk_lt HY3.out) (fun e => by have := HLT.out; omega)).trans HY3.out)
  have HX4 := Aside0.mk ((hfar _ (blk_lt HX3.out) (fun e => by have := HLG.out; simp only [World.size_alloc] at this; omega)).trans HX3.out)
  have H74 := Aside0.mk (R_rowfarG H73.out HG3.out (by intro q hq; simp [Kd.string, Kd.scalar] at hq; subst hq; decide) hfar)
  have HB4 := Aside0.mk (HB3.out.trans (hb.mono (by simp)))
  clear hR hb hfar
  refine hK.out _ _ ⟨(blk_cell HY4.out 0).trans rfl, (blk_cell HY4.out 1).trans rfl, (blk_cell HY4.out 2).trans rfl, (blk_cell HY4.out 3).trans rfl, (blk_cell HY4.out 4).trans rfl, (blk_cell HY4.out 5).trans rfl, (blk_cell HY4.out 6).trans rfl, (blk_cell HY4.out 7).trans rfl⟩ (fun hHeld => ?_)
  clear hK K
  refine norm_ (a' := ?_) ?_ ?_
  rotate_left
  · show Act.put _ (some 29) _ = _
    simp only [Act.put, List.setIfInBounds_toArray, List.set_cons_zero, List.set_cons_succ, i64_w, i32_w]
    rfl
  refine last_ (i := 6) (N := none) #[true, true, true, true, true, true, true, false, false] rfl rfl (by kernel_rfl) (by decide) (fun K hK => ?_)
  refine skip_ (w1 := (w4).setCells (w.heap.size) 0 (blkQ x.f0 x.f1 x.f2 x.f3 x.f4 x.f5 x.f6 (.slice A7 x.f7.length c7)).toList) (by rfl) rfl (Go.Proofs.Ytfejidinfcmfjaa.CallV.storeRun_ (pv := .pointer (some ⟨w.heap.size, 0, none⟩)) (xv := .agg (blkQ x.f0 x.f1 x.f2 x.f3 x.f4 x.f5 x.f6 (.slice A7 x.f7.length c7))) rfl rfl rfl (store_msgQ HX4.out rfl x.f0 x.f1 x.f2 x.f3 x.f4 x.f5 x.f6 (.slice A7 x.f7.length c7) rfl).1) ?_
  refine hK.out _ _ ?_
  clear hK K
  refine pure_ (i := 7) (N := some 5) (v := ?_) (a' := ?_) #[true, true, true, true, true, true, true, true, false] rfl rfl (by kernel_rfl) (fun _ _ _ h => h) (Or.inl ⟨by rfl, ?_⟩) ?_ ?_
  rotate_left
  · intro w'
    go_simp
    with_reducible rfl
  rotate_left
  · simp only [Act.put, List.setIfInBounds_toArray, List.set_cons_zero, List.set_cons_succ, i64_w, i32_w]
    rfl
  refine pure_ (i := 8) (N := some 6) (v := ?_) (a' := ?_) #[true, true, true, true, true, true, true, true, true] rfl rfl (by kernel_rfl) (fun _ _ _ h => h) (Or.inl ⟨by rfl, ?_⟩) ?_ ?_
  rotate_left
  · intro w'
    go_simp
    with_reducible rfl
  rotate_left
  · simp only [Act.put, List.setIfInBounds_toArray, List.set_cons_zero, List.set_cons_succ, i64_w, i32_w]
    rfl
  refine done_ (by kernel_rfl) ?_
  obtain ⟨w5, hw_⟩ : ∃ x_, x_ = w4.setCells w.heap.size 0 (blkQ x.f0 x.f1 x.f2 x.f3 x.f4 x.f5 x.f6 (.slice A7 x.f7.length c7)).toList := ⟨_, rfl⟩
  rw [← hw_]
  have HX5 := Aside0.mk (show w5.heap[w.heap.size]? = some (.cells (blkQ x.f0 x.f1 x.f2 x.f3 x.f4 x.f5 x.f6 (.slice A7 x.f7.length c7)) 29 (0, 0)) by rw [hw_]; exact (store_msgQ HX4.out rfl x.f0 x.f1 x.f2 x.f3 x.f4 x.f5 x.f6 (.slice A7 x.f7.length c7) rfl).2)
  have HB5 := Aside0.mk (show Below w.heap.size w w5 by rw [hw_]; exact below_cellsQ HB4.out (Nat.le_refl _) _)
  have H75 := Aside0.mk (show Kd.R Kd.string 9 w5 _ (fun q => q ≠ g ∧ f q = k) _ _ by rw [hw_]; exact R_cellsG H74.out HX4.out (by intro q hq; simp [Kd.string, Kd.scalar] at hq; subst hq; decide) _)
  have HO5 := Aside0.mk (show (Kd.tag f k29).R 29 w5 _ (fun _ => True) _ _ by rw [hw_]; exact R_step_new HO4.out (by simp) _ _)
  have z0 := blk_cell HX5.out 0
  have z1 := blk_cell HX5.out 1
  have z2 := blk_cell HX5.out 2
  have z3 := blk_cell HX5.out 3
  have z4 := blk_cell HX5.out 4
  have z5 := blk_cell HX5.out 5
  have z6 := blk_cell HX5.out 6
  have z7 := blk_cell HX5.out 7
  simp only [blkQ, List.getElem?_toArray, List.getElem?_cons_zero, List.getElem?_cons_succ] at z0 z1 z2 z3 z4 z5 z6 z7
  clear hHeld hw_
  go_wp2
  refine bodyPost_ret (v := .tuple #[.agg #[.int .i64 x.f0, .int .i64 x.f1, .int .i64 x.f2, .int .i64 x.f3, .int .i64 x.f4, .int .i64 x.f5, .int .i64 x.f6, .slice A7 x.f7.length c7], .slice (some ⟨g, 0, none⟩) (l0.length - 1) c, .bool true]) ?_ rfl ⟨_, _, rfl, Kd.R_mono (Kd.R_lower H75.out (by simp)) (fun _ _ => trivial), Kd.R_lower (apart_rest HO5.out H75.out.1) (by simp), HB5.out⟩
  simp [results, Try.results17, go_sem, z0, z1, z2, z3, z4, z5, z6, z7]

theorem net_TakeS.calls (A0 : Option Addr) (c0 : Nat) (l0 : List S29) (a1 : Int) (r1 : S29) (r2 : List S29) (r3 : Bool) (w : World) (hr0 : Kd.C k29 w A0 l0.length l0) (hc0 : l0.length ≤ c0) (h : net_TakeS.f l0 a1 = some (r1, r2, r3)) :
    Calls Try.prog 17 #[.slice A0 l0.length c0, .int .i64 a1] w fun e w' => ∃ v7_ v8_ : Value, e = .returned (.tuple #[.agg #[.int .i64 r1.f0, .int .i64 r1.f1, .int .i64 r1.f2, .int .i64 r1.f3, .int .i64 r1.f4, .int .i64 r1.f5, .int .i64 r1.f6, v7_], v8_, .bool r3]) ∧ Kd.R Kd.string 9 w' w.heap.size (fun _ => True) v7_ r1.f7 ∧ Kd.R k29 29 w' w.heap.size (fun q => some q ≠ (v7_ : Value).ownBlock) v8_ r2 ∧ Below w.heap.size w w' := by
  unfold net_TakeS.f at h
  split at h
  rotate_left
  · cases h
  rename_i hl
  have hf : net_own.f l0 = some l0 := by unfold net_own.f; rw [if_pos hl]
  have h2 := Option.some.inj h
  unfold takeM at h2
  by_cases ho : a1 < 0 ∨ a1 ≥ (l0.length : Int)
  · rw [if_pos ho] at h2
    cases h2
    exact net_Take_out A0 c0 l0 a1 w hr0 hc0 ho
  · rw [if_neg ho] at h2
    cases h2
    obtain ⟨k, rfl⟩ : ∃ k : Nat, a1 = (k : Int) := ⟨a1.toNat, by omega⟩
    exact net_Take_in A0 c0 l0 k _ w hr0 hc0 (by omega) rfl hf

/-- The same, field by field. -/
def net_Take.f (l : List S29) (a1 : Int) : Option (Int × Int × Int × Int × Int × Int × Int × List ByteArray × List S29 × Bool) :=
  (net_TakeS.f l a1).map (fun r => (r.1.f0, r.1.f1, r.1.f2, r.1.f3, r.1.f4, r.1.f5, r.1.f6, r.1.f7, r.2.1, r.2.2))
theorem net_Take.calls (A0 : Option Addr) (c0 : Nat) (l0 : List S29) (a1 : Int) (r1 r2 r3 r4 r5 r6 r7 : Int) (r8 : List ByteArray) (r9 : List S29) (r10 : Bool) (w : World) (hr0 : Kd.C k29 w A0 l0.length l0) (hc0 : l0.length ≤ c0) (h : net_Take.f l0 a1 = some (r1, r2, r3, r4, r5, r6, r7, r8, r9, r10)) :
    Calls Try.prog 17 #[.slice A0 l0.length c0, .int .i64 a1] w fun e w' => ∃ v7_ v8_ : Value, e = .returned (.tuple #[.agg #[.int .i64 r1, .int .i64 r2, .int .i64 r3, .int .i64 r4, .int .i64 r5, .int .i64 r6, .int .i64 r7, v7_], v8_, .bool r10]) ∧ Kd.R Kd.string 9 w' w.heap.size (fun _ => True) v7_ r8 ∧ Kd.R k29 29 w' w.heap.size (fun q => some q ≠ (v7_ : Value).ownBlock) v8_ r9 ∧ Below w.heap.size w w' := by
  unfold net_Take.f at h
  obtain ⟨⟨x, l, b⟩, h1, h2⟩ := Option.map_eq_some_iff.1 h
  simp only [Prod.mk.injEq] at h2
  obtain ⟨rfl, rfl, rfl, rfl, rfl, rfl, rfl, rfl, rfl, rfl⟩ := h2
  exact net_TakeS.calls A0 c0 l0 a1 x l b w hr0 hc0 h1
end Go.Proofs.Ytfejidinfcmfjaa.P
