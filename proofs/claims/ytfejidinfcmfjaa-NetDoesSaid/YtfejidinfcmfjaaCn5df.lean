/-
  Texts that the claims of this chapter share, joined.
-/
import Derived.LoopTactic
import Derived.Test.YtfejidinfcmfjaaCn5db
import Derived.Test.YtfejidinfcmfjaaPx0
set_option linter.unusedVariables false
set_option linter.unusedSimpArgs false
/-
  sextonlaw25.smudge, by hand: it writes into the row's own memory alone.
-/
namespace Go.Proofs.Ytfejidinfcmfjaa.P
open Go.RowKit Go.Proofs.YtfejidinfcmfjaaW.PrintWords Go.Proofs.YtfejidinfcmfjaaW.PrintLast Go.Proofs.YtfejidinfcmfjaaW.PrintMore Go.Proofs.Plain

/-- Steps of a smudge, in blocks from b on: cells of texts, and numbers of messages. -/
inductive Smu (b : Nat) (w : World) : World → Prop where
  | refl : Smu b w w
  | text {W : World} {g : Nat} {cs : Array Value} (h : Smu b w W) (hc : W.heap[g]? = some (.cells cs 9 (0, 0))) (hb : b ≤ g) (j : Nat) (v : Value) : Smu b w (W.setCell ⟨g, j, none⟩ v)
  | numb {W : World} {g : Nat} {cs : Array Value} (h : Smu b w W) (hc : W.heap[g]? = some (.cells cs 29 (0, 0))) (hb : b ≤ g) (i : Nat) (v : Value) : Smu b w (W.setCell ⟨g, i * 8 + 6, none⟩ v)
theorem Smu.trans {b : Nat} {w W W' : World} (h : Smu b w W) (h' : Smu b W W') : Smu b w W' := by
  induction h' with
  | refl => exact h
  | text _ hc hb j v ih => exact ih.text hc hb j v
  | numb _ hc hb j v ih => exact ih.numb hc hb j v
theorem Smu.bel {b : Nat} {w W : World} (h : Smu b w W) : Below b w W := by
  induction h with
  | refl => exact Below.refl _ _
  | text _ hc hb j v ih => exact ih.setCell (p := ⟨_, j, none⟩) hb v
  | numb _ hc hb i v ih => exact ih.setCell (p := ⟨_, i * 8 + 6, none⟩) hb v
/-- A block of another kind stays. -/
theorem Smu.kept {b : Nat} {w W : World} (h : Smu b w W) {x t : Nat} {cur : Array Value} (hx : w.heap[x]? = some (.cells cur t (0, 0))) (h1 : t ≠ 9) (h2 : t ≠ 29) : W.heap[x]? = some (.cells cur t (0, 0)) := by
  induction h with
  | refl => exact hx
  | text _ hc hb j v ih => exact blk_far ih (p := ⟨_, j, none⟩) (blk_ne ih hc h1) v
  | numb _ hc hb i v ih => exact blk_far ih (p := ⟨_, i * 8 + 6, none⟩) (blk_ne ih hc h2) v
/-- What a smudge leans on. -/
structure SmG (W : World) (base g : Nat) (l : List S29) (F : Nat → Option Addr × Nat) : Prop where
  row : ∃ cur, W.heap[g]? = some (.cells cur 29 (0, 0)) ∧ l.length * 8 ≤ cur.size ∧ ∀ q, q < l.length → cur[q * 8 + 7]? = some (.slice (F q).1 (l.getD q z29).f7.length (F q).2)
  inn : ∀ q, q < l.length → 0 < (l.getD q z29).f7.length → ∃ h cs, (F q).1 = some ⟨h, 0, none⟩ ∧ base ≤ h ∧ W.heap[h]? = some (.cells cs 9 (0, 0)) ∧ (l.getD q z29).f7.length ≤ cs.size
  mx : ∀ q, q < l.length → (l.getD q z29).f7.length ≤ 9223372036854775807
  low : base ≤ g
theorem SmG.start {W : World} {base : Nat} {A : Option Addr} {c : Nat} {l : List S29} (h : Kd.R k29 29 W base (fun _ => True) (.slice A l.length c) l) (hl : 0 < l.length) : ∃ g F, A = some ⟨g, 0, none⟩ ∧ SmG W base g l F := by
  obtain ⟨g, cur, F, hA, hq⟩ := rowQ h hl
  refine ⟨g, F, hA, ⟨cur, hq.blk, ?_, fun q hq' => hq.at_ q hq' 7 _ rfl⟩, fun q hq' h0 => ?_, fun q hq' => Kd.C_max (Kd.R_reads' (hq.txt q hq')).2.2, hq.low⟩
  · have h7 := hq.at_ (l.length - 1) (by omega) 7 _ rfl
    have := (Array.getElem?_eq_some_iff.1 h7).1
    omega
  · obtain ⟨hh, cap, hv, hb, hlt, -⟩ := Kd.R_form (hq.txt q hq') h0
    injection hv with ha _ hc
    have htx := hq.txt q hq'
    rw [ha, hc] at htx
    obtain ⟨cs, h1, h2⟩ := R_room htx
    have hle := (Kd.R_reads' htx).2.1
    exact ⟨hh, cs, ha, hb, h1, by rw [h2, show Kd.string.sz = 1 from rfl, Nat.mul_one]; exact hle⟩
theorem SmG.text {W : World} {base g : Nat} {l : List S29} {F : Nat → Option Addr × Nat} (h : SmG W base g l F) {hh : Nat} {cs : Array Value} (hc : W.heap[hh]? = some (.cells cs 9 (0, 0))) (j : Nat) (v : Value) : SmG (W.setCell ⟨hh, j, none⟩ v) base g l F := by
  obtain ⟨cur, h1, h2, h3⟩ := h.row
  refine ⟨⟨cur, blk_far h1 (p := ⟨hh, j, none⟩) (blk_ne h1 hc (by decide)) v, h2, h3⟩, fun q hq h0 => ?_, h.mx, h.low⟩
  obtain ⟨h', cs', e1, e2, e3, e4⟩ := h.inn q hq h0
  by_cases he : h' = hh
  · subst he
    rw [hc] at e3
    cases e3
    exact ⟨h', _, e1, e2, blk_set hc j v, by rw [Array.size_setIfInBounds]; exact e4⟩
  · exact ⟨h', cs', e1, e2, blk_far e3 (p := ⟨hh, j, none⟩) he v, e4⟩
theorem SmG.numb {W : World} {base g : Nat} {l : List S29} {F : Nat → Option Addr × Nat} (h : SmG W base g l F) {g' : Nat} {cs : Array Value} (hc : W.heap[g']? = some (.cells cs 29 (0, 0))) (i : Nat) (v : Value) : SmG (W.setCell ⟨g', i * 8 + 6, none⟩ v) base g l F := by
  obtain ⟨cur, h1, h2, h3⟩ := h.row
  refine ⟨?_, fun q hq h0 => ?_, h.mx, h.low⟩
  · by_cases he : g = g'
    · subst he
      refine ⟨cur.setIfInBounds (i * 8 + 6) v, blk_set h1 _ v, by rw [Array.size_setIfInBounds]; exact h2, fun q hq => ?_⟩
      rw [Array.getElem?_setIfInBounds, if_neg (by omega)]
      exact h3 q hq
    · exact ⟨cur, blk_far h1 (p := ⟨g', i * 8 + 6, none⟩) he v, h2, h3⟩
  · obtain ⟨h', cs', e1, e2, e3, e4⟩ := h.inn q hq h0
    exact ⟨h', cs', e1, e2, blk_far e3 (p := ⟨g', i * 8 + 6, none⟩) (blk_ne e3 hc (by decide)) v, e4⟩
theorem SmG.smu {b : Nat} {w W : World} (hs : Smu b w W) {base g : Nat} {l : List S29} {F : Nat → Option Addr × Nat} (h : SmG w base g l F) : SmG W base g l F := by
  induction hs with
  | refl => exact h
  | text _ hc hb j v ih => exact ih.text hc j v
  | numb _ hc hb i v ih => exact ih.numb hc i v

/-- A row that may be smudged. -/
def Sm (W : World) (base : Nat) (A : Option Addr) (l : List S29) : Prop := l.length ≤ 9223372036854775807 ∧ (0 < l.length → ∃ g F, A = some ⟨g, 0, none⟩ ∧ SmG W base g l F)
theorem Sm.of {W : World} {base : Nat} {A : Option Addr} {c : Nat} {l : List S29} (h : Kd.R k29 29 W base (fun _ => True) (.slice A l.length c) l) : Sm W base A l :=
  ⟨Kd.C_max (Kd.R_reads' h).2.2, fun hl => SmG.start h hl⟩
theorem Sm.smu {b : Nat} {w W : World} {base : Nat} {A : Option Addr} {l : List S29} (h : Sm w base A l) (hs : Smu b w W) : Sm W base A l :=
  ⟨h.1, fun hl => by obtain ⟨g, F, e, hg⟩ := h.2 hl; exact ⟨g, F, e, hg.smu hs⟩⟩

set_option maxHeartbeats 4000000 in
theorem smudge_calls (A : Option Addr) (c base : Nat) (l : List S29) (w : World) (h : Sm w base A l) :
    Calls Try.prog 28 #[.slice A l.length c] w fun e w' => e = .returned (.tuple #[]) ∧ Smu base w w' := by
  obtain ⟨hmax, h⟩ := h
  by_cases hl : 0 < l.length
  rotate_left
  · obtain rfl : l = [] := by cases l with | nil => rfl | cons x r => simp at hl
    clear h
    go_enter Try.func28, Try.ntmps28
    go_wp2
    go_loopw [2] (fun i wr => i = .int .i64 0 ∧ wr = w) (fun _ _ => 0)
    case atStart => exact ⟨rfl, rfl⟩
    case round =>
      obtain ⟨rfl, rfl⟩ := hrel
      go_wp2
      go_end0
      exact ⟨rfl, .refl⟩
  · obtain ⟨g, F, hA, hs⟩ := h hl
    subst hA
    have HM := Aside0.mk hs
    have HS := Aside0.mk (Smu.refl (b := base) (w := w))
    clear h hs
    go_enter Try.func28, Try.ntmps28
    go_wp2
    go_loopw [2] (fun i wr => ∃ k : Nat, k ≤ l.length ∧ i = .int .i64 k ∧ Aside0 (Smu base w wr)) (fun i _ => l.length - (intOf i).toNat)
    case atStart => exact ⟨0, Nat.zero_le _, rfl, HS⟩
    case round =>
      clear HS
      obtain ⟨k, hk, rfl, HS⟩ := hrel
      by_cases hlt : k < l.length
      · obtain ⟨wo, hwo⟩ : ∃ wo, wo = wr := ⟨_, rfl⟩
        subst hwo
        obtain ⟨n, hn⟩ : ∃ n, n = (l.getD k z29).f7.length := ⟨_, rfl⟩
        have HN := Aside0.mk hn
        clear hn
        go_wp2
        go_loopw [3] (fun i wr => ∃ j : Nat, i = .int .i64 j ∧ j ≤ n ∧ Aside0 (Smu base w wr)) (fun i _ => n - (intOf i).toNat)
        case atStart => exact ⟨0, rfl, Nat.zero_le _, HS⟩
        case round =>
          clear HS
          obtain ⟨j, rfl, hj, HS⟩ := hrel
          have hm := HM.out.smu HS.out
          obtain ⟨cur, h1, h2, h3⟩ := hm.row
          have q7 := (blk_cell h1 (k * 8 + 7)).trans (h3 k hlt)
          rw [← HN.out] at q7
          by_cases hjn : j < n
          · obtain ⟨hh, cs, e1, e2, e3, e4⟩ := hm.inn k hlt (by rw [← HN.out]; omega)
            rw [e1] at q7
            have x1 := blk_cell e3 j
            rw [Array.getElem?_eq_getElem (by have := HN.out; omega)] at x1
            have f1 := blk_frozen e3 j
            have hmx := hm.mx k hlt
            rw [← HN.out] at hmx
            have HS2 := Aside0.mk (HS.out.text e3 e2 j (.string ⟨#[115, 109, 117, 100, 103, 101]⟩))
            generalize cs[j]'_ = vv at x1
            clear h1 h2 h3 e1 e2 e3 e4 hm
            go_wp2
            go_roundw
            case rel => exact ⟨j + 1, by go_num, hjn, HS2⟩
            case measure => simp [intOf]; omega
          · obtain rfl : n = j := by omega
            have x6 := blk_cell h1 (k * 8 + 6)
            have hlt2 : k * 8 + 6 < cur.size := by omega
            rw [Array.getElem?_eq_getElem hlt2] at x6
            have f6 := blk_frozen h1 (k * 8 + 6)
            have HS2 := Aside0.mk (HS.out.numb h1 hm.low k (.int .i64 (-7)))
            generalize cur[k * 8 + 6]'_ = vv at x6
            clear h1 h2 h3 hjn hj hm
            go_wp2
            go_roundw
            case rel => exact ⟨k + 1, hlt, by go_num, HS2⟩
            case measure => simp [intOf]; omega
      · obtain rfl : k = l.length := by omega
        clear hlt hk
        go_wp2
        go_end0
        exact ⟨rfl, HS.out⟩

/-! ### Rows of rows -/
/-- A row of rows, each of which may be smudged. -/
structure SmS (W : World) (base gs : Nat) (cur : Array Value) (s : List (List S29)) (G : Nat → Option Addr × Nat) : Prop where
  blk : W.heap[gs]? = some (.cells cur 22 (0, 0))
  at_ : ∀ q, q < s.length → cur[q]? = some (.slice (G q).1 (s.getD q []).length (G q).2)
  sm : ∀ q, q < s.length → Sm W base (G q).1 (s.getD q [])
theorem SmS.of {W : World} {base : Nat} {A : Option Addr} {c : Nat} {s : List (List S29)} (h : Kd.R (Kd.slice 29 k29) 22 W base (fun _ => True) (.slice A s.length c) s) (hs : 0 < s.length) : ∃ gs cur G, A = some ⟨gs, 0, none⟩ ∧ SmS W base gs cur s G := by
  obtain ⟨g, cap, hv, hbg, hgl, -⟩ := Kd.R_form h hs
  injection hv with hA _ hc
  subst hA; subst hc
  obtain ⟨cur, hcur, -⟩ := R_room h
  have key : ∀ q, ∃ p : Option Addr × Nat, q < s.length → cur[q]? = some (.slice p.1 (s.getD q []).length p.2) ∧ Sm W base p.1 (s.getD q []) := by
    intro q
    by_cases hq : q < s.length
    · obtain ⟨cs, hcl, hM, hcc, hfz⟩ := Kd.R_elem h [] (q : Int) (by omega) (by omega)
      rw [Int.toNat_natCast] at hM hcc
      obtain ⟨v, hcs, hv⟩ := hM
      obtain ⟨A7, c7, rfl⟩ := Kd.R_slice hv
      subst hcs
      refine ⟨(A7, c7), fun _ => ⟨?_, Sm.of (Kd.R_mono hv (fun _ _ => trivial))⟩⟩
      have := hcc 0 _ rfl
      rw [blk_cell hcur, show (Kd.slice 29 k29).sz = 1 from rfl, Nat.mul_one] at this
      exact this
    · exact ⟨(none, 0), fun h' => absurd h' hq⟩
  obtain ⟨G, hG⟩ := Classical.axiomOfChoice key
  exact ⟨g, cur, G, rfl, hcur, fun q hq => (hG q hq).1, fun q hq => (hG q hq).2⟩
end Go.Proofs.Ytfejidinfcmfjaa.P
-- Written by a program of this session (xprint.py) over the kit's print.py.
namespace Go.Proofs.Ytfejidinfcmfjaa.P
open Go.RowKit Go.Proofs.YtfejidinfcmfjaaW.PrintWords Go.Proofs.YtfejidinfcmfjaaW.PrintLast Go.Proofs.YtfejidinfcmfjaaW.PrintMore
attribute [local go_sem] max2_int min2_int max_two min_two max_three min_three max_four min_four   -- for this text's walks alone
set_option linter.unusedVariables false
set_option linter.unusedSimpArgs false

/-! ### sextonref01_Own: function 73 -/
def sextonref01_Own.f (l0 : List ByteArray) : Option (List ByteArray) := if ([] : List ByteArray).length + l0.length < 8796093022208 then (some (([] : List ByteArray) ++ l0)) else (none)
set_option maxHeartbeats 8000000 in
set_option maxRecDepth 100000 in
theorem sextonref01_Own.calls (A0 : Option Addr) (c0 : Nat) (l0 : List ByteArray) (r : List ByteArray) (w : World) (hr0 : Kd.C Kd.string w A0 l0.length l0) (hc0 : l0.length ≤ c0) (h : sextonref01_Own.f l0 = some r) :
    Calls Try.prog 73 #[.slice A0 l0.length c0] w fun e w' => ∃ v0_ : Value, e = .returned (v0_) ∧ Kd.R Kd.string 9 w' w.heap.size (fun _ => True) v0_ r ∧ Below w.heap.size w w' := by
  have HR0 := Aside0.mk hr0
  have HC0 := Aside0.mk hc0
  clear hr0 hc0
  have HB := Aside0.mk (Below.refl w.heap.size w)
  have H : (if ([] : List ByteArray).length + l0.length < 8796093022208 then (some (([] : List ByteArray) ++ l0)) else (none)) = some r := h
  clear h
  by_cases c2 : ([] : List ByteArray).length + l0.length < 8796093022208
  · rw [if_pos c2] at H
    have LMc2 := Aside0.mk c2
    clear c2
    obtain ⟨y105, hy105⟩ : ∃ y_ : List ByteArray, y_ = (([] : List ByteArray) ++ l0) := ⟨_, rfl⟩
    replace H : (some y105) = some r := by first | (rw [hy105]; with_reducible exact H) | (have H2_ := (Option.bind_some _ _).symm.trans H; rw [hy105]; with_reducible exact H2_) | (have H2_ := (Option.bind_some _ _).symm.trans H; with_reducible exact H2_) | with_reducible exact H | (rw [hy105]; exact H) | exact H
    have Ny105 := Aside0.mk hy105
    clear hy105
    obtain rfl := Option.some.inj H
    go_enter Try.func73, Try.ntmps73
    go_wp2_with (first | ((with_reducible refine gate_builtin (b := .append) (xs := #[.tmp 4, .tmp 5]) rfl ?_); at_builtin; refine Kd.R_append_rows Kd.string (w0 := w) w.heap.size rfl (.tmp 4) (.tmp 5) 27 9 (.string ⟨#[]⟩) 16 rfl Try.underlying27 info9 rfl (by decide) (by omega) (.slice none 0 0) ([] : List ByteArray) l0 _ _ _ (fun _ => True) (fun _ => False) rfl rfl ?aO ?aR (fun _ _ h => h) (fun _ h => h.elim) ?aF ?aB ?aS ?aL ?_; (case aR => repeat (first | exact HR0.out | (with_reducible refine Kd.C_alloc ?_ _) | (with_reducible refine Kd.C_drewN ?_ _) | (with_reducible refine Kd.C_drew ?_))); (case aB => exact (by repeat (first | (with_reducible first | exact HB.out | apply below_alloc | apply pw_below_drewN | apply below_drew1) | exact HB.out))); (case aF => exact (fun _ _ => trivial)); (case aO => exact ((Kd.R_nil _ _ _ _ (fun _ => True)))); (case aS => exact (below_size (by repeat (first | (with_reducible first | exact HB.out | apply below_alloc | apply pw_below_drewN | apply below_drew1) | exact HB.out)))); (case aL => have := LMc2.out; omega); intro v106 w3 ho hb hg hat; rw [← Ny105.out] at ho; have n0_ := Aside0.mk (hb); have n1_ := Aside0.mk (ho); clear HB; have HB := n0_; have HO107 := n1_; clear n0_ n1_; clear ho hb hg hat))
    go_ret
    exact ⟨_, by first | rfl | (simp [errW_none, errW_some] <;> rfl) | (simp [*, errW_none, errW_some] <;> rfl), by (with_reducible repeat (first | apply Kd.R_alloc | apply Kd.R_drewN | apply Kd.R_drew)); exact HO107.out, by repeat (first | (with_reducible first | exact HB.out | apply below_alloc | apply pw_below_drewN | apply below_drew1) | exact HB.out)⟩
  · rw [if_neg c2] at H
    exact absurd H (by simp)

end Go.Proofs.Ytfejidinfcmfjaa.P
-- Written by a program of this session (xprint.py) over the kit's print.py.
namespace Go.Proofs.Ytfejidinfcmfjaa.P
open Go.RowKit Go.Proofs.YtfejidinfcmfjaaW.PrintWords Go.Proofs.YtfejidinfcmfjaaW.PrintLast Go.Proofs.YtfejidinfcmfjaaW.PrintMore
attribute [local go_sem] max2_int min2_int max_two min_two max_three min_three max_four min_four   -- for this text's walks alone
set_option linter.unusedVariables false
set_option linter.unusedSimpArgs false

/-! ### sextonref25_own: function 49 -/
def sextonref25_own.f (a0_0 : Int) (a0_1 : Int) (a0_2 : Int) (a0_3 : Int) (a0_4 : Int) (a0_5 : Int) (a0_6 : Int) (l0_7 : List ByteArray) : Option (Int × Int × Int × Int × Int × Int × Int × List ByteArray) := (sextonref01_Own.f l0_7).bind fun t110 => (some (a0_0, a0_1, a0_2, a0_3, a0_4, a0_5, a0_6, t110))
set_option maxHeartbeats 8000000 in
set_option maxRecDepth 100000 in
theorem sextonref25_own.calls (a0_0 : Int) (a0_1 : Int) (a0_2 : Int) (a0_3 : Int) (a0_4 : Int) (a0_5 : Int) (a0_6 : Int) (A0_7 : Option Addr) (c0_7 : Nat) (l0_7 : List ByteArray) (r1 : Int) (r2 : Int) (r3 : Int) (r4 : Int) (r5 : Int) (r6 : Int) (r7 : Int) (r8 : List ByteArray) (w : World) (hr0_7 : Kd.C Kd.string w A0_7 l0_7.length l0_7) (hc0_7 : l0_7.length ≤ c0_7) (h : sextonref25_own.f a0_0 a0_1 a0_2 a0_3 a0_4 a0_5 a0_6 l0_7 = some (r1, r2, r3, r4, r5, r6, r7, r8)) :
    Calls Try.prog 49 #[.agg #[.int .i64 a0_0, .int .i64 a0_1, .int .i64 a0_2, .int .i64 a0_3, .int .i64 a0_4, .int .i64 a0_5, .int .i64 a0_6, .slice A0_7 l0_7.length c0_7]] w fun e w' => ∃ v7_ : Value, e = .returned (.agg #[.int .i64 r1, .int .i64 r2, .int .i64 r3, .int .i64 r4, .int .i64 r5, .int .i64 r6, .int .i64 r7, v7_]) ∧ Kd.R Kd.string 9 w' w.heap.size (fun _ => True) v7_ r8 ∧ Below w.heap.size w w' := by
  have hu29 := Try.underlying29
  have HR0_7 := Aside0.mk hr0_7
  have HC0_7 := Aside0.mk hc0_7
  clear hr0_7 hc0_7
  have HB := Aside0.mk (Below.refl w.heap.size w)
  have H : ((sextonref01_Own.f l0_7).bind fun t110 => (some (a0_0, a0_1, a0_2, a0_3, a0_4, a0_5, a0_6, t110))) = some (r1, r2, r3, r4, r5, r6, r7, r8) := h
  clear h
  replace H := Option.bind_eq_some_iff.mp H
  obtain ⟨t110, A20, H⟩ := H
  replace H : (some (a0_0, a0_1, a0_2, a0_3, a0_4, a0_5, a0_6, t110)) = some (r1, r2, r3, r4, r5, r6, r7, r8) := H
  have A2 := Aside0.mk A20
  clear A20
  simp only [Option.some.injEq, Prod.mk.injEq] at H
  obtain ⟨rfl, rfl, rfl, rfl, rfl, rfl, rfl, rfl⟩ := H
  go_enter Try.func49, Try.ntmps49
  go_wp2_with (first | ((with_reducible refine gate_dst (N := 1) rfl ?_); refine box_event ?hg (N := 1) ?hd (cs := #[.int .i64 a0_0, .int .i64 a0_1, .int .i64 a0_2, .int .i64 a0_3, .int .i64 a0_4, .int .i64 a0_5, .int .i64 a0_6, .slice A0_7 l0_7.length c0_7]) (t := 29) ?hr ?_; (case hd => rfl); (case hg => rfl); (case hr => first | (go_simp; done) | (go_simp; rfl)); intro gb108 hg w3 hbox hb; have n0_ := Aside0.mk (below_step (by repeat (first | (with_reducible first | exact HB.out | apply below_alloc | apply pw_below_drewN | apply below_drew1) | exact HB.out)) hb); have n1_ := Aside0.mk (hbox); have n2_ := Aside0.mk ((by rw [hg]; exact (below_size (by repeat (first | (with_reducible first | exact HB.out | apply below_alloc | apply pw_below_drewN | apply below_drew1) | exact HB.out))) : w.heap.size ≤ gb108)); have n3_ := Aside0.mk ((by rw [hg]; exact (below_size (by repeat (first | (with_reducible first | exact HB.out | apply below_alloc | apply pw_below_drewN | apply below_drew1) | exact HB.out))) : w.heap.size ≤ gb108)); clear HB; have HB := n0_; have BK108 := n1_; have GW108 := n2_; have GE108 := n3_; clear n0_ n1_ n2_ n3_; clear hb hbox hg) | ((with_reducible refine gate_dst (N := 2) rfl ?_); refine box_event ?hg (N := 2) ?hd (cs := #[.int .i64 0, .int .i64 0, .int .i64 0, .int .i64 0, .int .i64 0, .int .i64 0, .int .i64 0, .slice none 0 0]) (t := 29) ?hr ?_; (case hd => rfl); (case hg => rfl); (case hr => first | (go_simp; done) | (go_simp; rfl)); intro gb109 hg w4 hbox hb; have n0_ := Aside0.mk (blk_below (g := gb108) (o := .cells #[.int .i64 a0_0, .int .i64 a0_1, .int .i64 a0_2, .int .i64 a0_3, .int .i64 a0_4, .int .i64 a0_5, .int .i64 a0_6, .slice A0_7 l0_7.length c0_7] 29 (0, 0)) (by (with_reducible repeat (first | refine blk_drewN ?_ _ | refine blk_drew ?_ | refine blk_alloc ?_ _)); exact BK108.out) hb); have n1_ := Aside0.mk (below_step (by repeat (first | (with_reducible first | exact HB.out | apply below_alloc | apply pw_below_drewN | apply below_drew1 | refine below_set ?_ GE108.out) | exact HB.out)) hb); have n2_ := Aside0.mk (hbox); have n3_ := Aside0.mk ((by rw [hg]; exact (below_size (by repeat (first | (with_reducible first | exact HB.out | apply below_alloc | apply pw_below_drewN | apply below_drew1 | refine below_set ?_ GE108.out) | exact HB.out))) : w.heap.size ≤ gb109)); have n4_ := Aside0.mk ((by rw [hg]; exact (below_size (by repeat (first | (with_reducible first | exact HB.out | apply below_alloc | apply pw_below_drewN | apply below_drew1 | refine below_set ?_ GE108.out) | exact HB.out))) : w.heap.size ≤ gb109)); have n5_ := Aside0.mk ((by rw [hg]; exact Nat.ne_of_lt (blk_lt (g := gb108) (o := .cells #[.int .i64 a0_0, .int .i64 a0_1, .int .i64 a0_2, .int .i64 a0_3, .int .i64 a0_4, .int .i64 a0_5, .int .i64 a0_6, .slice A0_7 l0_7.length c0_7] 29 (0, 0)) (by (with_reducible repeat (first | refine blk_drewN ?_ _ | refine blk_drew ?_ | refine blk_alloc ?_ _)); exact BK108.out)) : gb108 ≠ gb109)); have n6_ := Aside0.mk ((by rw [hg]; exact Nat.ne_of_gt (blk_lt (g := gb108) (o := .cells #[.int .i64 a0_0, .int .i64 a0_1, .int .i64 a0_2, .int .i64 a0_3, .int .i64 a0_4, .int .i64 a0_5, .int .i64 a0_6, .slice A0_7 l0_7.length c0_7] 29 (0, 0)) (by (with_reducible repeat (first | refine blk_drewN ?_ _ | refine blk_drew ?_ | refine blk_alloc ?_ _)); exact BK108.out)) : gb109 ≠ gb108)); clear BK108; clear HB; have BK108 := n0_; have HB := n1_; have BK109 := n2_; have GW109 := n3_; have GE109 := n4_; have NB108_109 := n5_; have NB109_108 := n6_; clear n0_ n1_ n2_ n3_ n4_ n5_ n6_; clear hb hbox hg; have hnb5 := NB108_109.out; have hnc5 := NB109_108.out; have hcz6_0 : w4.cell? ⟨gb108, 0, none⟩ = some (.int .i64 a0_0) := (blk_cell BK108.out 0).trans rfl; have hcz6_1 : w4.cell? ⟨gb108, 1, none⟩ = some (.int .i64 a0_1) := (blk_cell BK108.out 1).trans rfl; have hcz6_2 : w4.cell? ⟨gb108, 2, none⟩ = some (.int .i64 a0_2) := (blk_cell BK108.out 2).trans rfl; have hcz6_3 : w4.cell? ⟨gb108, 3, none⟩ = some (.int .i64 a0_3) := (blk_cell BK108.out 3).trans rfl; have hcz6_4 : w4.cell? ⟨gb108, 4, none⟩ = some (.int .i64 a0_4) := (blk_cell BK108.out 4).trans rfl; have hcz6_5 : w4.cell? ⟨gb108, 5, none⟩ = some (.int .i64 a0_5) := (blk_cell BK108.out 5).trans rfl; have hcz6_6 : w4.cell? ⟨gb108, 6, none⟩ = some (.int .i64 a0_6) := (blk_cell BK108.out 6).trans rfl; have hcz6_7 : w4.cell? ⟨gb108, 7, none⟩ = some (.slice A0_7 l0_7.length c0_7) := (blk_cell BK108.out 7).trans rfl; have hfz6_0 := blk_frozen BK108.out 0; have hfz6_1 := blk_frozen BK108.out 1; have hfz6_2 := blk_frozen BK108.out 2; have hfz6_3 := blk_frozen BK108.out 3; have hfz6_4 := blk_frozen BK108.out 4; have hfz6_5 := blk_frozen BK108.out 5; have hfz6_6 := blk_frozen BK108.out 6; have hfz6_7 := blk_frozen BK108.out 7) | ((with_reducible refine gate_callee (f := 73) rfl ?_); refine goesL_ (some 5) rfl rfl Try.func73 (by kernel_rfl) rfl #[.slice A0_7 l0_7.length c0_7] rfl (by (try simp only [List.map_toArray, List.map_cons, List.map_nil]); first | done | rfl | (simp only [List.length_drop, List.length_take]; rfl)) ?_; (with_reducible refine (sextonref01_Own.calls _ _ l0_7 t110 _ ?side1 ?side2 A2.out).mono ?_); (case side1 => repeat (first | exact (Kd.C_below HR0_7.out HB.out) | (with_reducible refine Kd.C_alloc ?_ _) | (with_reducible refine Kd.C_drewN ?_ _) | (with_reducible refine Kd.C_drew ?_))); (case side2 => exact HC0_7.out); rintro e w7 ⟨v111, rfl, ho0, hb⟩; refine ⟨_, rfl, ?_⟩; have n0_ := Aside0.mk (Kd.R_lower ho0 (below_size (by repeat (first | (with_reducible first | exact HB.out | apply below_alloc | apply pw_below_drewN | apply below_drew1 | refine below_set ?_ GE108.out | refine below_set ?_ GE109.out) | exact HB.out)))); have n1_ := Aside0.mk (blk_below (g := gb108) (o := .cells #[.int .i64 a0_0, .int .i64 a0_1, .int .i64 a0_2, .int .i64 a0_3, .int .i64 a0_4, .int .i64 a0_5, .int .i64 a0_6, .slice A0_7 l0_7.length c0_7] 29 (0, 0)) (by (with_reducible repeat (first | refine blk_drewN ?_ _ | refine blk_drew ?_ | refine blk_alloc ?_ _)); exact BK108.out) hb); have n2_ := Aside0.mk (blk_below (g := gb109) (o := .cells #[.int .i64 0, .int .i64 0, .int .i64 0, .int .i64 0, .int .i64 0, .int .i64 0, .int .i64 0, .slice none 0 0] 29 (0, 0)) (by (with_reducible repeat (first | refine blk_drewN ?_ _ | refine blk_drew ?_ | refine blk_alloc ?_ _)); exact BK109.out) hb); have n3_ := Aside0.mk (below_step (by repeat (first | (with_reducible first | exact HB.out | apply below_alloc | apply pw_below_drewN | apply below_drew1 | refine below_set ?_ GE108.out | refine below_set ?_ GE109.out) | exact HB.out)) hb); clear BK108; clear BK109; clear HB; have HO112 := n0_; have BK108 := n1_; have BK109 := n2_; have HB := n3_; clear n0_ n1_ n2_ n3_; (try clear hb); (try clear hb2); (try clear hk); (try clear hi); (try clear ho0); obtain ⟨Ao8, co8, eo8⟩ := Kd.R_slice HO112.out; subst eo8; have hcz9_0 : w7.cell? ⟨gb108, 0, none⟩ = some (.int .i64 a0_0) := (blk_cell BK108.out 0).trans rfl; have hcz9_1 : w7.cell? ⟨gb108, 1, none⟩ = some (.int .i64 a0_1) := (blk_cell BK108.out 1).trans rfl; have hcz9_2 : w7.cell? ⟨gb108, 2, none⟩ = some (.int .i64 a0_2) := (blk_cell BK108.out 2).trans rfl; have hcz9_3 : w7.cell? ⟨gb108, 3, none⟩ = some (.int .i64 a0_3) := (blk_cell BK108.out 3).trans rfl; have hcz9_4 : w7.cell? ⟨gb108, 4, none⟩ = some (.int .i64 a0_4) := (blk_cell BK108.out 4).trans rfl; have hcz9_5 : w7.cell? ⟨gb108, 5, none⟩ = some (.int .i64 a0_5) := (blk_cell BK108.out 5).trans rfl; have hcz9_6 : w7.cell? ⟨gb108, 6, none⟩ = some (.int .i64 a0_6) := (blk_cell BK108.out 6).trans rfl; have hcz9_7 : w7.cell? ⟨gb108, 7, none⟩ = some (.slice A0_7 l0_7.length c0_7) := (blk_cell BK108.out 7).trans rfl; have hfz9_0 := blk_frozen BK108.out 0; have hfz9_1 := blk_frozen BK108.out 1; have hfz9_2 := blk_frozen BK108.out 2; have hfz9_3 := blk_frozen BK108.out 3; have hfz9_4 := blk_frozen BK108.out 4; have hfz9_5 := blk_frozen BK108.out 5; have hfz9_6 := blk_frozen BK108.out 6; have hfz9_7 := blk_frozen BK108.out 7; have hcz10_0 : w7.cell? ⟨gb109, 0, none⟩ = some (.int .i64 0) := (blk_cell BK109.out 0).trans rfl; have hcz10_1 : w7.cell? ⟨gb109, 1, none⟩ = some (.int .i64 0) := (blk_cell BK109.out 1).trans rfl; have hcz10_2 : w7.cell? ⟨gb109, 2, none⟩ = some (.int .i64 0) := (blk_cell BK109.out 2).trans rfl; have hcz10_3 : w7.cell? ⟨gb109, 3, none⟩ = some (.int .i64 0) := (blk_cell BK109.out 3).trans rfl; have hcz10_4 : w7.cell? ⟨gb109, 4, none⟩ = some (.int .i64 0) := (blk_cell BK109.out 4).trans rfl; have hcz10_5 : w7.cell? ⟨gb109, 5, none⟩ = some (.int .i64 0) := (blk_cell BK109.out 5).trans rfl; have hcz10_6 : w7.cell? ⟨gb109, 6, none⟩ = some (.int .i64 0) := (blk_cell BK109.out 6).trans rfl; have hcz10_7 : w7.cell? ⟨gb109, 7, none⟩ = some (.slice none 0 0) := (blk_cell BK109.out 7).trans rfl; have hfz10_0 := blk_frozen BK109.out 0; have hfz10_1 := blk_frozen BK109.out 1; have hfz10_2 := blk_frozen BK109.out 2; have hfz10_3 := blk_frozen BK109.out 3; have hfz10_4 := blk_frozen BK109.out 4; have hfz10_5 := blk_frozen BK109.out 5; have hfz10_6 := blk_frozen BK109.out 6; have hfz10_7 := blk_frozen BK109.out 7))
  refine bodyPost_ret (results_cell_row rfl _ _ gb109 29 #[.int .i64 a0_0, .int .i64 a0_1, .int .i64 a0_2, .int .i64 a0_3, .int .i64 a0_4, .int .i64 a0_5, .int .i64 a0_6, .slice Ao8 t110.length co8] (0, 0) _ rfl (by (with_reducible repeat (first | refine blk_drewN ?_ _ | refine blk_drew ?_ | refine blk_alloc ?_ _)); refine blk_put (cs := #[.int .i64 a0_0, .int .i64 a0_1, .int .i64 a0_2, .int .i64 a0_3, .int .i64 a0_4, .int .i64 a0_5, .int .i64 a0_6, .slice none 0 0]) ?_ 7 _ rfl; (with_reducible repeat (first | refine blk_drewN ?_ _ | refine blk_drew ?_ | refine blk_alloc ?_ _)); refine blk_put (cs := #[.int .i64 a0_0, .int .i64 a0_1, .int .i64 a0_2, .int .i64 a0_3, .int .i64 a0_4, .int .i64 a0_5, .int .i64 0, .slice none 0 0]) ?_ 6 _ rfl; (with_reducible repeat (first | refine blk_drewN ?_ _ | refine blk_drew ?_ | refine blk_alloc ?_ _)); refine blk_put (cs := #[.int .i64 a0_0, .int .i64 a0_1, .int .i64 a0_2, .int .i64 a0_3, .int .i64 a0_4, .int .i64 0, .int .i64 0, .slice none 0 0]) ?_ 5 _ rfl; (with_reducible repeat (first | refine blk_drewN ?_ _ | refine blk_drew ?_ | refine blk_alloc ?_ _)); refine blk_put (cs := #[.int .i64 a0_0, .int .i64 a0_1, .int .i64 a0_2, .int .i64 a0_3, .int .i64 0, .int .i64 0, .int .i64 0, .slice none 0 0]) ?_ 4 _ rfl; (with_reducible repeat (first | refine blk_drewN ?_ _ | refine blk_drew ?_ | refine blk_alloc ?_ _)); refine blk_put (cs := #[.int .i64 a0_0, .int .i64 a0_1, .int .i64 a0_2, .int .i64 0, .int .i64 0, .int .i64 0, .int .i64 0, .slice none 0 0]) ?_ 3 _ rfl; (with_reducible repeat (first | refine blk_drewN ?_ _ | refine blk_drew ?_ | refine blk_alloc ?_ _)); refine blk_put (cs := #[.int .i64 a0_0, .int .i64 a0_1, .int .i64 0, .int .i64 0, .int .i64 0, .int .i64 0, .int .i64 0, .slice none 0 0]) ?_ 2 _ rfl; (with_reducible repeat (first | refine blk_drewN ?_ _ | refine blk_drew ?_ | refine blk_alloc ?_ _)); refine blk_put (cs := #[.int .i64 a0_0, .int .i64 0, .int .i64 0, .int .i64 0, .int .i64 0, .int .i64 0, .int .i64 0, .slice none 0 0]) ?_ 1 _ rfl; (with_reducible repeat (first | refine blk_drewN ?_ _ | refine blk_drew ?_ | refine blk_alloc ?_ _)); refine blk_put (cs := #[.int .i64 0, .int .i64 0, .int .i64 0, .int .i64 0, .int .i64 0, .int .i64 0, .int .i64 0, .slice none 0 0]) ?_ 0 _ rfl; (with_reducible repeat (first | refine blk_drewN ?_ _ | refine blk_drew ?_ | refine blk_alloc ?_ _)); refine blk_far ?_ NB109_108.out _; (with_reducible repeat (first | refine blk_drewN ?_ _ | refine blk_drew ?_ | refine blk_alloc ?_ _)); exact BK109.out) Try.underlying29 rfl (by kernel_rfl)) rfl ?_
  exact ⟨_, by first | rfl | (simp [errW_none, errW_some] <;> rfl) | (simp [*, errW_none, errW_some] <;> rfl), by (with_reducible repeat (first | apply Kd.R_alloc | apply Kd.R_drewN | apply Kd.R_drew)); exact Kd.R_mono (Kd.R_far (p := ⟨gb109, 7, none⟩) (Kd.R_far (p := ⟨gb109, 6, none⟩) (Kd.R_far (p := ⟨gb109, 5, none⟩) (Kd.R_far (p := ⟨gb109, 4, none⟩) (Kd.R_far (p := ⟨gb109, 3, none⟩) (Kd.R_far (p := ⟨gb109, 2, none⟩) (Kd.R_far (p := ⟨gb109, 1, none⟩) (Kd.R_far (p := ⟨gb109, 0, none⟩) (Kd.R_far (p := ⟨gb108, 7, none⟩) (Kd.R_types (Kd.R_types HO112.out BK108.out (by decide)) BK109.out (by decide)) (fun _ hk => hk.1.2) (.slice Ao8 t110.length co8)) (fun _ hk => hk.2) (.int .i64 a0_0)) (fun _ hk => hk.2) (.int .i64 a0_1)) (fun _ hk => hk.2) (.int .i64 a0_2)) (fun _ hk => hk.2) (.int .i64 a0_3)) (fun _ hk => hk.2) (.int .i64 a0_4)) (fun _ hk => hk.2) (.int .i64 a0_5)) (fun _ hk => hk.2) (.int .i64 a0_6)) (fun _ hk => hk.2) (.slice Ao8 t110.length co8)) (fun _ hk => trivial), by repeat (first | (with_reducible first | exact HB.out | apply below_alloc | apply pw_below_drewN | apply below_drew1 | refine below_set ?_ GE108.out | refine below_set ?_ GE109.out) | exact HB.out)⟩

end Go.Proofs.Ytfejidinfcmfjaa.P
-- Written by a program of this session (xprint.py) over the kit's print.py.
namespace Go.Proofs.Ytfejidinfcmfjaa.P
open Go.RowKit Go.Proofs.YtfejidinfcmfjaaW.PrintWords Go.Proofs.YtfejidinfcmfjaaW.PrintLast Go.Proofs.YtfejidinfcmfjaaW.PrintMore
attribute [local go_sem] max2_int min2_int max_two min_two max_three min_three max_four min_four   -- for this text's walks alone
set_option linter.unusedVariables false
set_option linter.unusedSimpArgs false

/-! ### sextonref25_Own: function 14 -/
def sextonref25_Own.l0 : Nat → List (S29) → List (S29) → Int → Option ((List (S29)))
  | 0, _, _, _ => none
  | k + 1, x0, x3, x4 => if x4 < (x0.length : Int) then (if 0 ≤ x4 then ((sextonref25_own.f ((rd_T29 x0 x4).f0) ((rd_T29 x0 x4).f1) ((rd_T29 x0 x4).f2) ((rd_T29 x0 x4).f3) ((rd_T29 x0 x4).f4) ((rd_T29 x0 x4).f5) ((rd_T29 x0 x4).f6) ((rd_T29 x0 x4).f7)).bind fun bt114 => (if x3.length < 1759218604441 then (sextonref25_Own.l0 k x0 (x3 ++ [(⟨bt114.1, bt114.2.1, bt114.2.2.1, bt114.2.2.2.1, bt114.2.2.2.2.1, bt114.2.2.2.2.2.1, bt114.2.2.2.2.2.2.1, bt114.2.2.2.2.2.2.2⟩ : S29)]) (wrap64 (x4 + 1))) else (none))) else (none)) else (some x3)
def sextonref25_Own.f (k : Nat) (l0 : List (S29)) : Option ((List (S29))) := sextonref25_Own.l0 k l0 ([] : List (S29)) 0
set_option maxHeartbeats 8000000 in
set_option maxRecDepth 100000 in
theorem sextonref25_Own.calls (k : Nat) (A0 : Option Addr) (c0 : Nat) (l0 : List (S29)) (r : List (S29)) (w : World) (hr0 : Kd.C k29 w A0 l0.length l0) (hc0 : l0.length ≤ c0) (h : sextonref25_Own.f k l0 = some r) :
    Calls Try.prog 14 #[.slice A0 l0.length c0] w fun e w' => ∃ v0_ : Value, e = .returned (v0_) ∧ Kd.S k29 29 w' w.heap.size (fun _ => True) v0_ r ∧ Below w.heap.size w w' := by
  have hu29 := Try.underlying29
  have HR0 := Aside0.mk hr0
  have HC0 := Aside0.mk hc0
  clear hr0 hc0
  have HB := Aside0.mk (Below.refl w.heap.size w)
  have H : (sextonref25_Own.l0 k l0 ([] : List (S29)) 0) = some r := h
  clear h
  have H' := Aside0.mk H
  clear H
  go_enter Try.func14, Try.ntmps14
  go_wp2
  go_loopg [3, 4] k (fun kq v3 v4 w' => ∃ (x3_1 : List (S29)) (x4_1 : Int), v4 = .int .i64 x4_1 ∧ Aside0 (sextonref25_Own.l0 kq l0 x3_1 x4_1 = some r) ∧ Aside0 (kq ≤ k) ∧ Aside0 (Kd.S k29 29 w' w.heap.size (fun _ => True) v3 x3_1) ∧ Aside0 (Below w.heap.size w w'))
  case atStart => exact ⟨(([] : List (S29))), (0), (by first | rfl | (simp; done) | (simp [*]; done)), H', ⟨Nat.le_refl _⟩, ⟨by first | exact Kd.S_nil _ _ _ _ _ | exact Kd.N_nil _ _ _ _ _ | exact Kd.V_nil _ _ _ _ _ | exact Kd.Q_nil _ _ _ _ _ | exact Kd.R_nil _ _ _ _ _⟩, ⟨by repeat (first | (with_reducible first | exact HB.out | apply below_alloc | apply pw_below_drewN | apply below_drew1) | exact HB.out)⟩⟩
  case round =>
    clear H'
    try clear c1
    obtain ⟨x3_1, x4_1, rfl, HA, HK1, HO_3, HB⟩ := hrel
    cases gk with
    | zero => exact absurd HA.out (by simp [sextonref25_Own.l0])
    | succ k1 =>
      have H := HA.out
      clear HA
      simp only [sextonref25_Own.l0] at H
      by_cases c2 : x4_1 < (l0.length : Int)
      · rw [if_pos c2] at H
        have c2b0 : decide (x4_1 < (l0.length : Int)) = true := decide_eq_true c2
        clear c2
        by_cases c3 : 0 ≤ x4_1
        · rw [if_pos c3] at H
          have c3b0 : decide (0 ≤ x4_1) = true := decide_eq_true c3
          clear c3
          replace H := Option.bind_eq_some_iff.mp H
          obtain ⟨⟨t114, t115, t116, t117, t118, t119, t120, t121⟩, A40, H⟩ := H
          replace H : (if x3_1.length < 1759218604441 then (sextonref25_Own.l0 k1 l0 (x3_1 ++ [(⟨t114, t115, t116, t117, t118, t119, t120, t121⟩ : S29)]) (wrap64 (x4_1 + 1))) else (none)) = some r := H
          have A4 := Aside0.mk A40
          clear A40
          by_cases c5 : x3_1.length < 1759218604441
          · rw [if_pos c5] at H
            have LMc5 := Aside0.mk c5
            clear c5
            obtain ⟨y125, hy125⟩ : ∃ y_ : List (S29), y_ = (x3_1 ++ [(⟨t114, t115, t116, t117, t118, t119, t120, t121⟩ : S29)]) := ⟨_, rfl⟩
            replace H : (sextonref25_Own.l0 k1 l0 y125 (wrap64 (x4_1 + 1))) = some r := by first | (rw [hy125]; with_reducible exact H) | (have H2_ := (Option.bind_some _ _).symm.trans H; rw [hy125]; with_reducible exact H2_) | (have H2_ := (Option.bind_some _ _).symm.trans H; with_reducible exact H2_) | with_reducible exact H | (rw [hy125]; exact H) | exact H
            have Ny125 := Aside0.mk hy125
            clear hy125
            have H' := Aside0.mk H
            clear H
            have p113 : 0 ≤ (x4_1 : Int) := of_decide_eq_true (by first | (with_reducible assumption) | assumption)
            have q113 : x4_1 < (l0.length : Int) := of_decide_eq_true (by first | (with_reducible assumption) | assumption)
            obtain ⟨ad113, A113_7, c113_7, e113, hx113_0, hx113_1, hx113_2, hx113_3, hx113_4, hx113_5, hx113_6, hx113_7, hl113_7, hi113_7⟩ := at_T29 HR0.out x4_1 p113 q113
            cases e113
            replace hx113_0 := (HB.out.cell (World.block_lt_of_cell? w _ hx113_0)).trans hx113_0
            replace hx113_1 := (HB.out.cell (World.block_lt_of_cell? w _ hx113_1)).trans hx113_1
            replace hx113_2 := (HB.out.cell (World.block_lt_of_cell? w _ hx113_2)).trans hx113_2
            replace hx113_3 := (HB.out.cell (World.block_lt_of_cell? w _ hx113_3)).trans hx113_3
            replace hx113_4 := (HB.out.cell (World.block_lt_of_cell? w _ hx113_4)).trans hx113_4
            replace hx113_5 := (HB.out.cell (World.block_lt_of_cell? w _ hx113_5)).trans hx113_5
            replace hx113_6 := (HB.out.cell (World.block_lt_of_cell? w _ hx113_6)).trans hx113_6
            replace hx113_7 := (HB.out.cell (World.block_lt_of_cell? w _ hx113_7)).trans hx113_7
            have HR113_7 := Aside0.mk hi113_7
            have HC113_7 := Aside0.mk hl113_7
            clear hi113_7 hl113_7
            replace p113 := eq_true p113
            replace q113 := eq_true q113
            go_wp2_with (first | ((with_reducible refine gate_callee (f := 49) rfl ?_); refine goesL_ (some 16) rfl rfl Try.func49 (by kernel_rfl) rfl #[.agg #[.int .i64 ((rd_T29 l0 x4_1).f0), .int .i64 ((rd_T29 l0 x4_1).f1), .int .i64 ((rd_T29 l0 x4_1).f2), .int .i64 ((rd_T29 l0 x4_1).f3), .int .i64 ((rd_T29 l0 x4_1).f4), .int .i64 ((rd_T29 l0 x4_1).f5), .int .i64 ((rd_T29 l0 x4_1).f6), .slice A113_7 ((rd_T29 l0 x4_1).f7).length c113_7]] rfl (by (try simp only [List.map_toArray, List.map_cons, List.map_nil]); first | done | rfl | (simp only [List.length_drop, List.length_take]; rfl)) ?_; (with_reducible refine (sextonref25_own.calls ((rd_T29 l0 x4_1).f0) ((rd_T29 l0 x4_1).f1) ((rd_T29 l0 x4_1).f2) ((rd_T29 l0 x4_1).f3) ((rd_T29 l0 x4_1).f4) ((rd_T29 l0 x4_1).f5) ((rd_T29 l0 x4_1).f6) _ _ ((rd_T29 l0 x4_1).f7) t114 t115 t116 t117 t118 t119 t120 t121 _ ?side1 ?side2 A4.out).mono ?_); (case side1 => repeat (first | exact (Kd.C_below HR113_7.out HB.out) | (with_reducible refine Kd.C_alloc ?_ _) | (with_reducible refine Kd.C_drewN ?_ _) | (with_reducible refine Kd.C_drew ?_))); (case side2 => exact HC113_7.out); rintro e w6 ⟨v122, rfl, ho0, hb⟩; refine ⟨_, rfl, ?_⟩; have n0_ := Aside0.mk (Kd.S_elder' (by (with_reducible repeat (first | apply Kd.S_alloc | apply Kd.S_drewN | apply Kd.S_drew)); exact HO_3.out) (Kd.R_base ho0) hb); have n1_ := Aside0.mk (Kd.R_lower ho0 (below_size (by repeat (first | (with_reducible first | exact HB.out | apply below_alloc | apply pw_below_drewN | apply below_drew1) | exact HB.out)))); have n2_ := Aside0.mk (below_step (by repeat (first | (with_reducible first | exact HB.out | apply below_alloc | apply pw_below_drewN | apply below_drew1) | exact HB.out)) hb); clear HO_3; clear HB; have HO_3 := n0_; have HO123 := n1_; have HB := n2_; clear n0_ n1_ n2_; (try clear hb); (try clear hb2); (try clear hk); (try clear hi); (try clear ho0)) | ((with_reducible refine gate_dst (N := 5) rfl ?_); refine box_event ?hg (N := 5) ?hd (cs := #[.int .i64 0, .int .i64 0, .int .i64 0, .int .i64 0, .int .i64 0, .int .i64 0, .int .i64 0, .slice none 0 0]) (t := 29) ?hr ?_; (case hd => rfl); (case hg => rfl); (case hr => first | (go_simp; done) | (go_simp; rfl)); intro gb124 hg w7 hbox hb; have n0_ := Aside0.mk (Kd.S_below (Kd.S_elderB (by (with_reducible repeat (first | apply Kd.S_alloc | apply Kd.S_drewN | apply Kd.S_drew)); exact HO_3.out) gb124 (Nat.le_of_eq hg.symm)) hb); have n1_ := Aside0.mk (Kd.R_below (by (with_reducible repeat (first | apply Kd.R_alloc | apply Kd.R_drewN | apply Kd.R_drew)); exact HO123.out) hb); have n2_ := Aside0.mk (below_step (by repeat (first | (with_reducible first | exact HB.out | apply below_alloc | apply pw_below_drewN | apply below_drew1) | exact HB.out)) hb); have n3_ := Aside0.mk (hbox); have n4_ := Aside0.mk ((by rw [hg]; exact (below_size (by repeat (first | (with_reducible first | exact HB.out | apply below_alloc | apply pw_below_drewN | apply below_drew1) | exact HB.out))) : w.heap.size ≤ gb124)); have n5_ := Aside0.mk ((by rw [hg]; exact (below_size (by repeat (first | (with_reducible first | exact HB.out | apply below_alloc | apply pw_below_drewN | apply below_drew1) | exact HB.out))) : w.heap.size ≤ gb124)); clear HO_3; clear HO123; clear HB; have HO_3 := n0_; have HO123 := n1_; have HB := n2_; have BK124 := n3_; have GW124 := n4_; have GE124 := n5_; clear n0_ n1_ n2_ n3_ n4_ n5_; clear hb hbox hg; have hcz8_0 : w7.cell? ⟨gb124, 0, none⟩ = some (.int .i64 0) := (blk_cell BK124.out 0).trans rfl; have hcz8_1 : w7.cell? ⟨gb124, 1, none⟩ = some (.int .i64 0) := (blk_cell BK124.out 1).trans rfl; have hcz8_2 : w7.cell? ⟨gb124, 2, none⟩ = some (.int .i64 0) := (blk_cell BK124.out 2).trans rfl; have hcz8_3 : w7.cell? ⟨gb124, 3, none⟩ = some (.int .i64 0) := (blk_cell BK124.out 3).trans rfl; have hcz8_4 : w7.cell? ⟨gb124, 4, none⟩ = some (.int .i64 0) := (blk_cell BK124.out 4).trans rfl; have hcz8_5 : w7.cell? ⟨gb124, 5, none⟩ = some (.int .i64 0) := (blk_cell BK124.out 5).trans rfl; have hcz8_6 : w7.cell? ⟨gb124, 6, none⟩ = some (.int .i64 0) := (blk_cell BK124.out 6).trans rfl; have hcz8_7 : w7.cell? ⟨gb124, 7, none⟩ = some (.slice none 0 0) := (blk_cell BK124.out 7).trans rfl; have hfz8_0 := blk_frozen BK124.out 0; have hfz8_1 := blk_frozen BK124.out 1; have hfz8_2 := blk_frozen BK124.out 2; have hfz8_3 := blk_frozen BK124.out 3; have hfz8_4 := blk_frozen BK124.out 4; have hfz8_5 := blk_frozen BK124.out 5; have hfz8_6 := blk_frozen BK124.out 6; have hfz8_7 := blk_frozen BK124.out 7; obtain ⟨Ao9, co9, eo9⟩ := Kd.R_slice HO123.out; subst eo9) | ((with_reducible refine gate_store (t := 29) (p := 5) rfl ?_); refine store_event (t := 29) (p := 5) (v := ?vo_w10) (w1 := ((((((((w7.setCell ⟨gb124, 0, none⟩ (.int .i64 t114)).setCell ⟨gb124, 1, none⟩ (.int .i64 t115)).setCell ⟨gb124, 2, none⟩ (.int .i64 t116)).setCell ⟨gb124, 3, none⟩ (.int .i64 t117)).setCell ⟨gb124, 4, none⟩ (.int .i64 t118)).setCell ⟨gb124, 5, none⟩ (.int .i64 t119)).setCell ⟨gb124, 6, none⟩ (.int .i64 t120)).setCell ⟨gb124, 7, none⟩ (.slice Ao9 t121.length co9))) ?hg ?ho ?hn ?hr ?_; (case ho => rfl); (case hg => rfl); (case hn => rfl); (case hr => first | (go_simp; done) | (go_simp; rfl)); intro w10 hw; have n0_ : Aside0 (Kd.S k29 29 w10 w.heap.size (fun k_ => some k_ ≠ (.slice Ao9 t121.length co9 : Value).ownBlock ∧ k_ ≠ gb124) u3 x3_1) := ⟨(by rw [hw]; exact (by (with_reducible repeat (first | apply Kd.S_alloc | apply Kd.S_drewN | apply Kd.S_drew)); exact Kd.S_mono (Kd.S_far (p := ⟨gb124, 7, none⟩) (Kd.S_far (p := ⟨gb124, 6, none⟩) (Kd.S_far (p := ⟨gb124, 5, none⟩) (Kd.S_far (p := ⟨gb124, 4, none⟩) (Kd.S_far (p := ⟨gb124, 3, none⟩) (Kd.S_far (p := ⟨gb124, 2, none⟩) (Kd.S_far (p := ⟨gb124, 1, none⟩) (Kd.S_far (p := ⟨gb124, 0, none⟩) (Kd.S_mono HO_3.out (fun k_ hk => (⟨hk, hk.2⟩ : _ ∧ k_ ≠ gb124))) (fun _ hk => hk.2) (.int .i64 t114)) (fun _ hk => hk.2) (.int .i64 t115)) (fun _ hk => hk.2) (.int .i64 t116)) (fun _ hk => hk.2) (.int .i64 t117)) (fun _ hk => hk.2) (.int .i64 t118)) (fun _ hk => hk.2) (.int .i64 t119)) (fun _ hk => hk.2) (.int .i64 t120)) (fun _ hk => hk.2) (.slice Ao9 t121.length co9)) (fun _ hk => ⟨hk.1.1.2, hk.1.2⟩)))⟩; have n1_ : Aside0 (Kd.R Kd.string 9 w10 w.heap.size (fun _ => True) (.slice Ao9 t121.length co9) t121) := ⟨(by rw [hw]; exact (by (with_reducible repeat (first | apply Kd.R_alloc | apply Kd.R_drewN | apply Kd.R_drew)); exact Kd.R_mono (Kd.R_far (p := ⟨gb124, 7, none⟩) (Kd.R_far (p := ⟨gb124, 6, none⟩) (Kd.R_far (p := ⟨gb124, 5, none⟩) (Kd.R_far (p := ⟨gb124, 4, none⟩) (Kd.R_far (p := ⟨gb124, 3, none⟩) (Kd.R_far (p := ⟨gb124, 2, none⟩) (Kd.R_far (p := ⟨gb124, 1, none⟩) (Kd.R_far (p := ⟨gb124, 0, none⟩) (Kd.R_types HO123.out BK124.out (by decide)) (fun _ hk => hk.2) (.int .i64 t114)) (fun _ hk => hk.2) (.int .i64 t115)) (fun _ hk => hk.2) (.int .i64 t116)) (fun _ hk => hk.2) (.int .i64 t117)) (fun _ hk => hk.2) (.int .i64 t118)) (fun _ hk => hk.2) (.int .i64 t119)) (fun _ hk => hk.2) (.int .i64 t120)) (fun _ hk => hk.2) (.slice Ao9 t121.length co9)) (fun _ hk => trivial)))⟩; have n2_ : Aside0 (w10.heap[gb124]? = some (.cells #[.int .i64 t114, .int .i64 t115, .int .i64 t116, .int .i64 t117, .int .i64 t118, .int .i64 t119, .int .i64 t120, .slice Ao9 t121.length co9] 29 (0, 0))) := ⟨(by rw [hw]; exact (by (with_reducible repeat (first | refine blk_drewN ?_ _ | refine blk_drew ?_ | refine blk_alloc ?_ _)); refine blk_put (cs := #[.int .i64 t114, .int .i64 t115, .int .i64 t116, .int .i64 t117, .int .i64 t118, .int .i64 t119, .int .i64 t120, .slice none 0 0]) ?_ 7 _ rfl; (with_reducible repeat (first | refine blk_drewN ?_ _ | refine blk_drew ?_ | refine blk_alloc ?_ _)); refine blk_put (cs := #[.int .i64 t114, .int .i64 t115, .int .i64 t116, .int .i64 t117, .int .i64 t118, .int .i64 t119, .int .i64 0, .slice none 0 0]) ?_ 6 _ rfl; (with_reducible repeat (first | refine blk_drewN ?_ _ | refine blk_drew ?_ | refine blk_alloc ?_ _)); refine blk_put (cs := #[.int .i64 t114, .int .i64 t115, .int .i64 t116, .int .i64 t117, .int .i64 t118, .int .i64 0, .int .i64 0, .slice none 0 0]) ?_ 5 _ rfl; (with_reducible repeat (first | refine blk_drewN ?_ _ | refine blk_drew ?_ | refine blk_alloc ?_ _)); refine blk_put (cs := #[.int .i64 t114, .int .i64 t115, .int .i64 t116, .int .i64 t117, .int .i64 0, .int .i64 0, .int .i64 0, .slice none 0 0]) ?_ 4 _ rfl; (with_reducible repeat (first | refine blk_drewN ?_ _ | refine blk_drew ?_ | refine blk_alloc ?_ _)); refine blk_put (cs := #[.int .i64 t114, .int .i64 t115, .int .i64 t116, .int .i64 0, .int .i64 0, .int .i64 0, .int .i64 0, .slice none 0 0]) ?_ 3 _ rfl; (with_reducible repeat (first | refine blk_drewN ?_ _ | refine blk_drew ?_ | refine blk_alloc ?_ _)); refine blk_put (cs := #[.int .i64 t114, .int .i64 t115, .int .i64 0, .int .i64 0, .int .i64 0, .int .i64 0, .int .i64 0, .slice none 0 0]) ?_ 2 _ rfl; (with_reducible repeat (first | refine blk_drewN ?_ _ | refine blk_drew ?_ | refine blk_alloc ?_ _)); refine blk_put (cs := #[.int .i64 t114, .int .i64 0, .int .i64 0, .int .i64 0, .int .i64 0, .int .i64 0, .int .i64 0, .slice none 0 0]) ?_ 1 _ rfl; (with_reducible repeat (first | refine blk_drewN ?_ _ | refine blk_drew ?_ | refine blk_alloc ?_ _)); refine blk_put (cs := #[.int .i64 0, .int .i64 0, .int .i64 0, .int .i64 0, .int .i64 0, .int .i64 0, .int .i64 0, .slice none 0 0]) ?_ 0 _ rfl; (with_reducible repeat (first | refine blk_drewN ?_ _ | refine blk_drew ?_ | refine blk_alloc ?_ _)); exact BK124.out))⟩; have n3_ : Aside0 (Below w.heap.size w w10) := ⟨(by rw [hw]; exact (by repeat (first | (with_reducible first | exact HB.out | apply below_alloc | apply pw_below_drewN | apply below_drew1 | refine below_set ?_ GE124.out) | exact HB.out)))⟩; clear hw; clear HO_3; clear HO123; clear BK124; clear HB; have HO_3 := n0_; have HO123 := n1_; have BK124 := n2_; have HB := n3_; clear n0_ n1_ n2_ n3_; have hcz11_0 : w10.cell? ⟨gb124, 0, none⟩ = some (.int .i64 t114) := (blk_cell BK124.out 0).trans rfl; have hcz11_1 : w10.cell? ⟨gb124, 1, none⟩ = some (.int .i64 t115) := (blk_cell BK124.out 1).trans rfl; have hcz11_2 : w10.cell? ⟨gb124, 2, none⟩ = some (.int .i64 t116) := (blk_cell BK124.out 2).trans rfl; have hcz11_3 : w10.cell? ⟨gb124, 3, none⟩ = some (.int .i64 t117) := (blk_cell BK124.out 3).trans rfl; have hcz11_4 : w10.cell? ⟨gb124, 4, none⟩ = some (.int .i64 t118) := (blk_cell BK124.out 4).trans rfl; have hcz11_5 : w10.cell? ⟨gb124, 5, none⟩ = some (.int .i64 t119) := (blk_cell BK124.out 5).trans rfl; have hcz11_6 : w10.cell? ⟨gb124, 6, none⟩ = some (.int .i64 t120) := (blk_cell BK124.out 6).trans rfl; have hcz11_7 : w10.cell? ⟨gb124, 7, none⟩ = some (.slice Ao9 t121.length co9) := (blk_cell BK124.out 7).trans rfl; have hfz11_0 := blk_frozen BK124.out 0; have hfz11_1 := blk_frozen BK124.out 1; have hfz11_2 := blk_frozen BK124.out 2; have hfz11_3 := blk_frozen BK124.out 3; have hfz11_4 := blk_frozen BK124.out 4; have hfz11_5 := blk_frozen BK124.out 5; have hfz11_6 := blk_frozen BK124.out 6; have hfz11_7 := blk_frozen BK124.out 7) | ((with_reducible refine gate_builtin (b := .append) (xs := #[.tmp 17, .tmp 19]) rfl ?_); at_builtin; refine Kd.S_append k29 (w0 := w) w.heap.size rfl (.tmp 17) (.tmp 19) 22 29 (.agg #[(.int .i64 0), (.int .i64 0), (.int .i64 0), (.int .i64 0), (.int .i64 0), (.int .i64 0), (.int .i64 0), (.slice none 0 0)]) 80 rfl Try.underlying22 info29 rfl (by decide) (by omega) u3 x3_1 (⟨t114, t115, t116, t117, t118, t119, t120, t121⟩ : S29) [.int .i64 t114, .int .i64 t115, .int .i64 t116, .int .i64 t117, .int .i64 t118, .int .i64 t119, .int .i64 t120, .slice Ao9 t121.length co9] (fun k_ => k_ ≠ gb124) (fun k_ => some k_ = (.slice Ao9 t121.length co9 : Value).ownBlock) rfl rfl ?aP (fun k_ hk_ => ((Kd.R_mono (ok' := fun k_ => ((fun k_ => k_ ≠ gb124)) k_ ∧ some k_ ≠ (u3 : Value).ownBlock) (Kd.R_types (Kd.R_apart' (HO123.out) (Kd.S_typed HO_3.out) (by decide)) BK124.out (by decide)) (fun k_ hk => ⟨hk.2, hk.1.2⟩))).1 k_ hk_.symm) ?aF ?aO ?aB ?aS ?aL ?_; (case aP => exact k29_mkM _ _ _ (⟨t114, t115, t116, t117, t118, t119, t120, t121⟩ : S29) (Kd.R_mono (Kd.R_tight rfl (Kd.R_mono (ok' := fun k_ => ((fun k_ => k_ ≠ gb124)) k_ ∧ some k_ ≠ (u3 : Value).ownBlock) (Kd.R_types (Kd.R_apart' (HO123.out) (Kd.S_typed HO_3.out) (by decide)) BK124.out (by decide)) (fun k_ hk => ⟨hk.2, hk.1.2⟩))) (fun _ h_ => h_))); (case aB => exact (by repeat (first | (with_reducible first | exact HB.out | apply below_alloc | apply pw_below_drewN | apply below_drew1 | refine below_set ?_ GE124.out) | exact HB.out))); (case aF => exact (fun k_ hk => Kd.freshB (g := gb124) (o := .cells #[.int .i64 t114, .int .i64 t115, .int .i64 t116, .int .i64 t117, .int .i64 t118, .int .i64 t119, .int .i64 t120, .slice Ao9 t121.length co9] 29 (0, 0)) (by (with_reducible repeat (first | refine blk_drewN ?_ _ | refine blk_drew ?_ | refine blk_alloc ?_ _)); exact BK124.out) k_ hk)); (case aO => exact (by (with_reducible repeat (first | apply Kd.S_alloc | apply Kd.S_drewN | apply Kd.S_drew)); exact Kd.S_mono HO_3.out (fun k_ hk => ⟨hk.2, fun e_ => hk.1 e_⟩))); (case aS => exact (below_size (by repeat (first | (with_reducible first | exact HB.out | apply below_alloc | apply pw_below_drewN | apply below_drew1 | refine below_set ?_ GE124.out) | exact HB.out)))); (case aL => have := LMc5.out; omega); intro v126 w12 ho hb hg hat; rw [← Ny125.out] at ho; have n0_ := Aside0.mk (blk_grown (g := gb124) (o := .cells #[.int .i64 t114, .int .i64 t115, .int .i64 t116, .int .i64 t117, .int .i64 t118, .int .i64 t119, .int .i64 t120, .slice Ao9 t121.length co9] 29 (0, 0)) (by (with_reducible repeat (first | refine blk_drewN ?_ _ | refine blk_drew ?_ | refine blk_alloc ?_ _)); exact BK124.out) hg (Kd.S_away HO_3.out (fun _ hk => hk.2))); have n1_ := Aside0.mk (hb); have n2_ := Aside0.mk (ho); clear BK124; clear HB; clear HO_3; clear HO123; have BK124 := n0_; have HB := n1_; have HO127 := n2_; clear n0_ n1_ n2_; clear ho hb hg hat))
            go_roundg k1
            case measure => have := HK1.out; omega
            case rel => exact ⟨(y125), (wrap64 (x4_1 + 1)), (by first | rfl | (simp; done) | (simp [*]; done)), H', ⟨by have := HK1.out; omega⟩, ⟨by (with_reducible repeat (first | apply Kd.S_alloc | apply Kd.S_drewN | apply Kd.S_drew)); exact Kd.S_mono HO127.out (fun _ hk => trivial)⟩, ⟨by repeat (first | (with_reducible first | exact HB.out | apply below_alloc | apply pw_below_drewN | apply below_drew1 | refine below_set ?_ GE124.out) | exact HB.out)⟩⟩
          · rw [if_neg c5] at H
            exact absurd H (by simp)
        · rw [if_neg c3] at H
          exact absurd H (by simp)
      · rw [if_neg c2] at H
        have c2b0 : decide (x4_1 < (l0.length : Int)) = false := decide_eq_false c2
        clear c2
        obtain rfl := Option.some.inj H
        go_wp2
        go_ret
        exact ⟨_, by first | rfl | (simp [errW_none, errW_some] <;> rfl) | (simp [*, errW_none, errW_some] <;> rfl), by (with_reducible repeat (first | apply Kd.S_alloc | apply Kd.S_drewN | apply Kd.S_drew)); exact HO_3.out, by repeat (first | (with_reducible first | exact HB.out | apply below_alloc | apply pw_below_drewN | apply below_drew1) | exact HB.out)⟩

end Go.Proofs.Ytfejidinfcmfjaa.P
-- Written by a program of this session (xprint.py) over the kit's print.py.
namespace Go.Proofs.Ytfejidinfcmfjaa.P
open Go.RowKit Go.Proofs.YtfejidinfcmfjaaW.PrintWords Go.Proofs.YtfejidinfcmfjaaW.PrintLast Go.Proofs.YtfejidinfcmfjaaW.PrintMore
attribute [local go_sem] max2_int min2_int max_two min_two max_three min_three max_four min_four   -- for this text's walks alone
set_option linter.unusedVariables false
set_option linter.unusedSimpArgs false

/-! ### sextonref25_Put: function 16 -/
def sextonref25_Put.l0 : Nat → List (S29) → List (S29) → Int → Int → Option ((List (S29)) × Int)
  | 0, _, _, _, _ => none
  | k + 1, x1, x6, x7, x8 => if x8 < (x1.length : Int) then (if (x6.length : Int) ≥ 200 then (sextonref25_Put.l0 k x1 x6 (wrap64 (x7 + 1)) (wrap64 (x8 + 1))) else (if 0 ≤ x8 then ((sextonref25_own.f ((rd_T29 x1 x8).f0) ((rd_T29 x1 x8).f1) ((rd_T29 x1 x8).f2) ((rd_T29 x1 x8).f3) ((rd_T29 x1 x8).f4) ((rd_T29 x1 x8).f5) ((rd_T29 x1 x8).f6) ((rd_T29 x1 x8).f7)).bind fun bt132 => (if x6.length < 1759218604441 then (sextonref25_Put.l0 k x1 (x6 ++ [(⟨bt132.1, bt132.2.1, bt132.2.2.1, bt132.2.2.2.1, bt132.2.2.2.2.1, bt132.2.2.2.2.2.1, bt132.2.2.2.2.2.2.1, bt132.2.2.2.2.2.2.2⟩ : S29)]) x7 (wrap64 (x8 + 1))) else (none))) else (none))) else (some (x6, x7))
def sextonref25_Put.f (k : Nat) (l0 : List (S29)) (l1 : List (S29)) : Option ((List (S29)) × Int) := (sextonref25_Own.f k l0).bind fun t128 => (sextonref25_Put.l0 k l1 t128 0 0)
set_option maxHeartbeats 8000000 in
set_option maxRecDepth 100000 in
theorem sextonref25_Put.calls (k : Nat) (A0 : Option Addr) (c0 : Nat) (l0 : List (S29)) (A1 : Option Addr) (c1 : Nat) (l1 : List (S29)) (r1 : List (S29)) (r2 : Int) (w : World) (hr0 : Kd.C k29 w A0 l0.length l0) (hc0 : l0.length ≤ c0) (hr1 : Kd.C k29 w A1 l1.length l1) (hc1 : l1.length ≤ c1) (h : sextonref25_Put.f k l0 l1 = some (r1, r2)) :
    Calls Try.prog 16 #[.slice A0 l0.length c0, .slice A1 l1.length c1] w fun e w' => ∃ v0_ : Value, e = .returned (.tuple #[v0_, .int .i64 r2]) ∧ Kd.S k29 29 w' w.heap.size (fun _ => True) v0_ r1 ∧ Below w.heap.size w w' := by
  have hu29 := Try.underlying29
  have HR0 := Aside0.mk hr0
  have HC0 := Aside0.mk hc0
  clear hr0 hc0
  have HR1 := Aside0.mk hr1
  have HC1 := Aside0.mk hc1
  clear hr1 hc1
  have HB := Aside0.mk (Below.refl w.heap.size w)
  have H : ((sextonref25_Own.f k l0).bind fun t128 => (sextonref25_Put.l0 k l1 t128 0 0)) = some (r1, r2) := h
  clear h
  replace H := Option.bind_eq_some_iff.mp H
  obtain ⟨t128, A30, H⟩ := H
  replace H : (sextonref25_Put.l0 k l1 t128 0 0) = some (r1, r2) := H
  have A3 := Aside0.mk A30
  clear A30
  have H' := Aside0.mk H
  clear H
  go_enter Try.func16, Try.ntmps16
  go_wp2_with (first | ((with_reducible refine gate_callee (f := 14) rfl ?_); refine goesL_ (some 11) rfl rfl Try.func14 (by kernel_rfl) rfl #[.slice A0 l0.length c0] rfl (by (try simp only [List.map_toArray, List.map_cons, List.map_nil]); first | done | rfl | (simp only [List.length_drop, List.length_take]; rfl)) ?_; (with_reducible refine (sextonref25_Own.calls k _ _ l0 t128 _ ?side1 ?side2 A3.out).mono ?_); (case side1 => repeat (first | exact HR0.out | (with_reducible refine Kd.C_alloc ?_ _) | (with_reducible refine Kd.C_drewN ?_ _) | (with_reducible refine Kd.C_drew ?_))); (case side2 => exact HC0.out); rintro e w4 ⟨v129, rfl, ho0, hb⟩; refine ⟨_, rfl, ?_⟩; have n0_ := Aside0.mk (Kd.S_lower ho0 (below_size (by repeat (first | (with_reducible first | exact HB.out | apply below_alloc | apply pw_below_drewN | apply below_drew1) | exact HB.out)))); have n1_ := Aside0.mk (below_step (by repeat (first | (with_reducible first | exact HB.out | apply below_alloc | apply pw_below_drewN | apply below_drew1) | exact HB.out)) hb); clear HB; have HO130 := n0_; have HB := n1_; clear n0_ n1_; (try clear hb); (try clear hb2); (try clear hk); (try clear hi); (try clear ho0)))
  go_loopg [6, 7, 8] k (fun kq v6 v7 v8 w' => ∃ (x6_1 : List (S29)) (x7_1 : Int) (x8_1 : Int), v7 = .int .i64 x7_1 ∧ v8 = .int .i64 x8_1 ∧ Aside0 (sextonref25_Put.l0 kq l1 x6_1 x7_1 x8_1 = some (r1, r2)) ∧ Aside0 (kq ≤ k) ∧ Aside0 (Kd.S k29 29 w' w.heap.size (fun _ => True) v6 x6_1) ∧ Aside0 (Below w.heap.size w w'))
  case atStart => exact ⟨(t128), (0), (0), (by first | rfl | (simp; done) | (simp [*]; done)), (by first | rfl | (simp; done) | (simp [*]; done)), H', ⟨Nat.le_refl _⟩, ⟨by (with_reducible repeat (first | apply Kd.S_alloc | apply Kd.S_drewN | apply Kd.S_drew)); exact HO130.out⟩, ⟨by repeat (first | (with_reducible first | exact HB.out | apply below_alloc | apply pw_below_drewN | apply below_drew1) | exact HB.out)⟩⟩
  case round =>
    clear H'
    try clear c1
    try clear p2
    obtain ⟨x6_1, x7_1, x8_1, rfl, rfl, HA, HK1, HO_6, HB⟩ := hrel
    cases gk with
    | zero => exact absurd HA.out (by simp [sextonref25_Put.l0])
    | succ k1 =>
      have H := HA.out
      clear HA
      simp only [sextonref25_Put.l0] at H
      by_cases c5 : x8_1 < (l1.length : Int)
      · rw [if_pos c5] at H
        have c5b0 : decide (x8_1 < (l1.length : Int)) = true := decide_eq_true c5
        clear c5
        by_cases c6 : (x6_1.length : Int) ≥ 200
        · rw [if_pos c6] at H
          have c6b0 : decide (200 ≤ (x6_1.length : Int)) = true := decide_eq_true c6
          have c6b1 : decide (200 ≤ x6_1.length) = true := decide_eq_true (by omega)
          clear c6
          have H' := Aside0.mk H
          clear H
          obtain ⟨Ao7, co7, eo7⟩ := Kd.S_slice HO_6.out
          subst eo7
          go_wp2
          go_roundg k1
          case measure => have := HK1.out; omega
          case rel => exact ⟨(x6_1), (wrap64 (x7_1 + 1)), (wrap64 (x8_1 + 1)), (by first | rfl | (simp; done) | (simp [*]; done)), (by first | rfl | (simp; done) | (simp [*]; done)), H', ⟨by have := HK1.out; omega⟩, ⟨by (with_reducible repeat (first | apply Kd.S_alloc | apply Kd.S_drewN | apply Kd.S_drew)); exact HO_6.out⟩, ⟨by repeat (first | (with_reducible first | exact HB.out | apply below_alloc | apply pw_below_drewN | apply below_drew1) | exact HB.out)⟩⟩
        · rw [if_neg c6] at H
          have c6b0 : decide (200 ≤ (x6_1.length : Int)) = false := decide_eq_false c6
          have c6b1 : decide (200 ≤ x6_1.length) = false := decide_eq_false (by omega)
          clear c6
          by_cases c8 : 0 ≤ x8_1
          · rw [if_pos c8] at H
            have c8b0 : decide (0 ≤ x8_1) = true := decide_eq_true c8
            clear c8
            replace H := Option.bind_eq_some_iff.mp H
            obtain ⟨⟨t132, t133, t134, t135, t136, t137, t138, t139⟩, A90, H⟩ := H
            replace H : (if x6_1.length < 1759218604441 then (sextonref25_Put.l0 k1 l1 (x6_1 ++ [(⟨t132, t133, t134, t135, t136, t137, t138, t139⟩ : S29)]) x7_1 (wrap64 (x8_1 + 1))) else (none)) = some (r1, r2) := H
            have A9 := Aside0.mk A90
            clear A90
            by_cases c10 : x6_1.length < 1759218604441
            · rw [if_pos c10] at H
              have LMc10 := Aside0.mk c10
              clear c10
              obtain ⟨y143, hy143⟩ : ∃ y_ : List (S29), y_ = (x6_1 ++ [(⟨t132, t133, t134, t135, t136, t137, t138, t139⟩ : S29)]) := ⟨_, rfl⟩
              replace H : (sextonref25_Put.l0 k1 l1 y143 x7_1 (wrap64 (x8_1 + 1))) = some (r1, r2) := by first | (rw [hy143]; with_reducible exact H) | (have H2_ := (Option.bind_some _ _).symm.trans H; rw [hy143]; with_reducible exact H2_) | (have H2_ := (Option.bind_some _ _).symm.trans H; with_reducible exact H2_) | with_reducible exact H | (rw [hy143]; exact H) | exact H
              have Ny143 := Aside0.mk hy143
              clear hy143
              have H' := Aside0.mk H
              clear H
              obtain ⟨Ao11, co11, eo11⟩ := Kd.S_slice HO_6.out
              subst eo11
              have p131 : 0 ≤ (x8_1 : Int) := of_decide_eq_true (by first | (with_reducible assumption) | assumption)
              have q131 : x8_1 < (l1.length : Int) := of_decide_eq_true (by first | (with_reducible assumption) | assumption)
              obtain ⟨ad131, A131_7, c131_7, e131, hx131_0, hx131_1, hx131_2, hx131_3, hx131_4, hx131_5, hx131_6, hx131_7, hl131_7, hi131_7⟩ := at_T29 HR1.out x8_1 p131 q131
              cases e131
              replace hx131_0 := (HB.out.cell (World.block_lt_of_cell? w _ hx131_0)).trans hx131_0
              replace hx131_1 := (HB.out.cell (World.block_lt_of_cell? w _ hx131_1)).trans hx131_1
              replace hx131_2 := (HB.out.cell (World.block_lt_of_cell? w _ hx131_2)).trans hx131_2
              replace hx131_3 := (HB.out.cell (World.block_lt_of_cell? w _ hx131_3)).trans hx131_3
              replace hx131_4 := (HB.out.cell (World.block_lt_of_cell? w _ hx131_4)).trans hx131_4
              replace hx131_5 := (HB.out.cell (World.block_lt_of_cell? w _ hx131_5)).trans hx131_5
              replace hx131_6 := (HB.out.cell (World.block_lt_of_cell? w _ hx131_6)).trans hx131_6
              replace hx131_7 := (HB.out.cell (World.block_lt_of_cell? w _ hx131_7)).trans hx131_7
              have HR131_7 := Aside0.mk hi131_7
              have HC131_7 := Aside0.mk hl131_7
              clear hi131_7 hl131_7
              replace p131 := eq_true p131
              replace q131 := eq_true q131
              go_wp2_with (first | ((with_reducible refine gate_callee (f := 49) rfl ?_); refine goesL_ (some 27) rfl rfl Try.func49 (by kernel_rfl) rfl #[.agg #[.int .i64 ((rd_T29 l1 x8_1).f0), .int .i64 ((rd_T29 l1 x8_1).f1), .int .i64 ((rd_T29 l1 x8_1).f2), .int .i64 ((rd_T29 l1 x8_1).f3), .int .i64 ((rd_T29 l1 x8_1).f4), .int .i64 ((rd_T29 l1 x8_1).f5), .int .i64 ((rd_T29 l1 x8_1).f6), .slice A131_7 ((rd_T29 l1 x8_1).f7).length c131_7]] rfl (by (try simp only [List.map_toArray, List.map_cons, List.map_nil]); first | done | rfl | (simp only [List.length_drop, List.length_take]; rfl)) ?_; (with_reducible refine (sextonref25_own.calls ((rd_T29 l1 x8_1).f0) ((rd_T29 l1 x8_1).f1) ((rd_T29 l1 x8_1).f2) ((rd_T29 l1 x8_1).f3) ((rd_T29 l1 x8_1).f4) ((rd_T29 l1 x8_1).f5) ((rd_T29 l1 x8_1).f6) _ _ ((rd_T29 l1 x8_1).f7) t132 t133 t134 t135 t136 t137 t138 t139 _ ?side1 ?side2 A9.out).mono ?_); (case side1 => repeat (first | exact (Kd.C_below HR131_7.out HB.out) | (with_reducible refine Kd.C_alloc ?_ _) | (with_reducible refine Kd.C_drewN ?_ _) | (with_reducible refine Kd.C_drew ?_))); (case side2 => exact HC131_7.out); rintro e w12 ⟨v140, rfl, ho0, hb⟩; refine ⟨_, rfl, ?_⟩; have n0_ := Aside0.mk (Kd.S_elder' (by (with_reducible repeat (first | apply Kd.S_alloc | apply Kd.S_drewN | apply Kd.S_drew)); exact HO_6.out) (Kd.R_base ho0) hb); have n1_ := Aside0.mk (Kd.R_lower ho0 (below_size (by repeat (first | (with_reducible first | exact HB.out | apply below_alloc | apply pw_below_drewN | apply below_drew1) | exact HB.out)))); have n2_ := Aside0.mk (below_step (by repeat (first | (with_reducible first | exact HB.out | apply below_alloc | apply pw_below_drewN | apply below_drew1) | exact HB.out)) hb); clear HO_6; clear HB; have HO_6 := n0_; have HO141 := n1_; have HB := n2_; clear n0_ n1_ n2_; (try clear hb); (try clear hb2); (try clear hk); (try clear hi); (try clear ho0)) | ((with_reducible refine gate_dst (N := 9) rfl ?_); refine box_event ?hg (N := 9) ?hd (cs := #[.int .i64 0, .int .i64 0, .int .i64 0, .int .i64 0, .int .i64 0, .int .i64 0, .int .i64 0, .slice none 0 0]) (t := 29) ?hr ?_; (case hd => rfl); (case hg => rfl); (case hr => first | (go_simp; done) | (go_simp; rfl)); intro gb142 hg w13 hbox hb; have n0_ := Aside0.mk (Kd.S_below (Kd.S_elderB (by (with_reducible repeat (first | apply Kd.S_alloc | apply Kd.S_drewN | apply Kd.S_drew)); exact HO_6.out) gb142 (Nat.le_of_eq hg.symm)) hb); have n1_ := Aside0.mk (Kd.R_below (by (with_reducible repeat (first | apply Kd.R_alloc | apply Kd.R_drewN | apply Kd.R_drew)); exact HO141.out) hb); have n2_ := Aside0.mk (below_step (by repeat (first | (with_reducible first | exact HB.out | apply below_alloc | apply pw_below_drewN | apply below_drew1) | exact HB.out)) hb); have n3_ := Aside0.mk (hbox); have n4_ := Aside0.mk ((by rw [hg]; exact (below_size (by repeat (first | (with_reducible first | exact HB.out | apply below_alloc | apply pw_below_drewN | apply below_drew1) | exact HB.out))) : w.heap.size ≤ gb142)); have n5_ := Aside0.mk ((by rw [hg]; exact (below_size (by repeat (first | (with_reducible first | exact HB.out | apply below_alloc | apply pw_below_drewN | apply below_drew1) | exact HB.out))) : w.heap.size ≤ gb142)); clear HO_6; clear HO141; clear HB; have HO_6 := n0_; have HO141 := n1_; have HB := n2_; have BK142 := n3_; have GW142 := n4_; have GE142 := n5_; clear n0_ n1_ n2_ n3_ n4_ n5_; clear hb hbox hg; have hcz14_0 : w13.cell? ⟨gb142, 0, none⟩ = some (.int .i64 0) := (blk_cell BK142.out 0).trans rfl; have hcz14_1 : w13.cell? ⟨gb142, 1, none⟩ = some (.int .i64 0) := (blk_cell BK142.out 1).trans rfl; have hcz14_2 : w13.cell? ⟨gb142, 2, none⟩ = some (.int .i64 0) := (blk_cell BK142.out 2).trans rfl; have hcz14_3 : w13.cell? ⟨gb142, 3, none⟩ = some (.int .i64 0) := (blk_cell BK142.out 3).trans rfl; have hcz14_4 : w13.cell? ⟨gb142, 4, none⟩ = some (.int .i64 0) := (blk_cell BK142.out 4).trans rfl; have hcz14_5 : w13.cell? ⟨gb142, 5, none⟩ = some (.int .i64 0) := (blk_cell BK142.out 5).trans rfl; have hcz14_6 : w13.cell? ⟨gb142, 6, none⟩ = some (.int .i64 0) := (blk_cell BK142.out 6).trans rfl; have hcz14_7 : w13.cell? ⟨gb142, 7, none⟩ = some (.slice none 0 0) := (blk_cell BK142.out 7).trans rfl; have hfz14_0 := blk_frozen BK142.out 0; have hfz14_1 := blk_frozen BK142.out 1; have hfz14_2 := blk_frozen BK142.out 2; have hfz14_3 := blk_frozen BK142.out 3; have hfz14_4 := blk_frozen BK142.out 4; have hfz14_5 := blk_frozen BK142.out 5; have hfz14_6 := blk_frozen BK142.out 6; have hfz14_7 := blk_frozen BK142.out 7; obtain ⟨Ao15, co15, eo15⟩ := Kd.R_slice HO141.out; subst eo15) | ((with_reducible refine gate_store (t := 29) (p := 9) rfl ?_); refine store_event (t := 29) (p := 9) (v := ?vo_w16) (w1 := ((((((((w13.setCell ⟨gb142, 0, none⟩ (.int .i64 t132)).setCell ⟨gb142, 1, none⟩ (.int .i64 t133)).setCell ⟨gb142, 2, none⟩ (.int .i64 t134)).setCell ⟨gb142, 3, none⟩ (.int .i64 t135)).setCell ⟨gb142, 4, none⟩ (.int .i64 t136)).setCell ⟨gb142, 5, none⟩ (.int .i64 t137)).setCell ⟨gb142, 6, none⟩ (.int .i64 t138)).setCell ⟨gb142, 7, none⟩ (.slice Ao15 t139.length co15))) ?hg ?ho ?hn ?hr ?_; (case ho => rfl); (case hg => rfl); (case hn => rfl); (case hr => first | (go_simp; done) | (go_simp; rfl)); intro w16 hw; have n0_ : Aside0 (Kd.S k29 29 w16 w.heap.size (fun k_ => some k_ ≠ (.slice Ao15 t139.length co15 : Value).ownBlock ∧ k_ ≠ gb142) (.slice Ao11 x6_1.length co11) x6_1) := ⟨(by rw [hw]; exact (by (with_reducible repeat (first | apply Kd.S_alloc | apply Kd.S_drewN | apply Kd.S_drew)); exact Kd.S_mono (Kd.S_far (p := ⟨gb142, 7, none⟩) (Kd.S_far (p := ⟨gb142, 6, none⟩) (Kd.S_far (p := ⟨gb142, 5, none⟩) (Kd.S_far (p := ⟨gb142, 4, none⟩) (Kd.S_far (p := ⟨gb142, 3, none⟩) (Kd.S_far (p := ⟨gb142, 2, none⟩) (Kd.S_far (p := ⟨gb142, 1, none⟩) (Kd.S_far (p := ⟨gb142, 0, none⟩) (Kd.S_mono HO_6.out (fun k_ hk => (⟨hk, hk.2⟩ : _ ∧ k_ ≠ gb142))) (fun _ hk => hk.2) (.int .i64 t132)) (fun _ hk => hk.2) (.int .i64 t133)) (fun _ hk => hk.2) (.int .i64 t134)) (fun _ hk => hk.2) (.int .i64 t135)) (fun _ hk => hk.2) (.int .i64 t136)) (fun _ hk => hk.2) (.int .i64 t137)) (fun _ hk => hk.2) (.int .i64 t138)) (fun _ hk => hk.2) (.slice Ao15 t139.length co15)) (fun _ hk => ⟨hk.1.1.2, hk.1.2⟩)))⟩; have n1_ : Aside0 (Kd.R Kd.string 9 w16 w.heap.size (fun _ => True) (.slice Ao15 t139.length co15) t139) := ⟨(by rw [hw]; exact (by (with_reducible repeat (first | apply Kd.R_alloc | apply Kd.R_drewN | apply Kd.R_drew)); exact Kd.R_mono (Kd.R_far (p := ⟨gb142, 7, none⟩) (Kd.R_far (p := ⟨gb142, 6, none⟩) (Kd.R_far (p := ⟨gb142, 5, none⟩) (Kd.R_far (p := ⟨gb142, 4, none⟩) (Kd.R_far (p := ⟨gb142, 3, none⟩) (Kd.R_far (p := ⟨gb142, 2, none⟩) (Kd.R_far (p := ⟨gb142, 1, none⟩) (Kd.R_far (p := ⟨gb142, 0, none⟩) (Kd.R_types HO141.out BK142.out (by decide)) (fun _ hk => hk.2) (.int .i64 t132)) (fun _ hk => hk.2) (.int .i64 t133)) (fun _ hk => hk.2) (.int .i64 t134)) (fun _ hk => hk.2) (.int .i64 t135)) (fun _ hk => hk.2) (.int .i64 t136)) (fun _ hk => hk.2) (.int .i64 t137)) (fun _ hk => hk.2) (.int .i64 t138)) (fun _ hk => hk.2) (.slice Ao15 t139.length co15)) (fun _ hk => trivial)))⟩; have n2_ : Aside0 (w16.heap[gb142]? = some (.cells #[.int .i64 t132, .int .i64 t133, .int .i64 t134, .int .i64 t135, .int .i64 t136, .int .i64 t137, .int .i64 t138, .slice Ao15 t139.length co15] 29 (0, 0))) := ⟨(by rw [hw]; exact (by (with_reducible repeat (first | refine blk_drewN ?_ _ | refine blk_drew ?_ | refine blk_alloc ?_ _)); refine blk_put (cs := #[.int .i64 t132, .int .i64 t133, .int .i64 t134, .int .i64 t135, .int .i64 t136, .int .i64 t137, .int .i64 t138, .slice none 0 0]) ?_ 7 _ rfl; (with_reducible repeat (first | refine blk_drewN ?_ _ | refine blk_drew ?_ | refine blk_alloc ?_ _)); refine blk_put (cs := #[.int .i64 t132, .int .i64 t133, .int .i64 t134, .int .i64 t135, .int .i64 t136, .int .i64 t137, .int .i64 0, .slice none 0 0]) ?_ 6 _ rfl; (with_reducible repeat (first | refine blk_drewN ?_ _ | refine blk_drew ?_ | refine blk_alloc ?_ _)); refine blk_put (cs := #[.int .i64 t132, .int .i64 t133, .int .i64 t134, .int .i64 t135, .int .i64 t136, .int .i64 0, .int .i64 0, .slice none 0 0]) ?_ 5 _ rfl; (with_reducible repeat (first | refine blk_drewN ?_ _ | refine blk_drew ?_ | refine blk_alloc ?_ _)); refine blk_put (cs := #[.int .i64 t132, .int .i64 t133, .int .i64 t134, .int .i64 t135, .int .i64 0, .int .i64 0, .int .i64 0, .slice none 0 0]) ?_ 4 _ rfl; (with_reducible repeat (first | refine blk_drewN ?_ _ | refine blk_drew ?_ | refine blk_alloc ?_ _)); refine blk_put (cs := #[.int .i64 t132, .int .i64 t133, .int .i64 t134, .int .i64 0, .int .i64 0, .int .i64 0, .int .i64 0, .slice none 0 0]) ?_ 3 _ rfl; (with_reducible repeat (first | refine blk_drewN ?_ _ | refine blk_drew ?_ | refine blk_alloc ?_ _)); refine blk_put (cs := #[.int .i64 t132, .int .i64 t133, .int .i64 0, .int .i64 0, .int .i64 0, .int .i64 0, .int .i64 0, .slice none 0 0]) ?_ 2 _ rfl; (with_reducible repeat (first | refine blk_drewN ?_ _ | refine blk_drew ?_ | refine blk_alloc ?_ _)); refine blk_put (cs := #[.int .i64 t132, .int .i64 0, .int .i64 0, .int .i64 0, .int .i64 0, .int .i64 0, .int .i64 0, .slice none 0 0]) ?_ 1 _ rfl; (with_reducible repeat (first | refine blk_drewN ?_ _ | refine blk_drew ?_ | refine blk_alloc ?_ _)); refine blk_put (cs := #[.int .i64 0, .int .i64 0, .int .i64 0, .int .i64 0, .int .i64 0, .int .i64 0, .int .i64 0, .slice none 0 0]) ?_ 0 _ rfl; (with_reducible repeat (first | refine blk_drewN ?_ _ | refine blk_drew ?_ | refine blk_alloc ?_ _)); exact BK142.out))⟩; have n3_ : Aside0 (Below w.heap.size w w16) := ⟨(by rw [hw]; exact (by repeat (first | (with_reducible first | exact HB.out | apply below_alloc | apply pw_below_drewN | apply below_drew1 | refine below_set ?_ GE142.out) | exact HB.out)))⟩; clear hw; clear HO_6; clear HO141; clear BK142; clear HB; have HO_6 := n0_; have HO141 := n1_; have BK142 := n2_; have HB := n3_; clear n0_ n1_ n2_ n3_; have hcz17_0 : w16.cell? ⟨gb142, 0, none⟩ = some (.int .i64 t132) := (blk_cell BK142.out 0).trans rfl; have hcz17_1 : w16.cell? ⟨gb142, 1, none⟩ = some (.int .i64 t133) := (blk_cell BK142.out 1).trans rfl; have hcz17_2 : w16.cell? ⟨gb142, 2, none⟩ = some (.int .i64 t134) := (blk_cell BK142.out 2).trans rfl; have hcz17_3 : w16.cell? ⟨gb142, 3, none⟩ = some (.int .i64 t135) := (blk_cell BK142.out 3).trans rfl; have hcz17_4 : w16.cell? ⟨gb142, 4, none⟩ = some (.int .i64 t136) := (blk_cell BK142.out 4).trans rfl; have hcz17_5 : w16.cell? ⟨gb142, 5, none⟩ = some (.int .i64 t137) := (blk_cell BK142.out 5).trans rfl; have hcz17_6 : w16.cell? ⟨gb142, 6, none⟩ = some (.int .i64 t138) := (blk_cell BK142.out 6).trans rfl; have hcz17_7 : w16.cell? ⟨gb142, 7, none⟩ = some (.slice Ao15 t139.length co15) := (blk_cell BK142.out 7).trans rfl; have hfz17_0 := blk_frozen BK142.out 0; have hfz17_1 := blk_frozen BK142.out 1; have hfz17_2 := blk_frozen BK142.out 2; have hfz17_3 := blk_frozen BK142.out 3; have hfz17_4 := blk_frozen BK142.out 4; have hfz17_5 := blk_frozen BK142.out 5; have hfz17_6 := blk_frozen BK142.out 6; have hfz17_7 := blk_frozen BK142.out 7) | ((with_reducible refine gate_builtin (b := .append) (xs := #[.tmp 28, .tmp 30]) rfl ?_); at_builtin; refine Kd.S_append k29 (w0 := w) w.heap.size rfl (.tmp 28) (.tmp 30) 22 29 (.agg #[(.int .i64 0), (.int .i64 0), (.int .i64 0), (.int .i64 0), (.int .i64 0), (.int .i64 0), (.int .i64 0), (.slice none 0 0)]) 80 rfl Try.underlying22 info29 rfl (by decide) (by omega) (.slice Ao11 x6_1.length co11) x6_1 (⟨t132, t133, t134, t135, t136, t137, t138, t139⟩ : S29) [.int .i64 t132, .int .i64 t133, .int .i64 t134, .int .i64 t135, .int .i64 t136, .int .i64 t137, .int .i64 t138, .slice Ao15 t139.length co15] (fun k_ => k_ ≠ gb142) (fun k_ => some k_ = (.slice Ao15 t139.length co15 : Value).ownBlock) rfl rfl ?aP (fun k_ hk_ => ((Kd.R_mono (ok' := fun k_ => ((fun k_ => k_ ≠ gb142)) k_ ∧ some k_ ≠ (.slice Ao11 x6_1.length co11 : Value).ownBlock) (Kd.R_types (Kd.R_apart' (HO141.out) (Kd.S_typed HO_6.out) (by decide)) BK142.out (by decide)) (fun k_ hk => ⟨hk.2, hk.1.2⟩))).1 k_ hk_.symm) ?aF ?aO ?aB ?aS ?aL ?_; (case aP => exact k29_mkM _ _ _ (⟨t132, t133, t134, t135, t136, t137, t138, t139⟩ : S29) (Kd.R_mono (Kd.R_tight rfl (Kd.R_mono (ok' := fun k_ => ((fun k_ => k_ ≠ gb142)) k_ ∧ some k_ ≠ (.slice Ao11 x6_1.length co11 : Value).ownBlock) (Kd.R_types (Kd.R_apart' (HO141.out) (Kd.S_typed HO_6.out) (by decide)) BK142.out (by decide)) (fun k_ hk => ⟨hk.2, hk.1.2⟩))) (fun _ h_ => h_))); (case aB => exact (by repeat (first | (with_reducible first | exact HB.out | apply below_alloc | apply pw_below_drewN | apply below_drew1 | refine below_set ?_ GE142.out) | exact HB.out))); (case aF => exact (fun k_ hk => Kd.freshB (g := gb142) (o := .cells #[.int .i64 t132, .int .i64 t133, .int .i64 t134, .int .i64 t135, .int .i64 t136, .int .i64 t137, .int .i64 t138, .slice Ao15 t139.length co15] 29 (0, 0)) (by (with_reducible repeat (first | refine blk_drewN ?_ _ | refine blk_drew ?_ | refine blk_alloc ?_ _)); exact BK142.out) k_ hk)); (case aO => exact (by (with_reducible repeat (first | apply Kd.S_alloc | apply Kd.S_drewN | apply Kd.S_drew)); exact Kd.S_mono HO_6.out (fun k_ hk => ⟨hk.2, fun e_ => hk.1 e_⟩))); (case aS => exact (below_size (by repeat (first | (with_reducible first | exact HB.out | apply below_alloc | apply pw_below_drewN | apply below_drew1 | refine below_set ?_ GE142.out) | exact HB.out)))); (case aL => have := LMc10.out; omega); intro v144 w18 ho hb hg hat; rw [← Ny143.out] at ho; have n0_ := Aside0.mk (blk_grown (g := gb142) (o := .cells #[.int .i64 t132, .int .i64 t133, .int .i64 t134, .int .i64 t135, .int .i64 t136, .int .i64 t137, .int .i64 t138, .slice Ao15 t139.length co15] 29 (0, 0)) (by (with_reducible repeat (first | refine blk_drewN ?_ _ | refine blk_drew ?_ | refine blk_alloc ?_ _)); exact BK142.out) hg (Kd.S_away HO_6.out (fun _ hk => hk.2))); have n1_ := Aside0.mk (hb); have n2_ := Aside0.mk (ho); clear BK142; clear HB; clear HO_6; clear HO141; have BK142 := n0_; have HB := n1_; have HO145 := n2_; clear n0_ n1_ n2_; clear ho hb hg hat))
              go_roundg k1
              case measure => have := HK1.out; omega
              case rel => exact ⟨(y143), (x7_1), (wrap64 (x8_1 + 1)), (by first | rfl | (simp; done) | (simp [*]; done)), (by first | rfl | (simp; done) | (simp [*]; done)), H', ⟨by have := HK1.out; omega⟩, ⟨by (with_reducible repeat (first | apply Kd.S_alloc | apply Kd.S_drewN | apply Kd.S_drew)); exact Kd.S_mono HO145.out (fun _ hk => trivial)⟩, ⟨by repeat (first | (with_reducible first | exact HB.out | apply below_alloc | apply pw_below_drewN | apply below_drew1 | refine below_set ?_ GE142.out) | exact HB.out)⟩⟩
            · rw [if_neg c10] at H
              exact absurd H (by simp)
          · rw [if_neg c8] at H
            exact absurd H (by simp)
      · rw [if_neg c5] at H
        have c5b0 : decide (x8_1 < (l1.length : Int)) = false := decide_eq_false c5
        clear c5
        simp only [Option.some.injEq, Prod.mk.injEq] at H
        obtain ⟨rfl, rfl⟩ := H
        go_wp2
        go_ret2
        exact ⟨_, by first | rfl | (simp [errW_none, errW_some] <;> rfl) | (simp [*, errW_none, errW_some] <;> rfl), by (with_reducible repeat (first | apply Kd.S_alloc | apply Kd.S_drewN | apply Kd.S_drew)); exact HO_6.out, by repeat (first | (with_reducible first | exact HB.out | apply below_alloc | apply pw_below_drewN | apply below_drew1) | exact HB.out)⟩

end Go.Proofs.Ytfejidinfcmfjaa.P
-- Written by a program of this session (xprint.py) over the kit's print.py.
namespace Go.Proofs.Ytfejidinfcmfjaa.P
open Go.RowKit Go.Proofs.YtfejidinfcmfjaaW.PrintWords Go.Proofs.YtfejidinfcmfjaaW.PrintLast Go.Proofs.YtfejidinfcmfjaaW.PrintMore
attribute [local go_sem] max2_int min2_int max_two min_two max_three min_three max_four min_four   -- for this text's walks alone
set_option linter.unusedVariables false
set_option linter.unusedSimpArgs false

/-! ### sextonref25_Take: function 18 -/
def sextonref25_Take.j0 : Nat → List (S29) → Int → Bool → Option (Int × Int × Int × Int × Int × Int × Int × List ByteArray × (List (S29)) × Bool)
  | 0, _, _, _ => none
  | k + 1, x0, x1, x15 => if x15 = true then (some (0, 0, 0, 0, 0, 0, 0, ([] : List ByteArray), ([] : List (S29)), false)) else (if 0 ≤ x1 then (if x1 ≤ (x0.length : Int) then ((some (x0.take (x1 : Int).toNat : List (S29))).bind fun y147 => (if ([] : List (S29)).length + y147.length < 1759218604441 then ((some (([] : List (S29)) ++ y147 : List (S29))).bind fun y152 => (if 0 ≤ (wrap64 (x1 + 1)) then (if (wrap64 (x1 + 1)) ≤ (x0.length : Int) then ((some (x0.drop ((wrap64 (x1 + 1)) : Int).toNat : List (S29))).bind fun y155 => (if y152.length + y155.length < 1759218604441 then (if x1 < (x0.length : Int) then ((sextonref25_own.f ((rd_T29 x0 x1).f0) ((rd_T29 x0 x1).f1) ((rd_T29 x0 x1).f2) ((rd_T29 x0 x1).f3) ((rd_T29 x0 x1).f4) ((rd_T29 x0 x1).f5) ((rd_T29 x0 x1).f6) ((rd_T29 x0 x1).f7)).bind fun bt164 => ((sextonref25_Own.f k (y152 ++ y155)).bind fun t174 => (some (bt164.1, bt164.2.1, bt164.2.2.1, bt164.2.2.2.1, bt164.2.2.2.2.1, bt164.2.2.2.2.2.1, bt164.2.2.2.2.2.2.1, bt164.2.2.2.2.2.2.2, t174, true)))) else (none)) else (none))) else (none)) else (none))) else (none))) else (none)) else (none))
def sextonref25_Take.f (k : Nat) (l0 : List (S29)) (a1 : Int) : Option (Int × Int × Int × Int × Int × Int × Int × List ByteArray × (List (S29)) × Bool) := if a1 < 0 then (sextonref25_Take.j0 k l0 a1 true) else (sextonref25_Take.j0 k l0 a1 (decide (a1 ≥ (l0.length : Int))))
set_option maxHeartbeats 8000000 in
set_option maxRecDepth 100000 in
theorem sextonref25_Take.calls (k : Nat) (P0_ : Nat → Prop) (A0 : Option Addr) (c0 : Nat) (l0 : List (S29)) (a1 : Int) (r1 : Int) (r2 : Int) (r3 : Int) (r4 : Int) (r5 : Int) (r6 : Int) (r7 : Int) (r8 : List ByteArray) (r9 : List (S29)) (r10 : Bool) (w : World) (hs0 : Kd.V k29 29 w w.heap.size (fun k_ => P0_ k_) (.slice A0 l0.length c0) l0) (h : sextonref25_Take.f k l0 a1 = some (r1, r2, r3, r4, r5, r6, r7, r8, r9, r10)) :
    Calls Try.prog 18 #[.slice A0 l0.length c0, .int .i64 a1] w fun e w' => ∃ v7_ v8_ : Value, e = .returned (.tuple #[.agg #[.int .i64 r1, .int .i64 r2, .int .i64 r3, .int .i64 r4, .int .i64 r5, .int .i64 r6, .int .i64 r7, v7_], v8_, .bool r10]) ∧ Kd.R Kd.string 9 w' w.heap.size (fun k_ => (w.heap.size ≤ k_)) v7_ r8 ∧ Kd.N k29 29 w' w.heap.size (fun k_ => (P0_ k_ ∨ w.heap.size ≤ k_) ∧ some k_ ≠ (v7_ : Value).ownBlock) v8_ r9 ∧ Below w.heap.size w w' := by
  have hu29 := Try.underlying29
  have HO0 := Aside0.mk (show Kd.V k29 29 w w.heap.size (fun k_ => (P0_ k_ ∨ w.heap.size ≤ k_)) (.slice A0 l0.length c0) l0 from Kd.V_mono hs0 (fun k_ hk => .inl hk))
  have HB := Aside0.mk (Below.refl w.heap.size w)
  have H : (if a1 < 0 then (sextonref25_Take.j0 k l0 a1 true) else (sextonref25_Take.j0 k l0 a1 (decide (a1 ≥ (l0.length : Int))))) = some (r1, r2, r3, r4, r5, r6, r7, r8, r9, r10) := h
  clear h
  have HC3 := Aside0.mk H
  clear H
  go_enter Try.func18, Try.ntmps18
  go_upto_region 1 with (first | ((with_reducible refine gate_dst (N := 4) rfl ?_); (try (refine gate_guard (by rfl) ?_; dsimp only)); refine box_event ?hg (N := 4) ?hd (cs := #[.int .i64 0, .int .i64 0, .int .i64 0, .int .i64 0, .int .i64 0, .int .i64 0, .int .i64 0, .slice none 0 0]) (t := 29) ?hr ?_; (case hd => rfl); (case hg => rfl); (case hr => first | (go_simp; done) | (go_simp; rfl)); intro gb146 hg w4 hbox hb; have n0_ := Aside0.mk (Kd.V_below (Kd.V_elderB (by (with_reducible repeat (first | apply Kd.V_alloc | apply Kd.V_drewN | apply Kd.V_drew)); exact HO0.out) gb146 (Nat.le_of_eq hg.symm)) hb); have n1_ := Aside0.mk (below_step (by repeat (first | (with_reducible first | exact HB.out | apply below_alloc | apply pw_below_drewN | apply below_drew1) | exact HB.out)) hb); have n2_ := Aside0.mk (hbox); have n3_ := Aside0.mk ((by rw [hg]; exact (below_size (by repeat (first | (with_reducible first | exact HB.out | apply below_alloc | apply pw_below_drewN | apply below_drew1) | exact HB.out))) : w.heap.size ≤ gb146)); have n4_ := Aside0.mk ((by rw [hg]; exact (below_size (by repeat (first | (with_reducible first | exact HB.out | apply below_alloc | apply pw_below_drewN | apply below_drew1) | exact HB.out))) : w.heap.size ≤ gb146)); clear HO0; clear HB; have HO0 := n0_; have HB := n1_; have BK146 := n2_; have GW146 := n3_; have GE146 := n4_; clear n0_ n1_ n2_ n3_ n4_; clear hb hbox hg))
  (try simp only [Act.put, List.setIfInBounds_toArray, List.set_cons_zero, List.set_cons_succ])
  go_cut [15] (fun v15 wc => ∃ (kq : Nat) (x15_2 : Bool), v15 = .bool x15_2 ∧ Aside0 (sextonref25_Take.j0 kq l0 a1 x15_2 = some (r1, r2, r3, r4, r5, r6, r7, r8, r9, r10)) ∧ Aside0 (kq ≤ k) ∧ Aside0 (Kd.V k29 29 wc w.heap.size (fun k_ => (P0_ k_ ∨ w.heap.size ≤ k_) ∧ k_ ≠ gb146) (.slice A0 l0.length c0) l0) ∧ Aside0 (wc.heap[gb146]? = some (.cells #[.int .i64 0, .int .i64 0, .int .i64 0, .int .i64 0, .int .i64 0, .int .i64 0, .int .i64 0, (.slice none 0 0)] 29 (0, 0))) ∧ Aside0 (Below w.heap.size w wc))
  case first =>
    have H := HC3.out
    clear HC3
    by_cases c5 : a1 < 0
    · rw [if_pos c5] at H
      have c5b0 : decide (a1 < 0) = true := decide_eq_true c5
      clear c5
      (first | rw [c5b0] | (simp only [i64_w, i32_w]; rw [c5b0]) | skip)
      have H' := Aside0.mk H
      clear H
      go_wp2
      go_meet
      case rel => exact ⟨_, (true), (by first | rfl | (simp; done) | (simp [*]; done)), H', ⟨by first | omega | exact Nat.le_refl _⟩, ⟨by (with_reducible repeat (first | apply Kd.V_alloc | apply Kd.V_drewN | apply Kd.V_drew)); exact HO0.out⟩, ⟨by (with_reducible repeat (first | refine blk_drewN ?_ _ | refine blk_drew ?_ | refine blk_alloc ?_ _)); exact BK146.out⟩, ⟨by repeat (first | (with_reducible first | exact HB.out | apply below_alloc | apply pw_below_drewN | apply below_drew1 | refine below_set ?_ GE146.out) | exact HB.out)⟩⟩
    · rw [if_neg c5] at H
      have c5b0 : decide (a1 < 0) = false := decide_eq_false c5
      clear c5
      (first | rw [c5b0] | (simp only [i64_w, i32_w]; rw [c5b0]) | skip)
      have H' := Aside0.mk H
      clear H
      go_wp2
      go_meet
      case rel => exact ⟨_, (decide (a1 ≥ (l0.length : Int))), (by first | rfl | (simp; done) | (simp [*]; done)), H', ⟨by first | omega | exact Nat.le_refl _⟩, ⟨by (with_reducible repeat (first | apply Kd.V_alloc | apply Kd.V_drewN | apply Kd.V_drew)); exact HO0.out⟩, ⟨by (with_reducible repeat (first | refine blk_drewN ?_ _ | refine blk_drew ?_ | refine blk_alloc ?_ _)); exact BK146.out⟩, ⟨by repeat (first | (with_reducible first | exact HB.out | apply below_alloc | apply pw_below_drewN | apply below_drew1 | refine below_set ?_ GE146.out) | exact HB.out)⟩⟩
  case rest =>
    clear HC3
    try clear c1
    try clear p2
    try clear c5
    try clear c5b0
    obtain ⟨kq, x15_2, rfl, HA, HJ2, HO_0, BK146, HB⟩ := hcut
    cases kq with
    | zero => exact absurd HA.out (by simp [sextonref25_Take.j0])
    | succ kj2 =>
      have H := HA.out
      clear HA
      simp only [sextonref25_Take.j0] at H
      by_cases c6 : x15_2 = true
      · subst c6
        have H1 : (some (0, 0, 0, 0, 0, 0, 0, ([] : List ByteArray), ([] : List (S29)), false)) = some (r1, r2, r3, r4, r5, r6, r7, r8, r9, r10) := by rw [if_pos rfl] at H; exact H
        clear H
        have H := H1
        clear H1
        simp only [Option.some.injEq, Prod.mk.injEq] at H
        obtain ⟨rfl, rfl, rfl, rfl, rfl, rfl, rfl, rfl, rfl, rfl⟩ := H
        have hcz7_0 : wc.cell? ⟨gb146, 0, none⟩ = some (.int .i64 0) := (blk_cell BK146.out 0).trans rfl
        have hcz7_1 : wc.cell? ⟨gb146, 1, none⟩ = some (.int .i64 0) := (blk_cell BK146.out 1).trans rfl
        have hcz7_2 : wc.cell? ⟨gb146, 2, none⟩ = some (.int .i64 0) := (blk_cell BK146.out 2).trans rfl
        have hcz7_3 : wc.cell? ⟨gb146, 3, none⟩ = some (.int .i64 0) := (blk_cell BK146.out 3).trans rfl
        have hcz7_4 : wc.cell? ⟨gb146, 4, none⟩ = some (.int .i64 0) := (blk_cell BK146.out 4).trans rfl
        have hcz7_5 : wc.cell? ⟨gb146, 5, none⟩ = some (.int .i64 0) := (blk_cell BK146.out 5).trans rfl
        have hcz7_6 : wc.cell? ⟨gb146, 6, none⟩ = some (.int .i64 0) := (blk_cell BK146.out 6).trans rfl
        have hcz7_7 : wc.cell? ⟨gb146, 7, none⟩ = some (.slice none 0 0) := (blk_cell BK146.out 7).trans rfl
        have hfz7_0 := blk_frozen BK146.out 0
        have hfz7_1 := blk_frozen BK146.out 1
        have hfz7_2 := blk_frozen BK146.out 2
        have hfz7_3 := blk_frozen BK146.out 3
        have hfz7_4 := blk_frozen BK146.out 4
        have hfz7_5 := blk_frozen BK146.out 5
        have hfz7_6 := blk_frozen BK146.out 6
        have hfz7_7 := blk_frozen BK146.out 7
        go_wp2
        refine bodyPost_ret (results_ctt rfl _ _ gb146 29 #[.int .i64 0, .int .i64 0, .int .i64 0, .int .i64 0, .int .i64 0, .int .i64 0, .int .i64 0, .slice none 0 0] (0, 0) _ rfl (by (with_reducible repeat (first | refine blk_drewN ?_ _ | refine blk_drew ?_ | refine blk_alloc ?_ _)); refine blk_put (cs := #[.int .i64 0, .int .i64 0, .int .i64 0, .int .i64 0, .int .i64 0, .int .i64 0, .int .i64 0, .slice none 0 0]) ?_ 7 _ rfl; (with_reducible repeat (first | refine blk_drewN ?_ _ | refine blk_drew ?_ | refine blk_alloc ?_ _)); refine blk_put (cs := #[.int .i64 0, .int .i64 0, .int .i64 0, .int .i64 0, .int .i64 0, .int .i64 0, .int .i64 0, .slice none 0 0]) ?_ 6 _ rfl; (with_reducible repeat (first | refine blk_drewN ?_ _ | refine blk_drew ?_ | refine blk_alloc ?_ _)); refine blk_put (cs := #[.int .i64 0, .int .i64 0, .int .i64 0, .int .i64 0, .int .i64 0, .int .i64 0, .int .i64 0, .slice none 0 0]) ?_ 5 _ rfl; (with_reducible repeat (first | refine blk_drewN ?_ _ | refine blk_drew ?_ | refine blk_alloc ?_ _)); refine blk_put (cs := #[.int .i64 0, .int .i64 0, .int .i64 0, .int .i64 0, .int .i64 0, .int .i64 0, .int .i64 0, .slice none 0 0]) ?_ 4 _ rfl; (with_reducible repeat (first | refine blk_drewN ?_ _ | refine blk_drew ?_ | refine blk_alloc ?_ _)); refine blk_put (cs := #[.int .i64 0, .int .i64 0, .int .i64 0, .int .i64 0, .int .i64 0, .int .i64 0, .int .i64 0, .slice none 0 0]) ?_ 3 _ rfl; (with_reducible repeat (first | refine blk_drewN ?_ _ | refine blk_drew ?_ | refine blk_alloc ?_ _)); refine blk_put (cs := #[.int .i64 0, .int .i64 0, .int .i64 0, .int .i64 0, .int .i64 0, .int .i64 0, .int .i64 0, .slice none 0 0]) ?_ 2 _ rfl; (with_reducible repeat (first | refine blk_drewN ?_ _ | refine blk_drew ?_ | refine blk_alloc ?_ _)); refine blk_put (cs := #[.int .i64 0, .int .i64 0, .int .i64 0, .int .i64 0, .int .i64 0, .int .i64 0, .int .i64 0, .slice none 0 0]) ?_ 1 _ rfl; (with_reducible repeat (first | refine blk_drewN ?_ _ | refine blk_drew ?_ | refine blk_alloc ?_ _)); refine blk_put (cs := #[.int .i64 0, .int .i64 0, .int .i64 0, .int .i64 0, .int .i64 0, .int .i64 0, .int .i64 0, .slice none 0 0]) ?_ 0 _ rfl; (with_reducible repeat (first | refine blk_drewN ?_ _ | refine blk_drew ?_ | refine blk_alloc ?_ _)); exact BK146.out) Try.underlying29 rfl (by kernel_rfl)) rfl ?_
        exact ⟨_, _, by first | rfl | (simp [errW_none, errW_some] <;> rfl) | (simp [*, errW_none, errW_some] <;> rfl), by first | exact Kd.R_nil _ _ _ _ _ | exact Kd.N_nil _ _ _ _ _ | exact Kd.V_nil _ _ _ _ _ | exact Kd.Q_nil _ _ _ _ _ | exact Kd.S_nil _ _ _ _ _, by first | exact Kd.S_nil _ _ _ _ _ | exact Kd.N_nil _ _ _ _ _ | exact Kd.V_nil _ _ _ _ _ | exact Kd.Q_nil _ _ _ _ _ | exact Kd.R_nil _ _ _ _ _, by repeat (first | (with_reducible first | exact HB.out | apply below_alloc | apply pw_below_drewN | apply below_drew1 | refine below_set ?_ GE146.out) | exact HB.out)⟩
      · replace c6 := Bool.eq_false_iff.mpr c6
        subst c6
        have H1 : (if 0 ≤ a1 then (if a1 ≤ (l0.length : Int) then ((some (l0.take (a1 : Int).toNat : List (S29))).bind fun y147 => (if ([] : List (S29)).length + y147.length < 1759218604441 then ((some (([] : List (S29)) ++ y147 : List (S29))).bind fun y152 => (if 0 ≤ (wrap64 (a1 + 1)) then (if (wrap64 (a1 + 1)) ≤ (l0.length : Int) then ((some (l0.drop ((wrap64 (a1 + 1)) : Int).toNat : List (S29))).bind fun y155 => (if y152.length + y155.length < 1759218604441 then (if a1 < (l0.length : Int) then ((sextonref25_own.f ((rd_T29 l0 a1).f0) ((rd_T29 l0 a1).f1) ((rd_T29 l0 a1).f2) ((rd_T29 l0 a1).f3) ((rd_T29 l0 a1).f4) ((rd_T29 l0 a1).f5) ((rd_T29 l0 a1).f6) ((rd_T29 l0 a1).f7)).bind fun bt164 => ((sextonref25_Own.f kj2 (y152 ++ y155)).bind fun t174 => (some (bt164.1, bt164.2.1, bt164.2.2.1, bt164.2.2.2.1, bt164.2.2.2.2.1, bt164.2.2.2.2.2.1, bt164.2.2.2.2.2.2.1, bt164.2.2.2.2.2.2.2, t174, true)))) else (none)) else (none))) else (none)) else (none))) else (none))) else (none)) else (none)) = some (r1, r2, r3, r4, r5, r6, r7, r8, r9, r10) := by rw [if_neg (show ¬ (false = true) by decide)] at H; exact H
        clear H
        have H := H1
        clear H1
        by_cases c8 : 0 ≤ a1
        · rw [if_pos c8] at H
          have c8b0 := eq_true c8
          have c8b1 : decide (0 ≤ a1) = true := decide_eq_true c8
          clear c8
          by_cases c9 : a1 ≤ (l0.length : Int)
          · rw [if_pos c9] at H
            have c9b0 := eq_true c9
            have c9b1 : decide (a1 ≤ (l0.length : Int)) = true := decide_eq_true c9
            clear c9
            obtain ⟨y147, hy147⟩ : ∃ y_ : List (S29), y_ = (l0.take (a1 : Int).toNat) := ⟨_, rfl⟩
            replace H : (if ([] : List (S29)).length + y147.length < 1759218604441 then ((some (([] : List (S29)) ++ y147 : List (S29))).bind fun y152 => (if 0 ≤ (wrap64 (a1 + 1)) then (if (wrap64 (a1 + 1)) ≤ (l0.length : Int) then ((some (l0.drop ((wrap64 (a1 + 1)) : Int).toNat : List (S29))).bind fun y155 => (if y152.length + y155.length < 1759218604441 then (if a1 < (l0.length : Int) then ((sextonref25_own.f ((rd_T29 l0 a1).f0) ((rd_T29 l0 a1).f1) ((rd_T29 l0 a1).f2) ((rd_T29 l0 a1).f3) ((rd_T29 l0 a1).f4) ((rd_T29 l0 a1).f5) ((rd_T29 l0 a1).f6) ((rd_T29 l0 a1).f7)).bind fun bt164 => ((sextonref25_Own.f kj2 (y152 ++ y155)).bind fun t174 => (some (bt164.1, bt164.2.1, bt164.2.2.1, bt164.2.2.2.1, bt164.2.2.2.2.1, bt164.2.2.2.2.2.1, bt164.2.2.2.2.2.2.1, bt164.2.2.2.2.2.2.2, t174, true)))) else (none)) else (none))) else (none)) else (none))) else (none)) = some (r1, r2, r3, r4, r5, r6, r7, r8, r9, r10) := by first | (rw [hy147]; with_reducible exact H) | (have H2_ := (Option.bind_some _ _).symm.trans H; rw [hy147]; with_reducible exact H2_) | (have H2_ := (Option.bind_some _ _).symm.trans H; with_reducible exact H2_) | with_reducible exact H | (rw [hy147]; exact H) | exact H
            have Ny147 := Aside0.mk hy147
            clear hy147
            by_cases c10 : ([] : List (S29)).length + y147.length < 1759218604441
            · rw [if_pos c10] at H
              have LMc10 := Aside0.mk c10
              clear c10
              obtain ⟨y152, hy152⟩ : ∃ y_ : List (S29), y_ = (([] : List (S29)) ++ y147) := ⟨_, rfl⟩
              replace H : (if 0 ≤ (wrap64 (a1 + 1)) then (if (wrap64 (a1 + 1)) ≤ (l0.length : Int) then ((some (l0.drop ((wrap64 (a1 + 1)) : Int).toNat : List (S29))).bind fun y155 => (if y152.length + y155.length < 1759218604441 then (if a1 < (l0.length : Int) then ((sextonref25_own.f ((rd_T29 l0 a1).f0) ((rd_T29 l0 a1).f1) ((rd_T29 l0 a1).f2) ((rd_T29 l0 a1).f3) ((rd_T29 l0 a1).f4) ((rd_T29 l0 a1).f5) ((rd_T29 l0 a1).f6) ((rd_T29 l0 a1).f7)).bind fun bt164 => ((sextonref25_Own.f kj2 (y152 ++ y155)).bind fun t174 => (some (bt164.1, bt164.2.1, bt164.2.2.1, bt164.2.2.2.1, bt164.2.2.2.2.1, bt164.2.2.2.2.2.1, bt164.2.2.2.2.2.2.1, bt164.2.2.2.2.2.2.2, t174, true)))) else (none)) else (none))) else (none)) else (none)) = some (r1, r2, r3, r4, r5, r6, r7, r8, r9, r10) := by first | (rw [hy152]; with_reducible exact H) | (have H2_ := (Option.bind_some _ _).symm.trans H; rw [hy152]; with_reducible exact H2_) | (have H2_ := (Option.bind_some _ _).symm.trans H; with_reducible exact H2_) | with_reducible exact H | (rw [hy152]; exact H) | exact H
              have Ny152 := Aside0.mk hy152
              clear hy152
              obtain ⟨ji11, hji11⟩ : ∃ j_ : Int, (wrap64 (a1 + 1)) = j_ := ⟨_, rfl⟩
              replace H : (if 0 ≤ (ji11) then (if (ji11) ≤ (l0.length : Int) then ((some (l0.drop ((ji11) : Int).toNat : List (S29))).bind fun y155 => (if y152.length + y155.length < 1759218604441 then (if a1 < (l0.length : Int) then ((sextonref25_own.f ((rd_T29 l0 a1).f0) ((rd_T29 l0 a1).f1) ((rd_T29 l0 a1).f2) ((rd_T29 l0 a1).f3) ((rd_T29 l0 a1).f4) ((rd_T29 l0 a1).f5) ((rd_T29 l0 a1).f6) ((rd_T29 l0 a1).f7)).bind fun bt164 => ((sextonref25_Own.f kj2 (y152 ++ y155)).bind fun t174 => (some (bt164.1, bt164.2.1, bt164.2.2.1, bt164.2.2.2.1, bt164.2.2.2.2.1, bt164.2.2.2.2.2.1, bt164.2.2.2.2.2.2.1, bt164.2.2.2.2.2.2.2, t174, true)))) else (none)) else (none))) else (none)) else (none)) = some (r1, r2, r3, r4, r5, r6, r7, r8, r9, r10) := by first | (rw [hji11] at H; exact H) | (simp only [hji11] at H ⊢; exact H)
              have hji11w : (IntKind.i64.wrap (a1 + 1)) = ji11 := (i64_w _).trans hji11
              by_cases c12 : 0 ≤ (ji11)
              · rw [if_pos c12] at H
                have c12b0 := eq_true c12
                have c12b1 : decide (0 ≤ (ji11)) = true := decide_eq_true c12
                clear c12
                by_cases c13 : (ji11) ≤ (l0.length : Int)
                · rw [if_pos c13] at H
                  have c13b0 := eq_true c13
                  have c13b1 : decide ((ji11) ≤ (l0.length : Int)) = true := decide_eq_true c13
                  clear c13
                  obtain ⟨y155, hy155⟩ : ∃ y_ : List (S29), y_ = (l0.drop ((ji11) : Int).toNat) := ⟨_, rfl⟩
                  replace H : (if y152.length + y155.length < 1759218604441 then (if a1 < (l0.length : Int) then ((sextonref25_own.f ((rd_T29 l0 a1).f0) ((rd_T29 l0 a1).f1) ((rd_T29 l0 a1).f2) ((rd_T29 l0 a1).f3) ((rd_T29 l0 a1).f4) ((rd_T29 l0 a1).f5) ((rd_T29 l0 a1).f6) ((rd_T29 l0 a1).f7)).bind fun bt164 => ((sextonref25_Own.f kj2 (y152 ++ y155)).bind fun t174 => (some (bt164.1, bt164.2.1, bt164.2.2.1, bt164.2.2.2.1, bt164.2.2.2.2.1, bt164.2.2.2.2.2.1, bt164.2.2.2.2.2.2.1, bt164.2.2.2.2.2.2.2, t174, true)))) else (none)) else (none)) = some (r1, r2, r3, r4, r5, r6, r7, r8, r9, r10) := by first | (rw [hy155]; with_reducible exact H) | (have H2_ := (Option.bind_some _ _).symm.trans H; rw [hy155]; with_reducible exact H2_) | (have H2_ := (Option.bind_some _ _).symm.trans H; with_reducible exact H2_) | with_reducible exact H | (rw [hy155]; exact H) | exact H
                  have Ny155 := Aside0.mk hy155
                  clear hy155
                  by_cases c14 : y152.length + y155.length < 1759218604441
                  · rw [if_pos c14] at H
                    have LMc14 := Aside0.mk c14
                    clear c14
                    obtain ⟨y160, hy160⟩ : ∃ y_ : List (S29), y_ = (y152 ++ y155) := ⟨_, rfl⟩
                    replace H : (if a1 < (l0.length : Int) then ((sextonref25_own.f ((rd_T29 l0 a1).f0) ((rd_T29 l0 a1).f1) ((rd_T29 l0 a1).f2) ((rd_T29 l0 a1).f3) ((rd_T29 l0 a1).f4) ((rd_T29 l0 a1).f5) ((rd_T29 l0 a1).f6) ((rd_T29 l0 a1).f7)).bind fun bt164 => ((sextonref25_Own.f kj2 y160).bind fun t174 => (some (bt164.1, bt164.2.1, bt164.2.2.1, bt164.2.2.2.1, bt164.2.2.2.2.1, bt164.2.2.2.2.2.1, bt164.2.2.2.2.2.2.1, bt164.2.2.2.2.2.2.2, t174, true)))) else (none)) = some (r1, r2, r3, r4, r5, r6, r7, r8, r9, r10) := by first | (rw [hy160]; with_reducible exact H) | (have H2_ := (Option.bind_some _ _).symm.trans H; rw [hy160]; with_reducible exact H2_) | (have H2_ := (Option.bind_some _ _).symm.trans H; with_reducible exact H2_) | with_reducible exact H | (rw [hy160]; exact H) | exact H
                    have Ny160 := Aside0.mk hy160
                    clear hy160
                    by_cases c15 : a1 < (l0.length : Int)
                    · rw [if_pos c15] at H
                      have c15b0 : decide (a1 < (l0.length : Int)) = true := decide_eq_true c15
                      clear c15
                      replace H := Option.bind_eq_some_iff.mp H
                      obtain ⟨⟨t164, t165, t166, t167, t168, t169, t170, t171⟩, A160, H⟩ := H
                      replace H : ((sextonref25_Own.f kj2 y160).bind fun t174 => (some (t164, t165, t166, t167, t168, t169, t170, t171, t174, true))) = some (r1, r2, r3, r4, r5, r6, r7, r8, r9, r10) := H
                      have A16 := Aside0.mk A160
                      clear A160
                      replace H := Option.bind_eq_some_iff.mp H
                      obtain ⟨t174, A170, H⟩ := H
                      replace H : (some (t164, t165, t166, t167, t168, t169, t170, t171, t174, true)) = some (r1, r2, r3, r4, r5, r6, r7, r8, r9, r10) := H
                      have A17 := Aside0.mk A170
                      clear A170
                      simp only [Option.some.injEq, Prod.mk.injEq] at H
                      obtain ⟨rfl, rfl, rfl, rfl, rfl, rfl, rfl, rfl, rfl, rfl⟩ := H
                      have q18 : (a1 : Int) ≤ ((l0.length : Int) : Int) := of_decide_eq_true (by first | (with_reducible assumption) | assumption)
                      obtain ⟨i018, hi018, _, hsz18, _⟩ := info_parts info29
                      have hroom18 : l0.length ≤ c0 := (Kd.V_reads' HO_0.out).2.1
                      have hC18 : Kd.F k29 _ _ A0 l0.length l0 := (Kd.V_at (base := w.heap.size) HO_0.out).2.2
                      have hcut18 := cut_to (P := Try.prog) 22 29 .i64 Try.underlying22 hi018 A0 l0.length c0 a1 (of_decide_eq_true (by first | (with_reducible assumption) | assumption)) q18 hroom18
                      have hr18 := Kd.F_take (m := (a1 : Int).toNat) hC18 (by omega)
                      have hy18 : y147.length = (a1 : Int).toNat := (by rw [Ny147.out, List.length_take]; omega)
                      rw [← Ny147.out] at hr18
                      rw [← hy18] at hcut18
                      have HO151 := Aside0.mk (show Kd.V k29 29 _ w.heap.size _ (.slice A0 y147.length c0) y147 from Kd.V_mk (by omega) hr18)
                      have HC151 := Aside0.mk (show y147.length ≤ c0 from by omega)
                      clear hr18 hC18 hroom18 hi018 hsz18
                      have KY18 := Aside0.mk hy18
                      clear hy18
                      replace q18 := eq_true q18
                      go_wp2_with (first | ((with_reducible refine gate_builtin (b := .append) (xs := #[.tmp 17, .tmp 20]) rfl ?_); (try (refine gate_guard (by rfl) ?_; dsimp only)); at_builtin; refine Kd.N_append_rows k29 (w0 := w) w.heap.size rfl (.tmp 17) (.tmp 20) 22 29 (.agg #[(.int .i64 0), (.int .i64 0), (.int .i64 0), (.int .i64 0), (.int .i64 0), (.int .i64 0), (.int .i64 0), (.slice none 0 0)]) 80 rfl Try.underlying22 info29 rfl (by decide) (by omega) (.slice none 0 0) ([] : List (S29)) y147 _ _ _ (fun k_ => (P0_ k_ ∨ w.heap.size ≤ k_) ∧ k_ ≠ gb146) (fun k_ => ((fun k_ => (P0_ k_ ∨ w.heap.size ≤ k_) ∧ k_ ≠ gb146)) k_ ∧ some k_ ≠ (.slice none 0 0 : Value).ownBlock) rfl rfl ?aO ?aR (fun _ hk => hk) ?aF ?aB ?aS ?aL ?_; (case aR => exact (by skip; exact Kd.V_F (Kd.V_mono (ok' := (fun k_ => ((fun k_ => (P0_ k_ ∨ w.heap.size ≤ k_) ∧ k_ ≠ gb146)) k_ ∧ some k_ ≠ (.slice none 0 0 : Value).ownBlock)) (HO151.out) (fun k_ hk => ⟨⟨hk.1, hk.2⟩, (by simp [Value.ownBlock])⟩)))); (case aB => exact (by repeat (first | (with_reducible first | exact HB.out | apply below_alloc | apply pw_below_drewN | apply below_drew1 | refine below_set ?_ GE146.out) | exact HB.out))); (case aF => exact (fun k_ hk => ⟨(.inr (Nat.le_trans (below_size (by repeat (first | (with_reducible first | exact HB.out | apply below_alloc | apply pw_below_drewN | apply below_drew1 | refine below_set ?_ GE146.out) | exact HB.out))) hk)), Kd.freshB (g := gb146) (o := .cells #[.int .i64 0, .int .i64 0, .int .i64 0, .int .i64 0, .int .i64 0, .int .i64 0, .int .i64 0, .slice none 0 0] 29 (0, 0)) (by (with_reducible repeat (first | refine blk_drewN ?_ _ | refine blk_drew ?_ | refine blk_alloc ?_ _)); exact BK146.out) k_ hk⟩)); (case aO => exact ((Kd.N_nil _ _ _ _ (fun k_ => (P0_ k_ ∨ w.heap.size ≤ k_) ∧ k_ ≠ gb146)))); (case aS => exact (below_size (by repeat (first | (with_reducible first | exact HB.out | apply below_alloc | apply pw_below_drewN | apply below_drew1 | refine below_set ?_ GE146.out) | exact HB.out)))); (case aL => have := LMc10.out; omega); intro v153 w19 ho hb hg hat; rw [← Ny152.out] at ho; have n0_ := Aside0.mk (Kd.V_afterv (Kd.V_apart_nil (by (with_reducible repeat (first | apply Kd.V_alloc | apply Kd.V_drewN | apply Kd.V_drew)); exact HO_0.out)) hg hat); have n1_ := Aside0.mk (blk_grown (g := gb146) (o := .cells #[.int .i64 0, .int .i64 0, .int .i64 0, .int .i64 0, .int .i64 0, .int .i64 0, .int .i64 0, .slice none 0 0] 29 (0, 0)) (by (with_reducible repeat (first | refine blk_drewN ?_ _ | refine blk_drew ?_ | refine blk_alloc ?_ _)); exact BK146.out) hg (by simp [Value.ownBlock])); have n2_ := Aside0.mk (Kd.V_afterv (Kd.V_apart_nil (by (with_reducible repeat (first | apply Kd.V_alloc | apply Kd.V_drewN | apply Kd.V_drew)); exact HO151.out)) hg hat); have n3_ := Aside0.mk (hb); have n4_ := Aside0.mk (ho); clear HO_0; clear BK146; clear HO151; clear HB; have HO_0 := n0_; have BK146 := n1_; have HO151 := n2_; have HB := n3_; have HO154 := n4_; clear n0_ n1_ n2_ n3_ n4_; clear ho hb hg hat; have q20 : ((ji11) : Int) ≤ ((l0.length : Int) : Int) := of_decide_eq_true (by first | (with_reducible assumption) | assumption); obtain ⟨i020, hi020, _, hsz20, _⟩ := info_parts info29; have hroom20 : l0.length ≤ c0 := (Kd.V_reads' HO_0.out).2.1; have hC20 : Kd.F k29 _ _ A0 l0.length l0 := (Kd.V_at (base := w.heap.size) HO_0.out).2.2; have q020 : (0 : Int) ≤ ((ji11) : Int) := of_decide_eq_true (by first | (with_reducible assumption) | assumption); have hcut20 := cut_from (P := Try.prog) 22 29 .i64 Try.underlying22 hi020 8 hsz20 A0 l0.length c0 (ji11) q020 q20; have hr20 := Kd.F_cut (m := ((ji11) : Int).toNat) (c := c0) hC20 (by omega) hroom20; obtain ⟨A20, hA20⟩ : ∃ A1, A1 = (if c0 = ((ji11) : Int).toNat then A0 else (A0 : Option Addr).map (·.add (((ji11) : Int).toNat * 8))) := ⟨_, rfl⟩; obtain ⟨c20, hc20⟩ : ∃ c1, c1 = c0 - ((ji11) : Int).toNat := ⟨_, rfl⟩; have hy20 : y155.length = l0.length - ((ji11) : Int).toNat := (by rw [Ny155.out, List.length_drop] <;> omega); rw [show (l0).drop ((ji11) : Int).toNat = y155 from Ny155.out.symm] at hr20; replace hr20 : Kd.F k29 _ _ A20 y155.length y155 := (by rw [hA20]; exact hr20); rw [← hy20, ← hA20, ← hc20] at hcut20; have HO159 := Aside0.mk (show Kd.V k29 29 _ w.heap.size _ (.slice A20 y155.length c20) y155 from Kd.V_mk (by rw [hy20, hc20]; exact Nat.sub_le_sub_right hroom20 _) hr20); have HC159 := Aside0.mk (show y155.length ≤ c20 from by rw [hy20, hc20]; exact Nat.sub_le_sub_right hroom20 _); clear hr20 hC20 hroom20 hi020 hsz20 hc20; have KY20 := Aside0.mk hy20; have KA20 := Aside0.mk hA20; clear hy20 hA20; replace q20 := eq_true q20) | ((with_reducible refine gate_builtin (b := .append) (xs := #[.tmp 22, .tmp 26]) rfl ?_); (try (refine gate_guard (by rfl) ?_; dsimp only)); at_builtin; refine Kd.N_append_rows k29 (w0 := w) w.heap.size rfl (.tmp 22) (.tmp 26) 22 29 (.agg #[(.int .i64 0), (.int .i64 0), (.int .i64 0), (.int .i64 0), (.int .i64 0), (.int .i64 0), (.int .i64 0), (.slice none 0 0)]) 80 rfl Try.underlying22 info29 rfl (by decide) (by omega) v153 y152 y155 _ _ _ (fun k_ => (P0_ k_ ∨ w.heap.size ≤ k_) ∧ k_ ≠ gb146) (fun k_ => ((fun k_ => (P0_ k_ ∨ w.heap.size ≤ k_) ∧ k_ ≠ gb146)) k_ ∧ some k_ ≠ (v153 : Value).ownBlock) rfl rfl ?aO ?aR (fun _ hk => hk) ?aF ?aB ?aS ?aL ?_; (case aR => exact (by skip; exact Kd.V_F (Kd.V_mono (ok' := (fun k_ => ((fun k_ => (P0_ k_ ∨ w.heap.size ≤ k_) ∧ k_ ≠ gb146)) k_ ∧ some k_ ≠ (v153 : Value).ownBlock)) (HO159.out) (fun k_ hk => ⟨⟨hk.1.1, hk.1.2⟩, hk.2⟩)))); (case aB => exact (by repeat (first | (with_reducible first | exact HB.out | apply below_alloc | apply pw_below_drewN | apply below_drew1 | refine below_set ?_ GE146.out) | exact HB.out))); (case aF => exact (fun k_ hk => ⟨(.inr (Nat.le_trans (below_size (by repeat (first | (with_reducible first | exact HB.out | apply below_alloc | apply pw_below_drewN | apply below_drew1 | refine below_set ?_ GE146.out) | exact HB.out))) hk)), Kd.freshB (g := gb146) (o := .cells #[.int .i64 0, .int .i64 0, .int .i64 0, .int .i64 0, .int .i64 0, .int .i64 0, .int .i64 0, .slice none 0 0] 29 (0, 0)) (by (with_reducible repeat (first | refine blk_drewN ?_ _ | refine blk_drew ?_ | refine blk_alloc ?_ _)); exact BK146.out) k_ hk⟩)); (case aO => exact (by (with_reducible repeat (first | apply Kd.N_alloc | apply Kd.N_drewN | apply Kd.N_drew)); exact HO154.out)); (case aS => exact (below_size (by repeat (first | (with_reducible first | exact HB.out | apply below_alloc | apply pw_below_drewN | apply below_drew1 | refine below_set ?_ GE146.out) | exact HB.out)))); (case aL => have := LMc14.out; omega); intro v161 w21 ho hb hg hat; rw [← Ny160.out] at ho; have n0_ := Aside0.mk (Kd.V_afterv (ok := (fun k_ => (P0_ k_ ∨ w.heap.size ≤ k_) ∧ k_ ≠ gb146)) (by (with_reducible repeat (first | apply Kd.V_alloc | apply Kd.V_drewN | apply Kd.V_drew)); exact HO_0.out) hg hat); have n1_ := Aside0.mk (blk_grown (g := gb146) (o := .cells #[.int .i64 0, .int .i64 0, .int .i64 0, .int .i64 0, .int .i64 0, .int .i64 0, .int .i64 0, .slice none 0 0] 29 (0, 0)) (by (with_reducible repeat (first | refine blk_drewN ?_ _ | refine blk_drew ?_ | refine blk_alloc ?_ _)); exact BK146.out) hg (Kd.N_away HO154.out (fun _ hk => hk.2))); have n2_ := Aside0.mk (Kd.V_afterv (ok := (fun k_ => (P0_ k_ ∨ w.heap.size ≤ k_) ∧ k_ ≠ gb146)) (by (with_reducible repeat (first | apply Kd.V_alloc | apply Kd.V_drewN | apply Kd.V_drew)); exact HO151.out) hg hat); have n3_ := Aside0.mk (Kd.V_afterv (ok := (fun k_ => (P0_ k_ ∨ w.heap.size ≤ k_) ∧ k_ ≠ gb146)) (by (with_reducible repeat (first | apply Kd.V_alloc | apply Kd.V_drewN | apply Kd.V_drew)); exact HO159.out) hg hat); have n4_ := Aside0.mk (hb); have n5_ := Aside0.mk (ho); clear HO_0; clear BK146; clear HO151; clear HO159; clear HB; clear HO154; have HO_0 := n0_; have BK146 := n1_; have HO151 := n2_; have HO159 := n3_; have HB := n4_; have HO162 := n5_; clear n0_ n1_ n2_ n3_ n4_ n5_; clear ho hb hg hat; have p163 : 0 ≤ (a1 : Int) := of_decide_eq_true (by first | (with_reducible assumption) | assumption); have q163 : a1 < (l0.length : Int) := of_decide_eq_true (by first | (with_reducible assumption) | assumption); obtain ⟨ad163, A163_7, c163_7, e163, hx163_0, hx163_1, hx163_2, hx163_3, hx163_4, hx163_5, hx163_6, hx163_7, hl163_7, hi163_7⟩ := at_T29 (Kd.V_reads' HO_0.out).2.2 a1 p163 q163; cases e163; obtain ⟨ce163, hce163, hMe163, hcc163⟩ := Kd.V_get HO_0.out z29 a1 p163 (by first | exact q163 | exact of_decide_eq_true (by first | (with_reducible assumption) | assumption) | (have e_ := (Kd.V_reads' HO_0.out).1; omega)); obtain ⟨ua163_7, uc163_7, rfl, ul163_7, ge163_7⟩ := k29_openF hMe163; have hv163_7 := hcc163 7 _ rfl; rw [add_field _ _ 7 (by omega)] at hv163_7; replace hv163_7 := Option.some.inj (hv163_7.symm.trans hx163_7); injection hv163_7 with hva_ hvn_ hvc_; rw [hva_] at ge163_7; rw [hvc_] at ul163_7; have HL163_7 := Aside0.mk (show Kd.V Kd.string 9 _ w.heap.size _ _ ((rd_T29 l0 a1).f7) from Kd.V_mk ul163_7 ge163_7); clear hva_ hvn_ hvc_ ge163_7 ul163_7; clear hcc163 hce163; have HR163_7 := Aside0.mk hi163_7; have HC163_7 := Aside0.mk hl163_7; clear hi163_7 hl163_7; replace p163 := eq_true p163; replace q163 := eq_true q163) | ((with_reducible refine gate_callee (f := 49) rfl ?_); refine goesL_ (some 32) rfl rfl Try.func49 (by kernel_rfl) rfl #[.agg #[.int .i64 ((rd_T29 l0 a1).f0), .int .i64 ((rd_T29 l0 a1).f1), .int .i64 ((rd_T29 l0 a1).f2), .int .i64 ((rd_T29 l0 a1).f3), .int .i64 ((rd_T29 l0 a1).f4), .int .i64 ((rd_T29 l0 a1).f5), .int .i64 ((rd_T29 l0 a1).f6), .slice A163_7 ((rd_T29 l0 a1).f7).length c163_7]] rfl (by (try simp only [List.map_toArray, List.map_cons, List.map_nil]); first | done | rfl | (simp only [List.length_drop, List.length_take]; rfl)) ?_; (with_reducible refine (sextonref25_own.calls ((rd_T29 l0 a1).f0) ((rd_T29 l0 a1).f1) ((rd_T29 l0 a1).f2) ((rd_T29 l0 a1).f3) ((rd_T29 l0 a1).f4) ((rd_T29 l0 a1).f5) ((rd_T29 l0 a1).f6) _ _ ((rd_T29 l0 a1).f7) t164 t165 t166 t167 t168 t169 t170 t171 _ ?side1 ?side2 A16.out).mono ?_); (case side1 => repeat (first | exact (by repeat (first | (with_reducible exact HR163_7.out) | (with_reducible refine Kd.C_alloc ?_ _) | (with_reducible refine Kd.C_drewN ?_ _) | (with_reducible refine Kd.C_drew ?_) | exact HR163_7.out)) | (with_reducible refine Kd.C_alloc ?_ _) | (with_reducible refine Kd.C_drewN ?_ _) | (with_reducible refine Kd.C_drew ?_))); (case side2 => exact HC163_7.out); rintro e w22 ⟨v172, rfl, ho0, hb⟩; refine ⟨_, rfl, ?_⟩; have n0_ := Aside0.mk (Kd.V_elder' (by (with_reducible repeat (first | apply Kd.V_alloc | apply Kd.V_drewN | apply Kd.V_drew)); exact HO_0.out) (Kd.R_base ho0) hb); have n1_ := Aside0.mk (Kd.V_elder' (by (with_reducible repeat (first | apply Kd.V_alloc | apply Kd.V_drewN | apply Kd.V_drew)); exact HO151.out) (Kd.R_base ho0) hb); have n2_ := Aside0.mk (Kd.V_elder' (by (with_reducible repeat (first | apply Kd.V_alloc | apply Kd.V_drewN | apply Kd.V_drew)); exact HO159.out) (Kd.R_base ho0) hb); have n3_ := Aside0.mk (Kd.N_elder' (by (with_reducible repeat (first | apply Kd.N_alloc | apply Kd.N_drewN | apply Kd.N_drew)); exact HO162.out) (Kd.R_base ho0) hb); have n4_ := Aside0.mk (Kd.V_elder' (by (with_reducible repeat (first | apply Kd.V_alloc | apply Kd.V_drewN | apply Kd.V_drew)); exact HL163_7.out) (Kd.R_base ho0) hb); have n5_ := Aside0.mk (Kd.R_lower (Kd.R_newM (M := fun k_ => (w.heap.size ≤ k_)) ho0 (below_size (by repeat (first | (with_reducible first | exact HB.out | apply below_alloc | apply pw_below_drewN | apply below_drew1 | refine below_set ?_ GE146.out) | exact HB.out))) (fun k_ h_ => h_)) (below_size (by repeat (first | (with_reducible first | exact HB.out | apply below_alloc | apply pw_below_drewN | apply below_drew1 | refine below_set ?_ GE146.out) | exact HB.out)))); have n6_ := Aside0.mk (blk_below (g := gb146) (o := .cells #[.int .i64 0, .int .i64 0, .int .i64 0, .int .i64 0, .int .i64 0, .int .i64 0, .int .i64 0, .slice none 0 0] 29 (0, 0)) (by (with_reducible repeat (first | refine blk_drewN ?_ _ | refine blk_drew ?_ | refine blk_alloc ?_ _)); exact BK146.out) hb); have n7_ := Aside0.mk (Kd.C_below (by repeat (first | (with_reducible exact HR163_7.out) | (with_reducible refine Kd.C_alloc ?_ _) | (with_reducible refine Kd.C_drewN ?_ _) | (with_reducible refine Kd.C_drew ?_) | exact HR163_7.out)) hb); have n8_ := Aside0.mk (below_step (by repeat (first | (with_reducible first | exact HB.out | apply below_alloc | apply pw_below_drewN | apply below_drew1 | refine below_set ?_ GE146.out) | exact HB.out)) hb); clear HO_0; clear HO151; clear HO159; clear HO162; clear HL163_7; clear BK146; clear HR163_7; clear HB; have HO_0 := n0_; have HO151 := n1_; have HO159 := n2_; have HO162 := n3_; have HL163_7 := n4_; have HO173 := n5_; have BK146 := n6_; have HR163_7 := n7_; have HB := n8_; clear n0_ n1_ n2_ n3_ n4_ n5_ n6_ n7_ n8_; (try clear hb); (try clear hb2); (try clear hk); (try clear hi); (try clear ho0); obtain ⟨Ao23, co23, eo23⟩ := Kd.N_slice HO162.out; subst eo23) | ((with_reducible refine gate_callee (f := 14) rfl ?_); refine goesL_ (some 34) rfl rfl Try.func14 (by kernel_rfl) rfl #[.slice Ao23 y160.length co23] rfl (by (try simp only [List.map_toArray, List.map_cons, List.map_nil]); first | done | rfl | (simp only [List.length_drop, List.length_take]; rfl)) ?_; (with_reducible refine (sextonref25_Own.calls kj2 _ _ y160 t174 _ ?side1 ?side2 A17.out).mono ?_); (case side1 => repeat (first | exact (Kd.N_reads' HO162.out).2.2 | (with_reducible refine Kd.C_alloc ?_ _) | (with_reducible refine Kd.C_drewN ?_ _) | (with_reducible refine Kd.C_drew ?_))); (case side2 => exact (Kd.N_reads' HO162.out).2.1); rintro e w24 ⟨v175, rfl, ho0, hb⟩; refine ⟨_, rfl, ?_⟩; have n0_ := Aside0.mk (Kd.V_elder' (by (with_reducible repeat (first | apply Kd.V_alloc | apply Kd.V_drewN | apply Kd.V_drew)); exact HO_0.out) (Kd.S_base ho0) hb); have n1_ := Aside0.mk (Kd.V_elder' (by (with_reducible repeat (first | apply Kd.V_alloc | apply Kd.V_drewN | apply Kd.V_drew)); exact HO151.out) (Kd.S_base ho0) hb); have n2_ := Aside0.mk (Kd.V_elder' (by (with_reducible repeat (first | apply Kd.V_alloc | apply Kd.V_drewN | apply Kd.V_drew)); exact HO159.out) (Kd.S_base ho0) hb); have n3_ := Aside0.mk (Kd.N_elder' (by (with_reducible repeat (first | apply Kd.N_alloc | apply Kd.N_drewN | apply Kd.N_drew)); exact HO162.out) (Kd.S_base ho0) hb); have n4_ := Aside0.mk (Kd.V_elder' (by (with_reducible repeat (first | apply Kd.V_alloc | apply Kd.V_drewN | apply Kd.V_drew)); exact HL163_7.out) (Kd.S_base ho0) hb); have n5_ := Aside0.mk (Kd.R_below (by (with_reducible repeat (first | apply Kd.R_alloc | apply Kd.R_drewN | apply Kd.R_drew)); exact HO173.out) hb); have n6_ := Aside0.mk (Kd.N_lower (Kd.N_mono (ok' := fun k_ => (P0_ k_ ∨ w.heap.size ≤ k_) ∧ some k_ ≠ (.slice Ao23 y160.length co23 : Value).ownBlock ∧ some k_ ≠ (v172 : Value).ownBlock ∧ k_ ≠ gb146) (Kd.S_N (Kd.S_bound ho0)) (fun k_ hk_ => ⟨(.inr (Nat.le_trans (below_size (by repeat (first | (with_reducible first | exact HB.out | apply below_alloc | apply pw_below_drewN | apply below_drew1 | refine below_set ?_ GE146.out) | exact HB.out))) hk_.2.1)), (Kd.fresh' (Kd.N_lt (by (with_reducible repeat (first | apply Kd.N_alloc | apply Kd.N_drewN | apply Kd.N_drew)); exact HO162.out)) k_ hk_.2.1), (Kd.fresh' (Kd.R_lt (by (with_reducible repeat (first | apply Kd.R_alloc | apply Kd.R_drewN | apply Kd.R_drew)); exact HO173.out)) k_ hk_.2.1), (Kd.freshB (g := gb146) (o := .cells #[.int .i64 0, .int .i64 0, .int .i64 0, .int .i64 0, .int .i64 0, .int .i64 0, .int .i64 0, .slice none 0 0] 29 (0, 0)) (by (with_reducible repeat (first | refine blk_drewN ?_ _ | refine blk_drew ?_ | refine blk_alloc ?_ _)); exact BK146.out) k_ hk_.2.1)⟩)) (below_size (by repeat (first | (with_reducible first | exact HB.out | apply below_alloc | apply pw_below_drewN | apply below_drew1 | refine below_set ?_ GE146.out) | exact HB.out)))); have n7_ := Aside0.mk (blk_below (g := gb146) (o := .cells #[.int .i64 0, .int .i64 0, .int .i64 0, .int .i64 0, .int .i64 0, .int .i64 0, .int .i64 0, .slice none 0 0] 29 (0, 0)) (by (with_reducible repeat (first | refine blk_drewN ?_ _ | refine blk_drew ?_ | refine blk_alloc ?_ _)); exact BK146.out) hb); have n8_ := Aside0.mk (Kd.C_below (by repeat (first | (with_reducible exact HR163_7.out) | (with_reducible refine Kd.C_alloc ?_ _) | (with_reducible refine Kd.C_drewN ?_ _) | (with_reducible refine Kd.C_drew ?_) | exact HR163_7.out)) hb); have n9_ := Aside0.mk (below_step (by repeat (first | (with_reducible first | exact HB.out | apply below_alloc | apply pw_below_drewN | apply below_drew1 | refine below_set ?_ GE146.out) | exact HB.out)) hb); clear HO_0; clear HO151; clear HO159; clear HO162; clear HL163_7; clear HO173; clear BK146; clear HR163_7; clear HB; have HO_0 := n0_; have HO151 := n1_; have HO159 := n2_; have HO162 := n3_; have HL163_7 := n4_; have HO173 := n5_; have HO176 := n6_; have BK146 := n7_; have HR163_7 := n8_; have HB := n9_; clear n0_ n1_ n2_ n3_ n4_ n5_ n6_ n7_ n8_ n9_; (try clear hb); (try clear hb2); (try clear hk); (try clear hi); (try clear ho0); have hcz25_0 : w24.cell? ⟨gb146, 0, none⟩ = some (.int .i64 0) := (blk_cell BK146.out 0).trans rfl; have hcz25_1 : w24.cell? ⟨gb146, 1, none⟩ = some (.int .i64 0) := (blk_cell BK146.out 1).trans rfl; have hcz25_2 : w24.cell? ⟨gb146, 2, none⟩ = some (.int .i64 0) := (blk_cell BK146.out 2).trans rfl; have hcz25_3 : w24.cell? ⟨gb146, 3, none⟩ = some (.int .i64 0) := (blk_cell BK146.out 3).trans rfl; have hcz25_4 : w24.cell? ⟨gb146, 4, none⟩ = some (.int .i64 0) := (blk_cell BK146.out 4).trans rfl; have hcz25_5 : w24.cell? ⟨gb146, 5, none⟩ = some (.int .i64 0) := (blk_cell BK146.out 5).trans rfl; have hcz25_6 : w24.cell? ⟨gb146, 6, none⟩ = some (.int .i64 0) := (blk_cell BK146.out 6).trans rfl; have hcz25_7 : w24.cell? ⟨gb146, 7, none⟩ = some (.slice none 0 0) := (blk_cell BK146.out 7).trans rfl; have hfz25_0 := blk_frozen BK146.out 0; have hfz25_1 := blk_frozen BK146.out 1; have hfz25_2 := blk_frozen BK146.out 2; have hfz25_3 := blk_frozen BK146.out 3; have hfz25_4 := blk_frozen BK146.out 4; have hfz25_5 := blk_frozen BK146.out 5; have hfz25_6 := blk_frozen BK146.out 6; have hfz25_7 := blk_frozen BK146.out 7; obtain ⟨Ao26, co26, eo26⟩ := Kd.R_slice HO173.out; subst eo26))
                      refine bodyPost_ret (results_ctt rfl _ _ gb146 29 #[.int .i64 t164, .int .i64 t165, .int .i64 t166, .int .i64 t167, .int .i64 t168, .int .i64 t169, .int .i64 t170, .slice Ao26 t171.length co26] (0, 0) _ rfl (by (with_reducible repeat (first | refine blk_drewN ?_ _ | refine blk_drew ?_ | refine blk_alloc ?_ _)); refine blk_put (cs := #[.int .i64 t164, .int .i64 t165, .int .i64 t166, .int .i64 t167, .int .i64 t168, .int .i64 t169, .int .i64 t170, .slice none 0 0]) ?_ 7 _ rfl; (with_reducible repeat (first | refine blk_drewN ?_ _ | refine blk_drew ?_ | refine blk_alloc ?_ _)); refine blk_put (cs := #[.int .i64 t164, .int .i64 t165, .int .i64 t166, .int .i64 t167, .int .i64 t168, .int .i64 t169, .int .i64 0, .slice none 0 0]) ?_ 6 _ rfl; (with_reducible repeat (first | refine blk_drewN ?_ _ | refine blk_drew ?_ | refine blk_alloc ?_ _)); refine blk_put (cs := #[.int .i64 t164, .int .i64 t165, .int .i64 t166, .int .i64 t167, .int .i64 t168, .int .i64 0, .int .i64 0, .slice none 0 0]) ?_ 5 _ rfl; (with_reducible repeat (first | refine blk_drewN ?_ _ | refine blk_drew ?_ | refine blk_alloc ?_ _)); refine blk_put (cs := #[.int .i64 t164, .int .i64 t165, .int .i64 t166, .int .i64 t167, .int .i64 0, .int .i64 0, .int .i64 0, .slice none 0 0]) ?_ 4 _ rfl; (with_reducible repeat (first | refine blk_drewN ?_ _ | refine blk_drew ?_ | refine blk_alloc ?_ _)); refine blk_put (cs := #[.int .i64 t164, .int .i64 t165, .int .i64 t166, .int .i64 0, .int .i64 0, .int .i64 0, .int .i64 0, .slice none 0 0]) ?_ 3 _ rfl; (with_reducible repeat (first | refine blk_drewN ?_ _ | refine blk_drew ?_ | refine blk_alloc ?_ _)); refine blk_put (cs := #[.int .i64 t164, .int .i64 t165, .int .i64 0, .int .i64 0, .int .i64 0, .int .i64 0, .int .i64 0, .slice none 0 0]) ?_ 2 _ rfl; (with_reducible repeat (first | refine blk_drewN ?_ _ | refine blk_drew ?_ | refine blk_alloc ?_ _)); refine blk_put (cs := #[.int .i64 t164, .int .i64 0, .int .i64 0, .int .i64 0, .int .i64 0, .int .i64 0, .int .i64 0, .slice none 0 0]) ?_ 1 _ rfl; (with_reducible repeat (first | refine blk_drewN ?_ _ | refine blk_drew ?_ | refine blk_alloc ?_ _)); refine blk_put (cs := #[.int .i64 0, .int .i64 0, .int .i64 0, .int .i64 0, .int .i64 0, .int .i64 0, .int .i64 0, .slice none 0 0]) ?_ 0 _ rfl; (with_reducible repeat (first | refine blk_drewN ?_ _ | refine blk_drew ?_ | refine blk_alloc ?_ _)); exact BK146.out) Try.underlying29 rfl (by kernel_rfl)) rfl ?_
                      exact ⟨_, _, by first | rfl | (simp [errW_none, errW_some] <;> rfl) | (simp only [← hji11]; first | rfl | (simp [errW_none, errW_some] <;> rfl)) | (simp [*, errW_none, errW_some] <;> rfl), by (with_reducible repeat (first | apply Kd.R_alloc | apply Kd.R_drewN | apply Kd.R_drew)); exact Kd.R_mono (Kd.R_far (p := ⟨gb146, 7, none⟩) (Kd.R_far (p := ⟨gb146, 6, none⟩) (Kd.R_far (p := ⟨gb146, 5, none⟩) (Kd.R_far (p := ⟨gb146, 4, none⟩) (Kd.R_far (p := ⟨gb146, 3, none⟩) (Kd.R_far (p := ⟨gb146, 2, none⟩) (Kd.R_far (p := ⟨gb146, 1, none⟩) (Kd.R_far (p := ⟨gb146, 0, none⟩) (Kd.R_types HO173.out BK146.out (by decide)) (fun _ hk => hk.2) (.int .i64 t164)) (fun _ hk => hk.2) (.int .i64 t165)) (fun _ hk => hk.2) (.int .i64 t166)) (fun _ hk => hk.2) (.int .i64 t167)) (fun _ hk => hk.2) (.int .i64 t168)) (fun _ hk => hk.2) (.int .i64 t169)) (fun _ hk => hk.2) (.int .i64 t170)) (fun _ hk => hk.2) (.slice Ao26 t171.length co26)) (fun _ hk => hk.1.1), by (with_reducible repeat (first | apply Kd.N_alloc | apply Kd.N_drewN | apply Kd.N_drew)); exact Kd.N_mono (Kd.N_far (p := ⟨gb146, 7, none⟩) (Kd.N_far (p := ⟨gb146, 6, none⟩) (Kd.N_far (p := ⟨gb146, 5, none⟩) (Kd.N_far (p := ⟨gb146, 4, none⟩) (Kd.N_far (p := ⟨gb146, 3, none⟩) (Kd.N_far (p := ⟨gb146, 2, none⟩) (Kd.N_far (p := ⟨gb146, 1, none⟩) (Kd.N_far (p := ⟨gb146, 0, none⟩) (Kd.N_mono HO176.out (fun k_ hk => (⟨hk, hk.2.2.2⟩ : _ ∧ k_ ≠ gb146))) (fun _ hk => hk.2) (.int .i64 t164)) (fun _ hk => hk.2) (.int .i64 t165)) (fun _ hk => hk.2) (.int .i64 t166)) (fun _ hk => hk.2) (.int .i64 t167)) (fun _ hk => hk.2) (.int .i64 t168)) (fun _ hk => hk.2) (.int .i64 t169)) (fun _ hk => hk.2) (.int .i64 t170)) (fun _ hk => hk.2) (.slice Ao26 t171.length co26)) (fun _ hk => ⟨hk.1.1, hk.1.2.2.1⟩), by repeat (first | (with_reducible first | exact HB.out | apply below_alloc | apply pw_below_drewN | apply below_drew1 | refine below_set ?_ GE146.out) | exact HB.out)⟩
                    · rw [if_neg c15] at H
                      exact absurd H (by simp)
                  · rw [if_neg c14] at H
                    exact absurd H (by simp)
                · rw [if_neg c13] at H
                  exact absurd H (by simp)
              · rw [if_neg c12] at H
                exact absurd H (by simp)
            · rw [if_neg c10] at H
              exact absurd H (by simp)
          · rw [if_neg c9] at H
            exact absurd H (by simp)
        · rw [if_neg c8] at H
          exact absurd H (by simp)

end Go.Proofs.Ytfejidinfcmfjaa.P
-- Written by a program of this session (xprint.py) over the kit's print.py.
namespace Go.Proofs.Ytfejidinfcmfjaa.P
open Go.RowKit Go.Proofs.YtfejidinfcmfjaaW.PrintWords Go.Proofs.YtfejidinfcmfjaaW.PrintLast Go.Proofs.YtfejidinfcmfjaaW.PrintMore
attribute [local go_sem] max2_int min2_int max_two min_two max_three min_three max_four min_four   -- for this text's walks alone
set_option linter.unusedVariables false
set_option linter.unusedSimpArgs false

/-! ### sextonref25_Copy: function 20 -/
def sextonref25_Copy.f (k : Nat) (l0 : List (S29)) (a1 : Int) : Option ((List (S29)) × Bool) := (sextonref25_Own.f k l0).bind fun t177 => (if a1 < 0 then (some (t177, false)) else (if a1 ≥ (l0.length : Int) then (some (t177, false)) else (if (l0.length : Int) ≥ 200 then (some (t177, false)) else (if 0 ≤ a1 then (if a1 < (l0.length : Int) then ((sextonref25_own.f ((rd_T29 l0 a1).f0) ((rd_T29 l0 a1).f1) ((rd_T29 l0 a1).f2) ((rd_T29 l0 a1).f3) ((rd_T29 l0 a1).f4) ((rd_T29 l0 a1).f5) ((rd_T29 l0 a1).f6) ((rd_T29 l0 a1).f7)).bind fun bt181 => (if t177.length < 1759218604441 then (some ((t177 ++ [(⟨bt181.1, bt181.2.1, bt181.2.2.1, bt181.2.2.2.1, bt181.2.2.2.2.1, bt181.2.2.2.2.2.1, bt181.2.2.2.2.2.2.1, bt181.2.2.2.2.2.2.2⟩ : S29)]), true)) else (none))) else (none)) else (none)))))
set_option maxHeartbeats 8000000 in
set_option maxRecDepth 100000 in
theorem sextonref25_Copy.calls (k : Nat) (A0 : Option Addr) (c0 : Nat) (l0 : List (S29)) (a1 : Int) (r1 : List (S29)) (r2 : Bool) (w : World) (hr0 : Kd.C k29 w A0 l0.length l0) (hc0 : l0.length ≤ c0) (h : sextonref25_Copy.f k l0 a1 = some (r1, r2)) :
    Calls Try.prog 20 #[.slice A0 l0.length c0, .int .i64 a1] w fun e w' => ∃ v0_ : Value, e = .returned (.tuple #[v0_, .bool r2]) ∧ Kd.S k29 29 w' w.heap.size (fun _ => True) v0_ r1 ∧ Below w.heap.size w w' := by
  have hu29 := Try.underlying29
  have HR0 := Aside0.mk hr0
  have HC0 := Aside0.mk hc0
  clear hr0 hc0
  have HB := Aside0.mk (Below.refl w.heap.size w)
  have H : ((sextonref25_Own.f k l0).bind fun t177 => (if a1 < 0 then (some (t177, false)) else (if a1 ≥ (l0.length : Int) then (some (t177, false)) else (if (l0.length : Int) ≥ 200 then (some (t177, false)) else (if 0 ≤ a1 then (if a1 < (l0.length : Int) then ((sextonref25_own.f ((rd_T29 l0 a1).f0) ((rd_T29 l0 a1).f1) ((rd_T29 l0 a1).f2) ((rd_T29 l0 a1).f3) ((rd_T29 l0 a1).f4) ((rd_T29 l0 a1).f5) ((rd_T29 l0 a1).f6) ((rd_T29 l0 a1).f7)).bind fun bt181 => (if t177.length < 1759218604441 then (some ((t177 ++ [(⟨bt181.1, bt181.2.1, bt181.2.2.1, bt181.2.2.2.1, bt181.2.2.2.2.1, bt181.2.2.2.2.2.1, bt181.2.2.2.2.2.2.1, bt181.2.2.2.2.2.2.2⟩ : S29)]), true)) else (none))) else (none)) else (none)))))) = some (r1, r2) := h
  clear h
  replace H := Option.bind_eq_some_iff.mp H
  obtain ⟨t177, A30, H⟩ := H
  replace H : (if a1 < 0 then (some (t177, false)) else (if a1 ≥ (l0.length : Int) then (some (t177, false)) else (if (l0.length : Int) ≥ 200 then (some (t177, false)) else (if 0 ≤ a1 then (if a1 < (l0.length : Int) then ((sextonref25_own.f ((rd_T29 l0 a1).f0) ((rd_T29 l0 a1).f1) ((rd_T29 l0 a1).f2) ((rd_T29 l0 a1).f3) ((rd_T29 l0 a1).f4) ((rd_T29 l0 a1).f5) ((rd_T29 l0 a1).f6) ((rd_T29 l0 a1).f7)).bind fun bt181 => (if t177.length < 1759218604441 then (some ((t177 ++ [(⟨bt181.1, bt181.2.1, bt181.2.2.1, bt181.2.2.2.1, bt181.2.2.2.2.1, bt181.2.2.2.2.2.1, bt181.2.2.2.2.2.2.1, bt181.2.2.2.2.2.2.2⟩ : S29)]), true)) else (none))) else (none)) else (none))))) = some (r1, r2) := H
  have A3 := Aside0.mk A30
  clear A30
  by_cases c4 : a1 < 0
  · rw [if_pos c4] at H
    have c4b0 : decide (a1 < 0) = true := decide_eq_true c4
    clear c4
    simp only [Option.some.injEq, Prod.mk.injEq] at H
    obtain ⟨rfl, rfl⟩ := H
    go_enter Try.func20, Try.ntmps20
    go_wp2_with (first | ((with_reducible refine gate_callee (f := 14) rfl ?_); refine goesL_ (some 9) rfl rfl Try.func14 (by kernel_rfl) rfl #[.slice A0 l0.length c0] rfl (by (try simp only [List.map_toArray, List.map_cons, List.map_nil]); first | done | rfl | (simp only [List.length_drop, List.length_take]; rfl)) ?_; (with_reducible refine (sextonref25_Own.calls k _ _ l0 t177 _ ?side1 ?side2 A3.out).mono ?_); (case side1 => repeat (first | exact HR0.out | (with_reducible refine Kd.C_alloc ?_ _) | (with_reducible refine Kd.C_drewN ?_ _) | (with_reducible refine Kd.C_drew ?_))); (case side2 => exact HC0.out); rintro e w5 ⟨v178, rfl, ho0, hb⟩; refine ⟨_, rfl, ?_⟩; have n0_ := Aside0.mk (Kd.S_lower ho0 (below_size (by repeat (first | (with_reducible first | exact HB.out | apply below_alloc | apply pw_below_drewN | apply below_drew1) | exact HB.out)))); have n1_ := Aside0.mk (below_step (by repeat (first | (with_reducible first | exact HB.out | apply below_alloc | apply pw_below_drewN | apply below_drew1) | exact HB.out)) hb); clear HB; have HO179 := n0_; have HB := n1_; clear n0_ n1_; (try clear hb); (try clear hb2); (try clear hk); (try clear hi); (try clear ho0)))
    go_ret2
    exact ⟨_, by first | rfl | (simp [errW_none, errW_some] <;> rfl) | (simp [*, errW_none, errW_some] <;> rfl), by (with_reducible repeat (first | apply Kd.S_alloc | apply Kd.S_drewN | apply Kd.S_drew)); exact HO179.out, by repeat (first | (with_reducible first | exact HB.out | apply below_alloc | apply pw_below_drewN | apply below_drew1) | exact HB.out)⟩
  · rw [if_neg c4] at H
    have c4b0 : decide (a1 < 0) = false := decide_eq_false c4
    clear c4
    by_cases c6 : a1 ≥ (l0.length : Int)
    · rw [if_pos c6] at H
      have c6b0 : decide ((l0.length : Int) ≤ a1) = true := decide_eq_true c6
      clear c6
      simp only [Option.some.injEq, Prod.mk.injEq] at H
      obtain ⟨rfl, rfl⟩ := H
      go_enter Try.func20, Try.ntmps20
      go_wp2_with (first | ((with_reducible refine gate_callee (f := 14) rfl ?_); refine goesL_ (some 9) rfl rfl Try.func14 (by kernel_rfl) rfl #[.slice A0 l0.length c0] rfl (by (try simp only [List.map_toArray, List.map_cons, List.map_nil]); first | done | rfl | (simp only [List.length_drop, List.length_take]; rfl)) ?_; (with_reducible refine (sextonref25_Own.calls k _ _ l0 t177 _ ?side1 ?side2 A3.out).mono ?_); (case side1 => repeat (first | exact HR0.out | (with_reducible refine Kd.C_alloc ?_ _) | (with_reducible refine Kd.C_drewN ?_ _) | (with_reducible refine Kd.C_drew ?_))); (case side2 => exact HC0.out); rintro e w7 ⟨v178, rfl, ho0, hb⟩; refine ⟨_, rfl, ?_⟩; have n0_ := Aside0.mk (Kd.S_lower ho0 (below_size (by repeat (first | (with_reducible first | exact HB.out | apply below_alloc | apply pw_below_drewN | apply below_drew1) | exact HB.out)))); have n1_ := Aside0.mk (below_step (by repeat (first | (with_reducible first | exact HB.out | apply below_alloc | apply pw_below_drewN | apply below_drew1) | exact HB.out)) hb); clear HB; have HO179 := n0_; have HB := n1_; clear n0_ n1_; (try clear hb); (try clear hb2); (try clear hk); (try clear hi); (try clear ho0)))
      go_ret2
      exact ⟨_, by first | rfl | (simp [errW_none, errW_some] <;> rfl) | (simp [*, errW_none, errW_some] <;> rfl), by (with_reducible repeat (first | apply Kd.S_alloc | apply Kd.S_drewN | apply Kd.S_drew)); exact HO179.out, by repeat (first | (with_reducible first | exact HB.out | apply below_alloc | apply pw_below_drewN | apply below_drew1) | exact HB.out)⟩
    · rw [if_neg c6] at H
      have c6b0 : decide ((l0.length : Int) ≤ a1) = false := decide_eq_false c6
      clear c6
      by_cases c8 : (l0.length : Int) ≥ 200
      · rw [if_pos c8] at H
        have c8b0 : decide (200 ≤ (l0.length : Int)) = true := decide_eq_true c8
        have c8b1 : decide (200 ≤ l0.length) = true := decide_eq_true (by omega)
        clear c8
        simp only [Option.some.injEq, Prod.mk.injEq] at H
        obtain ⟨rfl, rfl⟩ := H
        go_enter Try.func20, Try.ntmps20
        go_wp2_with (first | ((with_reducible refine gate_callee (f := 14) rfl ?_); refine goesL_ (some 9) rfl rfl Try.func14 (by kernel_rfl) rfl #[.slice A0 l0.length c0] rfl (by (try simp only [List.map_toArray, List.map_cons, List.map_nil]); first | done | rfl | (simp only [List.length_drop, List.length_take]; rfl)) ?_; (with_reducible refine (sextonref25_Own.calls k _ _ l0 t177 _ ?side1 ?side2 A3.out).mono ?_); (case side1 => repeat (first | exact HR0.out | (with_reducible refine Kd.C_alloc ?_ _) | (with_reducible refine Kd.C_drewN ?_ _) | (with_reducible refine Kd.C_drew ?_))); (case side2 => exact HC0.out); rintro e w9 ⟨v178, rfl, ho0, hb⟩; refine ⟨_, rfl, ?_⟩; have n0_ := Aside0.mk (Kd.S_lower ho0 (below_size (by repeat (first | (with_reducible first | exact HB.out | apply below_alloc | apply pw_below_drewN | apply below_drew1) | exact HB.out)))); have n1_ := Aside0.mk (below_step (by repeat (first | (with_reducible first | exact HB.out | apply below_alloc | apply pw_below_drewN | apply below_drew1) | exact HB.out)) hb); clear HB; have HO179 := n0_; have HB := n1_; clear n0_ n1_; (try clear hb); (try clear hb2); (try clear hk); (try clear hi); (try clear ho0)))
        go_ret2
        exact ⟨_, by first | rfl | (simp [errW_none, errW_some] <;> rfl) | (simp [*, errW_none, errW_some] <;> rfl), by (with_reducible repeat (first | apply Kd.S_alloc | apply Kd.S_drewN | apply Kd.S_drew)); exact HO179.out, by repeat (first | (with_reducible first | exact HB.out | apply below_alloc | apply pw_below_drewN | apply below_drew1) | exact HB.out)⟩
      · rw [if_neg c8] at H
        have c8b0 : decide (200 ≤ (l0.length : Int)) = false := decide_eq_false c8
        have c8b1 : decide (200 ≤ l0.length) = false := decide_eq_false (by omega)
        clear c8
        by_cases c10 : 0 ≤ a1
        · rw [if_pos c10] at H
          have c10b0 : decide (0 ≤ a1) = true := decide_eq_true c10
          clear c10
          by_cases c11 : a1 < (l0.length : Int)
          · rw [if_pos c11] at H
            have c11b0 : decide (a1 < (l0.length : Int)) = true := decide_eq_true c11
            clear c11
            replace H := Option.bind_eq_some_iff.mp H
            obtain ⟨⟨t181, t182, t183, t184, t185, t186, t187, t188⟩, A120, H⟩ := H
            replace H : (if t177.length < 1759218604441 then (some ((t177 ++ [(⟨t181, t182, t183, t184, t185, t186, t187, t188⟩ : S29)]), true)) else (none)) = some (r1, r2) := H
            have A12 := Aside0.mk A120
            clear A120
            by_cases c13 : t177.length < 1759218604441
            · rw [if_pos c13] at H
              have LMc13 := Aside0.mk c13
              clear c13
              obtain ⟨y192, hy192⟩ : ∃ y_ : List (S29), y_ = (t177 ++ [(⟨t181, t182, t183, t184, t185, t186, t187, t188⟩ : S29)]) := ⟨_, rfl⟩
              replace H : (some (y192, true)) = some (r1, r2) := by first | (rw [hy192]; with_reducible exact H) | (have H2_ := (Option.bind_some _ _).symm.trans H; rw [hy192]; with_reducible exact H2_) | (have H2_ := (Option.bind_some _ _).symm.trans H; with_reducible exact H2_) | with_reducible exact H | (rw [hy192]; exact H) | exact H
              have Ny192 := Aside0.mk hy192
              clear hy192
              simp only [Option.some.injEq, Prod.mk.injEq] at H
              obtain ⟨rfl, rfl⟩ := H
              go_enter Try.func20, Try.ntmps20
              go_wp2_with (first | ((with_reducible refine gate_callee (f := 14) rfl ?_); refine goesL_ (some 9) rfl rfl Try.func14 (by kernel_rfl) rfl #[.slice A0 l0.length c0] rfl (by (try simp only [List.map_toArray, List.map_cons, List.map_nil]); first | done | rfl | (simp only [List.length_drop, List.length_take]; rfl)) ?_; (with_reducible refine (sextonref25_Own.calls k _ _ l0 t177 _ ?side1 ?side2 A3.out).mono ?_); (case side1 => repeat (first | exact HR0.out | (with_reducible refine Kd.C_alloc ?_ _) | (with_reducible refine Kd.C_drewN ?_ _) | (with_reducible refine Kd.C_drew ?_))); (case side2 => exact HC0.out); rintro e w14 ⟨v178, rfl, ho0, hb⟩; refine ⟨_, rfl, ?_⟩; have n0_ := Aside0.mk (Kd.S_lower ho0 (below_size (by repeat (first | (with_reducible first | exact HB.out | apply below_alloc | apply pw_below_drewN | apply below_drew1) | exact HB.out)))); have n1_ := Aside0.mk (below_step (by repeat (first | (with_reducible first | exact HB.out | apply below_alloc | apply pw_below_drewN | apply below_drew1) | exact HB.out)) hb); clear HB; have HO179 := n0_; have HB := n1_; clear n0_ n1_; (try clear hb); (try clear hb2); (try clear hk); (try clear hi); (try clear ho0); have p180 : 0 ≤ (a1 : Int) := of_decide_eq_true (by first | (with_reducible assumption) | assumption); have q180 : a1 < (l0.length : Int) := of_decide_eq_true (by first | (with_reducible assumption) | assumption); obtain ⟨ad180, A180_7, c180_7, e180, hx180_0, hx180_1, hx180_2, hx180_3, hx180_4, hx180_5, hx180_6, hx180_7, hl180_7, hi180_7⟩ := at_T29 HR0.out a1 p180 q180; cases e180; replace hx180_0 := (HB.out.cell (World.block_lt_of_cell? w _ hx180_0)).trans hx180_0; replace hx180_1 := (HB.out.cell (World.block_lt_of_cell? w _ hx180_1)).trans hx180_1; replace hx180_2 := (HB.out.cell (World.block_lt_of_cell? w _ hx180_2)).trans hx180_2; replace hx180_3 := (HB.out.cell (World.block_lt_of_cell? w _ hx180_3)).trans hx180_3; replace hx180_4 := (HB.out.cell (World.block_lt_of_cell? w _ hx180_4)).trans hx180_4; replace hx180_5 := (HB.out.cell (World.block_lt_of_cell? w _ hx180_5)).trans hx180_5; replace hx180_6 := (HB.out.cell (World.block_lt_of_cell? w _ hx180_6)).trans hx180_6; replace hx180_7 := (HB.out.cell (World.block_lt_of_cell? w _ hx180_7)).trans hx180_7; have HR180_7 := Aside0.mk hi180_7; have HC180_7 := Aside0.mk hl180_7; clear hi180_7 hl180_7; replace p180 := eq_true p180; replace q180 := eq_true q180) | ((with_reducible refine gate_callee (f := 49) rfl ?_); refine goesL_ (some 28) rfl rfl Try.func49 (by kernel_rfl) rfl #[.agg #[.int .i64 ((rd_T29 l0 a1).f0), .int .i64 ((rd_T29 l0 a1).f1), .int .i64 ((rd_T29 l0 a1).f2), .int .i64 ((rd_T29 l0 a1).f3), .int .i64 ((rd_T29 l0 a1).f4), .int .i64 ((rd_T29 l0 a1).f5), .int .i64 ((rd_T29 l0 a1).f6), .slice A180_7 ((rd_T29 l0 a1).f7).length c180_7]] rfl (by (try simp only [List.map_toArray, List.map_cons, List.map_nil]); first | done | rfl | (simp only [List.length_drop, List.length_take]; rfl)) ?_; (with_reducible refine (sextonref25_own.calls ((rd_T29 l0 a1).f0) ((rd_T29 l0 a1).f1) ((rd_T29 l0 a1).f2) ((rd_T29 l0 a1).f3) ((rd_T29 l0 a1).f4) ((rd_T29 l0 a1).f5) ((rd_T29 l0 a1).f6) _ _ ((rd_T29 l0 a1).f7) t181 t182 t183 t184 t185 t186 t187 t188 _ ?side1 ?side2 A12.out).mono ?_); (case side1 => repeat (first | exact (Kd.C_below HR180_7.out HB.out) | (with_reducible refine Kd.C_alloc ?_ _) | (with_reducible refine Kd.C_drewN ?_ _) | (with_reducible refine Kd.C_drew ?_))); (case side2 => exact HC180_7.out); rintro e w15 ⟨v189, rfl, ho0, hb⟩; refine ⟨_, rfl, ?_⟩; have n0_ := Aside0.mk (Kd.S_elder' (by (with_reducible repeat (first | apply Kd.S_alloc | apply Kd.S_drewN | apply Kd.S_drew)); exact HO179.out) (Kd.R_base ho0) hb); have n1_ := Aside0.mk (Kd.R_lower ho0 (below_size (by repeat (first | (with_reducible first | exact HB.out | apply below_alloc | apply pw_below_drewN | apply below_drew1) | exact HB.out)))); have n2_ := Aside0.mk (below_step (by repeat (first | (with_reducible first | exact HB.out | apply below_alloc | apply pw_below_drewN | apply below_drew1) | exact HB.out)) hb); clear HO179; clear HB; have HO179 := n0_; have HO190 := n1_; have HB := n2_; clear n0_ n1_ n2_; (try clear hb); (try clear hb2); (try clear hk); (try clear hi); (try clear ho0)) | ((with_reducible refine gate_dst (N := 7) rfl ?_); (try (refine gate_guard (by rfl) ?_; dsimp only)); refine box_event ?hg (N := 7) ?hd (cs := #[.int .i64 0, .int .i64 0, .int .i64 0, .int .i64 0, .int .i64 0, .int .i64 0, .int .i64 0, .slice none 0 0]) (t := 29) ?hr ?_; (case hd => rfl); (case hg => rfl); (case hr => first | (go_simp; done) | (go_simp; rfl)); intro gb191 hg w16 hbox hb; have n0_ := Aside0.mk (Kd.S_below (Kd.S_elderB (by (with_reducible repeat (first | apply Kd.S_alloc | apply Kd.S_drewN | apply Kd.S_drew)); exact HO179.out) gb191 (Nat.le_of_eq hg.symm)) hb); have n1_ := Aside0.mk (Kd.R_below (by (with_reducible repeat (first | apply Kd.R_alloc | apply Kd.R_drewN | apply Kd.R_drew)); exact HO190.out) hb); have n2_ := Aside0.mk (below_step (by repeat (first | (with_reducible first | exact HB.out | apply below_alloc | apply pw_below_drewN | apply below_drew1) | exact HB.out)) hb); have n3_ := Aside0.mk (hbox); have n4_ := Aside0.mk ((by rw [hg]; exact (below_size (by repeat (first | (with_reducible first | exact HB.out | apply below_alloc | apply pw_below_drewN | apply below_drew1) | exact HB.out))) : w.heap.size ≤ gb191)); have n5_ := Aside0.mk ((by rw [hg]; exact (below_size (by repeat (first | (with_reducible first | exact HB.out | apply below_alloc | apply pw_below_drewN | apply below_drew1) | exact HB.out))) : w.heap.size ≤ gb191)); clear HO179; clear HO190; clear HB; have HO179 := n0_; have HO190 := n1_; have HB := n2_; have BK191 := n3_; have GW191 := n4_; have GE191 := n5_; clear n0_ n1_ n2_ n3_ n4_ n5_; clear hb hbox hg; have hcz17_0 : w16.cell? ⟨gb191, 0, none⟩ = some (.int .i64 0) := (blk_cell BK191.out 0).trans rfl; have hcz17_1 : w16.cell? ⟨gb191, 1, none⟩ = some (.int .i64 0) := (blk_cell BK191.out 1).trans rfl; have hcz17_2 : w16.cell? ⟨gb191, 2, none⟩ = some (.int .i64 0) := (blk_cell BK191.out 2).trans rfl; have hcz17_3 : w16.cell? ⟨gb191, 3, none⟩ = some (.int .i64 0) := (blk_cell BK191.out 3).trans rfl; have hcz17_4 : w16.cell? ⟨gb191, 4, none⟩ = some (.int .i64 0) := (blk_cell BK191.out 4).trans rfl; have hcz17_5 : w16.cell? ⟨gb191, 5, none⟩ = some (.int .i64 0) := (blk_cell BK191.out 5).trans rfl; have hcz17_6 : w16.cell? ⟨gb191, 6, none⟩ = some (.int .i64 0) := (blk_cell BK191.out 6).trans rfl; have hcz17_7 : w16.cell? ⟨gb191, 7, none⟩ = some (.slice none 0 0) := (blk_cell BK191.out 7).trans rfl; have hfz17_0 := blk_frozen BK191.out 0; have hfz17_1 := blk_frozen BK191.out 1; have hfz17_2 := blk_frozen BK191.out 2; have hfz17_3 := blk_frozen BK191.out 3; have hfz17_4 := blk_frozen BK191.out 4; have hfz17_5 := blk_frozen BK191.out 5; have hfz17_6 := blk_frozen BK191.out 6; have hfz17_7 := blk_frozen BK191.out 7; obtain ⟨Ao18, co18, eo18⟩ := Kd.R_slice HO190.out; subst eo18) | ((with_reducible refine gate_store (t := 29) (p := 7) rfl ?_); refine store_event (t := 29) (p := 7) (v := ?vo_w19) (w1 := ((((((((w16.setCell ⟨gb191, 0, none⟩ (.int .i64 t181)).setCell ⟨gb191, 1, none⟩ (.int .i64 t182)).setCell ⟨gb191, 2, none⟩ (.int .i64 t183)).setCell ⟨gb191, 3, none⟩ (.int .i64 t184)).setCell ⟨gb191, 4, none⟩ (.int .i64 t185)).setCell ⟨gb191, 5, none⟩ (.int .i64 t186)).setCell ⟨gb191, 6, none⟩ (.int .i64 t187)).setCell ⟨gb191, 7, none⟩ (.slice Ao18 t188.length co18))) ?hg ?ho ?hn ?hr ?_; (case ho => rfl); (case hg => rfl); (case hn => rfl); (case hr => first | (go_simp; done) | (go_simp; rfl)); intro w19 hw; have n0_ : Aside0 (Kd.S k29 29 w19 w.heap.size (fun k_ => some k_ ≠ (.slice Ao18 t188.length co18 : Value).ownBlock ∧ k_ ≠ gb191) v178 t177) := ⟨(by rw [hw]; exact (by (with_reducible repeat (first | apply Kd.S_alloc | apply Kd.S_drewN | apply Kd.S_drew)); exact Kd.S_mono (Kd.S_far (p := ⟨gb191, 7, none⟩) (Kd.S_far (p := ⟨gb191, 6, none⟩) (Kd.S_far (p := ⟨gb191, 5, none⟩) (Kd.S_far (p := ⟨gb191, 4, none⟩) (Kd.S_far (p := ⟨gb191, 3, none⟩) (Kd.S_far (p := ⟨gb191, 2, none⟩) (Kd.S_far (p := ⟨gb191, 1, none⟩) (Kd.S_far (p := ⟨gb191, 0, none⟩) (Kd.S_mono HO179.out (fun k_ hk => (⟨hk, hk.2⟩ : _ ∧ k_ ≠ gb191))) (fun _ hk => hk.2) (.int .i64 t181)) (fun _ hk => hk.2) (.int .i64 t182)) (fun _ hk => hk.2) (.int .i64 t183)) (fun _ hk => hk.2) (.int .i64 t184)) (fun _ hk => hk.2) (.int .i64 t185)) (fun _ hk => hk.2) (.int .i64 t186)) (fun _ hk => hk.2) (.int .i64 t187)) (fun _ hk => hk.2) (.slice Ao18 t188.length co18)) (fun _ hk => ⟨hk.1.1.2, hk.1.2⟩)))⟩; have n1_ : Aside0 (Kd.R Kd.string 9 w19 w.heap.size (fun _ => True) (.slice Ao18 t188.length co18) t188) := ⟨(by rw [hw]; exact (by (with_reducible repeat (first | apply Kd.R_alloc | apply Kd.R_drewN | apply Kd.R_drew)); exact Kd.R_mono (Kd.R_far (p := ⟨gb191, 7, none⟩) (Kd.R_far (p := ⟨gb191, 6, none⟩) (Kd.R_far (p := ⟨gb191, 5, none⟩) (Kd.R_far (p := ⟨gb191, 4, none⟩) (Kd.R_far (p := ⟨gb191, 3, none⟩) (Kd.R_far (p := ⟨gb191, 2, none⟩) (Kd.R_far (p := ⟨gb191, 1, none⟩) (Kd.R_far (p := ⟨gb191, 0, none⟩) (Kd.R_types HO190.out BK191.out (by decide)) (fun _ hk => hk.2) (.int .i64 t181)) (fun _ hk => hk.2) (.int .i64 t182)) (fun _ hk => hk.2) (.int .i64 t183)) (fun _ hk => hk.2) (.int .i64 t184)) (fun _ hk => hk.2) (.int .i64 t185)) (fun _ hk => hk.2) (.int .i64 t186)) (fun _ hk => hk.2) (.int .i64 t187)) (fun _ hk => hk.2) (.slice Ao18 t188.length co18)) (fun _ hk => trivial)))⟩; have n2_ : Aside0 (w19.heap[gb191]? = some (.cells #[.int .i64 t181, .int .i64 t182, .int .i64 t183, .int .i64 t184, .int .i64 t185, .int .i64 t186, .int .i64 t187, .slice Ao18 t188.length co18] 29 (0, 0))) := ⟨(by rw [hw]; exact (by (with_reducible repeat (first | refine blk_drewN ?_ _ | refine blk_drew ?_ | refine blk_alloc ?_ _)); refine blk_put (cs := #[.int .i64 t181, .int .i64 t182, .int .i64 t183, .int .i64 t184, .int .i64 t185, .int .i64 t186, .int .i64 t187, .slice none 0 0]) ?_ 7 _ rfl; (with_reducible repeat (first | refine blk_drewN ?_ _ | refine blk_drew ?_ | refine blk_alloc ?_ _)); refine blk_put (cs := #[.int .i64 t181, .int .i64 t182, .int .i64 t183, .int .i64 t184, .int .i64 t185, .int .i64 t186, .int .i64 0, .slice none 0 0]) ?_ 6 _ rfl; (with_reducible repeat (first | refine blk_drewN ?_ _ | refine blk_drew ?_ | refine blk_alloc ?_ _)); refine blk_put (cs := #[.int .i64 t181, .int .i64 t182, .int .i64 t183, .int .i64 t184, .int .i64 t185, .int .i64 0, .int .i64 0, .slice none 0 0]) ?_ 5 _ rfl; (with_reducible repeat (first | refine blk_drewN ?_ _ | refine blk_drew ?_ | refine blk_alloc ?_ _)); refine blk_put (cs := #[.int .i64 t181, .int .i64 t182, .int .i64 t183, .int .i64 t184, .int .i64 0, .int .i64 0, .int .i64 0, .slice none 0 0]) ?_ 4 _ rfl; (with_reducible repeat (first | refine blk_drewN ?_ _ | refine blk_drew ?_ | refine blk_alloc ?_ _)); refine blk_put (cs := #[.int .i64 t181, .int .i64 t182, .int .i64 t183, .int .i64 0, .int .i64 0, .int .i64 0, .int .i64 0, .slice none 0 0]) ?_ 3 _ rfl; (with_reducible repeat (first | refine blk_drewN ?_ _ | refine blk_drew ?_ | refine blk_alloc ?_ _)); refine blk_put (cs := #[.int .i64 t181, .int .i64 t182, .int .i64 0, .int .i64 0, .int .i64 0, .int .i64 0, .int .i64 0, .slice none 0 0]) ?_ 2 _ rfl; (with_reducible repeat (first | refine blk_drewN ?_ _ | refine blk_drew ?_ | refine blk_alloc ?_ _)); refine blk_put (cs := #[.int .i64 t181, .int .i64 0, .int .i64 0, .int .i64 0, .int .i64 0, .int .i64 0, .int .i64 0, .slice none 0 0]) ?_ 1 _ rfl; (with_reducible repeat (first | refine blk_drewN ?_ _ | refine blk_drew ?_ | refine blk_alloc ?_ _)); refine blk_put (cs := #[.int .i64 0, .int .i64 0, .int .i64 0, .int .i64 0, .int .i64 0, .int .i64 0, .int .i64 0, .slice none 0 0]) ?_ 0 _ rfl; (with_reducible repeat (first | refine blk_drewN ?_ _ | refine blk_drew ?_ | refine blk_alloc ?_ _)); exact BK191.out))⟩; have n3_ : Aside0 (Below w.heap.size w w19) := ⟨(by rw [hw]; exact (by repeat (first | (with_reducible first | exact HB.out | apply below_alloc | apply pw_below_drewN | apply below_drew1 | refine below_set ?_ GE191.out) | exact HB.out)))⟩; clear hw; clear HO179; clear HO190; clear BK191; clear HB; have HO179 := n0_; have HO190 := n1_; have BK191 := n2_; have HB := n3_; clear n0_ n1_ n2_ n3_; have hcz20_0 : w19.cell? ⟨gb191, 0, none⟩ = some (.int .i64 t181) := (blk_cell BK191.out 0).trans rfl; have hcz20_1 : w19.cell? ⟨gb191, 1, none⟩ = some (.int .i64 t182) := (blk_cell BK191.out 1).trans rfl; have hcz20_2 : w19.cell? ⟨gb191, 2, none⟩ = some (.int .i64 t183) := (blk_cell BK191.out 2).trans rfl; have hcz20_3 : w19.cell? ⟨gb191, 3, none⟩ = some (.int .i64 t184) := (blk_cell BK191.out 3).trans rfl; have hcz20_4 : w19.cell? ⟨gb191, 4, none⟩ = some (.int .i64 t185) := (blk_cell BK191.out 4).trans rfl; have hcz20_5 : w19.cell? ⟨gb191, 5, none⟩ = some (.int .i64 t186) := (blk_cell BK191.out 5).trans rfl; have hcz20_6 : w19.cell? ⟨gb191, 6, none⟩ = some (.int .i64 t187) := (blk_cell BK191.out 6).trans rfl; have hcz20_7 : w19.cell? ⟨gb191, 7, none⟩ = some (.slice Ao18 t188.length co18) := (blk_cell BK191.out 7).trans rfl; have hfz20_0 := blk_frozen BK191.out 0; have hfz20_1 := blk_frozen BK191.out 1; have hfz20_2 := blk_frozen BK191.out 2; have hfz20_3 := blk_frozen BK191.out 3; have hfz20_4 := blk_frozen BK191.out 4; have hfz20_5 := blk_frozen BK191.out 5; have hfz20_6 := blk_frozen BK191.out 6; have hfz20_7 := blk_frozen BK191.out 7) | ((with_reducible refine gate_builtin (b := .append) (xs := #[.tmp 29, .tmp 31]) rfl ?_); (try (refine gate_guard (by rfl) ?_; dsimp only)); at_builtin; refine Kd.S_append k29 (w0 := w) w.heap.size rfl (.tmp 29) (.tmp 31) 22 29 (.agg #[(.int .i64 0), (.int .i64 0), (.int .i64 0), (.int .i64 0), (.int .i64 0), (.int .i64 0), (.int .i64 0), (.slice none 0 0)]) 80 rfl Try.underlying22 info29 rfl (by decide) (by omega) v178 t177 (⟨t181, t182, t183, t184, t185, t186, t187, t188⟩ : S29) [.int .i64 t181, .int .i64 t182, .int .i64 t183, .int .i64 t184, .int .i64 t185, .int .i64 t186, .int .i64 t187, .slice Ao18 t188.length co18] (fun k_ => k_ ≠ gb191) (fun k_ => some k_ = (.slice Ao18 t188.length co18 : Value).ownBlock) rfl rfl ?aP (fun k_ hk_ => ((Kd.R_mono (ok' := fun k_ => ((fun k_ => k_ ≠ gb191)) k_ ∧ some k_ ≠ (v178 : Value).ownBlock) (Kd.R_types (Kd.R_apart' (HO190.out) (Kd.S_typed HO179.out) (by decide)) BK191.out (by decide)) (fun k_ hk => ⟨hk.2, hk.1.2⟩))).1 k_ hk_.symm) ?aF ?aO ?aB ?aS ?aL ?_; (case aP => exact k29_mkM _ _ _ (⟨t181, t182, t183, t184, t185, t186, t187, t188⟩ : S29) (Kd.R_mono (Kd.R_tight rfl (Kd.R_mono (ok' := fun k_ => ((fun k_ => k_ ≠ gb191)) k_ ∧ some k_ ≠ (v178 : Value).ownBlock) (Kd.R_types (Kd.R_apart' (HO190.out) (Kd.S_typed HO179.out) (by decide)) BK191.out (by decide)) (fun k_ hk => ⟨hk.2, hk.1.2⟩))) (fun _ h_ => h_))); (case aB => exact (by repeat (first | (with_reducible first | exact HB.out | apply below_alloc | apply pw_below_drewN | apply below_drew1 | refine below_set ?_ GE191.out) | exact HB.out))); (case aF => exact (fun k_ hk => Kd.freshB (g := gb191) (o := .cells #[.int .i64 t181, .int .i64 t182, .int .i64 t183, .int .i64 t184, .int .i64 t185, .int .i64 t186, .int .i64 t187, .slice Ao18 t188.length co18] 29 (0, 0)) (by (with_reducible repeat (first | refine blk_drewN ?_ _ | refine blk_drew ?_ | refine blk_alloc ?_ _)); exact BK191.out) k_ hk)); (case aO => exact (by (with_reducible repeat (first | apply Kd.S_alloc | apply Kd.S_drewN | apply Kd.S_drew)); exact Kd.S_mono HO179.out (fun k_ hk => ⟨hk.2, fun e_ => hk.1 e_⟩))); (case aS => exact (below_size (by repeat (first | (with_reducible first | exact HB.out | apply below_alloc | apply pw_below_drewN | apply below_drew1 | refine below_set ?_ GE191.out) | exact HB.out)))); (case aL => have := LMc13.out; omega); intro v193 w21 ho hb hg hat; rw [← Ny192.out] at ho; have n0_ := Aside0.mk (blk_grown (g := gb191) (o := .cells #[.int .i64 t181, .int .i64 t182, .int .i64 t183, .int .i64 t184, .int .i64 t185, .int .i64 t186, .int .i64 t187, .slice Ao18 t188.length co18] 29 (0, 0)) (by (with_reducible repeat (first | refine blk_drewN ?_ _ | refine blk_drew ?_ | refine blk_alloc ?_ _)); exact BK191.out) hg (Kd.S_away HO179.out (fun _ hk => hk.2))); have n1_ := Aside0.mk (hb); have n2_ := Aside0.mk (ho); clear BK191; clear HB; clear HO179; clear HO190; have BK191 := n0_; have HB := n1_; have HO194 := n2_; clear n0_ n1_ n2_; clear ho hb hg hat))
              go_ret2
              exact ⟨_, by first | rfl | (simp [errW_none, errW_some] <;> rfl) | (simp [*, errW_none, errW_some] <;> rfl), by (with_reducible repeat (first | apply Kd.S_alloc | apply Kd.S_drewN | apply Kd.S_drew)); exact Kd.S_mono HO194.out (fun _ hk => trivial), by repeat (first | (with_reducible first | exact HB.out | apply below_alloc | apply pw_below_drewN | apply below_drew1 | refine below_set ?_ GE191.out) | exact HB.out)⟩
            · rw [if_neg c13] at H
              exact absurd H (by simp)
          · rw [if_neg c11] at H
            exact absurd H (by simp)
        · rw [if_neg c10] at H
          exact absurd H (by simp)

end Go.Proofs.Ytfejidinfcmfjaa.P
-- Written by a program of this session (xprint.py) over the kit's print.py.
namespace Go.Proofs.Ytfejidinfcmfjaa.P
open Go.RowKit Go.Proofs.YtfejidinfcmfjaaW.PrintWords Go.Proofs.YtfejidinfcmfjaaW.PrintLast Go.Proofs.YtfejidinfcmfjaaW.PrintMore
attribute [local go_sem] max2_int min2_int max_two min_two max_three min_three max_four min_four   -- for this text's walks alone
set_option linter.unusedVariables false
set_option linter.unusedSimpArgs false

/-! ### sextonref25_Split: function 22 -/
mutual
def sextonref25_Split.j0 : Nat → List (S29) → Int → Bool → Option ((List (List (S29))))
  | 0, _, _, _ => none
  | k + 1, x0, x1, x15 => if x15 = true then (some ([] : List (List (S29)))) else (sextonref25_Split.l0 k x0 x1 ([] : List (List (S29))) 0)
def sextonref25_Split.l0 : Nat → List (S29) → Int → List (List (S29)) → Int → Option ((List (List (S29))))
  | 0, _, _, _, _ => none
  | k + 1, x0, x1, x5, x6 => if x6 < x1 then (sextonref25_Split.l1 k x0 x1 x5 x6 ([] : List (S29)) 0) else (some x5)
def sextonref25_Split.l1 : Nat → List (S29) → Int → List (List (S29)) → Int → List (S29) → Int → Option ((List (List (S29))))
  | 0, _, _, _, _, _, _ => none
  | k + 1, x0, x1, x5, x6, x7, x8 => if x8 < (x0.length : Int) then (if 0 ≤ x8 then (if ((rd_T29 x0 x8).f2) = x6 then ((sextonref25_own.f ((rd_T29 x0 x8).f0) ((rd_T29 x0 x8).f1) ((rd_T29 x0 x8).f2) ((rd_T29 x0 x8).f3) ((rd_T29 x0 x8).f4) ((rd_T29 x0 x8).f5) ((rd_T29 x0 x8).f6) ((rd_T29 x0 x8).f7)).bind fun bt197 => (if x7.length < 1759218604441 then (sextonref25_Split.l1 k x0 x1 x5 x6 (x7 ++ [(⟨bt197.1, bt197.2.1, bt197.2.2.1, bt197.2.2.2.1, bt197.2.2.2.2.1, bt197.2.2.2.2.2.1, bt197.2.2.2.2.2.2.1, bt197.2.2.2.2.2.2.2⟩ : S29)]) (wrap64 (x8 + 1))) else (none))) else (sextonref25_Split.l1 k x0 x1 x5 x6 x7 (wrap64 (x8 + 1)))) else (none)) else (if x5.length < 5864062014805 then (sextonref25_Split.l0 k x0 x1 (x5 ++ [x7]) (wrap64 (x6 + 1))) else (none))
end
def sextonref25_Split.f (k : Nat) (l0 : List (S29)) (a1 : Int) : Option ((List (List (S29)))) := if a1 < 1 then (sextonref25_Split.j0 k l0 a1 true) else (sextonref25_Split.j0 k l0 a1 (decide (a1 > 7)))
set_option maxHeartbeats 8000000 in
set_option maxRecDepth 100000 in
theorem sextonref25_Split.calls (k : Nat) (A0 : Option Addr) (c0 : Nat) (l0 : List (S29)) (a1 : Int) (r : List (List (S29))) (w : World) (hr0 : Kd.C k29 w A0 l0.length l0) (hc0 : l0.length ≤ c0) (h : sextonref25_Split.f k l0 a1 = some r) :
    Calls Try.prog 22 #[.slice A0 l0.length c0, .int .i64 a1] w fun e w' => ∃ v0_ : Value, e = .returned (v0_) ∧ Kd.R (Kd.slice 29 k29) 22 w' w.heap.size (fun _ => True) v0_ r ∧ Below w.heap.size w w' := by
  have hu29 := Try.underlying29
  have HR0 := Aside0.mk hr0
  have HC0 := Aside0.mk hc0
  clear hr0 hc0
  have HB := Aside0.mk (Below.refl w.heap.size w)
  have H : (if a1 < 1 then (sextonref25_Split.j0 k l0 a1 true) else (sextonref25_Split.j0 k l0 a1 (decide (a1 > 7)))) = some r := h
  clear h
  have HC3 := Aside0.mk H
  clear H
  go_enter Try.func22, Try.ntmps22
  go_upto_region 1 with (fail)
  go_cut [15] (fun v15 wc => ∃ (kq : Nat) (x15_2 : Bool), v15 = .bool x15_2 ∧ Aside0 (sextonref25_Split.j0 kq l0 a1 x15_2 = some r) ∧ Aside0 (kq ≤ k) ∧ Aside0 (Below w.heap.size w wc))
  case first =>
    have H := HC3.out
    clear HC3
    by_cases c4 : a1 < 1
    · rw [if_pos c4] at H
      have c4b0 : decide (a1 < 1) = true := decide_eq_true c4
      clear c4
      (first | rw [c4b0] | (simp only [i64_w, i32_w]; rw [c4b0]) | skip)
      have H' := Aside0.mk H
      clear H
      go_wp2
      go_meet
      case rel => exact ⟨_, (true), (by first | rfl | (simp; done) | (simp [*]; done)), H', ⟨by first | omega | exact Nat.le_refl _⟩, ⟨by repeat (first | (with_reducible first | exact HB.out | apply below_alloc | apply pw_below_drewN | apply below_drew1) | exact HB.out)⟩⟩
    · rw [if_neg c4] at H
      have c4b0 : decide (a1 < 1) = false := decide_eq_false c4
      clear c4
      (first | rw [c4b0] | (simp only [i64_w, i32_w]; rw [c4b0]) | skip)
      have H' := Aside0.mk H
      clear H
      go_wp2
      go_meet
      case rel => exact ⟨_, (decide (a1 > 7)), (by first | rfl | (simp; done) | (simp [*]; done)), H', ⟨by first | omega | exact Nat.le_refl _⟩, ⟨by repeat (first | (with_reducible first | exact HB.out | apply below_alloc | apply pw_below_drewN | apply below_drew1) | exact HB.out)⟩⟩
  case rest =>
    clear HC3
    try clear c2
    try clear p2
    try clear c4
    try clear c4b0
    obtain ⟨kq, x15_2, rfl, HA, HJ2, HB⟩ := hcut
    cases kq with
    | zero => exact absurd HA.out (by simp [sextonref25_Split.j0])
    | succ kj2 =>
      have H := HA.out
      clear HA
      simp only [sextonref25_Split.j0] at H
      by_cases c5 : x15_2 = true
      · subst c5
        have H1 : (some ([] : List (List (S29)))) = some r := by rw [if_pos rfl] at H; exact H
        clear H
        have H := H1
        clear H1
        obtain rfl := Option.some.inj H
        go_wp2
        go_ret
        exact ⟨_, by first | rfl | (simp [errW_none, errW_some] <;> rfl) | (simp [*, errW_none, errW_some] <;> rfl), by first | exact Kd.R_nil _ _ _ _ _ | exact Kd.N_nil _ _ _ _ _ | exact Kd.V_nil _ _ _ _ _ | exact Kd.Q_nil _ _ _ _ _ | exact Kd.S_nil _ _ _ _ _, by repeat (first | (with_reducible first | exact HB.out | apply below_alloc | apply pw_below_drewN | apply below_drew1) | exact HB.out)⟩
      · replace c5 := Bool.eq_false_iff.mpr c5
        subst c5
        have H1 : (sextonref25_Split.l0 kj2 l0 a1 ([] : List (List (S29))) 0) = some r := by rw [if_neg (show ¬ (false = true) by decide)] at H; exact H
        clear H
        have H := H1
        clear H1
        have H' := Aside0.mk H
        clear H
        go_wp2
        go_loopg [5, 6] kj2 (fun kq v5 v6 w' => ∃ (x5_2 : List (List (S29))) (x6_2 : Int), v6 = .int .i64 x6_2 ∧ Aside0 (sextonref25_Split.l0 kq l0 a1 x5_2 x6_2 = some r) ∧ Aside0 (kq ≤ kj2) ∧ Aside0 (Kd.R (Kd.slice 29 k29) 22 w' w.heap.size (fun _ => True) v5 x5_2) ∧ Aside0 (Below w.heap.size w w'))
        case atStart => exact ⟨(([] : List (List (S29)))), (0), (by first | rfl | (simp; done) | (simp [*]; done)), H', ⟨Nat.le_refl _⟩, ⟨by first | exact Kd.R_nil _ _ _ _ _ | exact Kd.N_nil _ _ _ _ _ | exact Kd.V_nil _ _ _ _ _ | exact Kd.Q_nil _ _ _ _ _ | exact Kd.S_nil _ _ _ _ _⟩, ⟨by repeat (first | (with_reducible first | exact HB.out | apply below_alloc | apply pw_below_drewN | apply below_drew1) | exact HB.out)⟩⟩
        case round =>
          clear H'
          try clear c2
          try clear p2
          try clear c4
          try clear c4b0
          try clear c5
          try clear p2
          obtain ⟨x5_2, x6_2, rfl, HA, HK2, HO_5, HB⟩ := hrel
          cases gk with
          | zero => exact absurd HA.out (by simp [sextonref25_Split.l0])
          | succ k2 =>
            have H := HA.out
            clear HA
            simp only [sextonref25_Split.l0] at H
            by_cases c6 : x6_2 < a1
            · rw [if_pos c6] at H
              have c6b0 : decide (x6_2 < a1) = true := decide_eq_true c6
              clear c6
              have H' := Aside0.mk H
              clear H
              go_wp2
              go_loopg [7, 8] k2 (fun kq v7 v8 w' => ∃ (x7_3 : List (S29)) (x8_3 : Int), v8 = .int .i64 x8_3 ∧ Aside0 (sextonref25_Split.l1 kq l0 a1 x5_2 x6_2 x7_3 x8_3 = some r) ∧ Aside0 (kq ≤ k2) ∧ Aside0 (Kd.R (Kd.slice 29 k29) 22 w' w.heap.size (fun k_ => some k_ ≠ (v7 : Value).ownBlock) u5 x5_2) ∧ Aside0 (Kd.S k29 29 w' w.heap.size (fun _ => True) v7 x7_3) ∧ Aside0 (Below w.heap.size w w'))
              case atStart => exact ⟨(([] : List (S29))), (0), (by first | rfl | (simp; done) | (simp [*]; done)), H', ⟨Nat.le_refl _⟩, ⟨by (with_reducible repeat (first | apply Kd.R_alloc | apply Kd.R_drewN | apply Kd.R_drew)); exact Kd.R_mono HO_5.out (fun _ hk => (by simp [Value.ownBlock]))⟩, ⟨by first | exact Kd.S_nil _ _ _ _ _ | exact Kd.N_nil _ _ _ _ _ | exact Kd.V_nil _ _ _ _ _ | exact Kd.Q_nil _ _ _ _ _ | exact Kd.R_nil _ _ _ _ _⟩, ⟨by repeat (first | (with_reducible first | exact HB.out | apply below_alloc | apply pw_below_drewN | apply below_drew1) | exact HB.out)⟩⟩
              case round =>
                clear H'
                try clear c2
                try clear p2
                try clear c4
                try clear c4b0
                try clear c5
                try clear c6
                try clear c6b0
                try clear p2
                obtain ⟨x7_3, x8_3, rfl, HA, HK3, HO_5, HO_7, HB⟩ := hrel
                cases gk with
                | zero => exact absurd HA.out (by simp [sextonref25_Split.l1])
                | succ k3 =>
                  have H := HA.out
                  clear HA
                  simp only [sextonref25_Split.l1] at H
                  by_cases c7 : x8_3 < (l0.length : Int)
                  · rw [if_pos c7] at H
                    have c7b0 : decide (x8_3 < (l0.length : Int)) = true := decide_eq_true c7
                    clear c7
                    by_cases c8 : 0 ≤ x8_3
                    · rw [if_pos c8] at H
                      have c8b0 : decide (0 ≤ x8_3) = true := decide_eq_true c8
                      clear c8
                      by_cases c9 : ((rd_T29 l0 x8_3).f2) = x6_2
                      · rw [if_pos c9] at H
                        have c9b0 : (((rd_T29 l0 x8_3).f2) == x6_2) = true := beq_iff_eq.mpr c9
                        have c9b1 : (((rd_T29 l0 x8_3).f2) != x6_2) = false := bne_eq_false_iff_eq.mpr c9
                        clear c9
                        replace H := Option.bind_eq_some_iff.mp H
                        obtain ⟨⟨t197, t198, t199, t200, t201, t202, t203, t204⟩, A100, H⟩ := H
                        replace H : (if x7_3.length < 1759218604441 then (sextonref25_Split.l1 k3 l0 a1 x5_2 x6_2 (x7_3 ++ [(⟨t197, t198, t199, t200, t201, t202, t203, t204⟩ : S29)]) (wrap64 (x8_3 + 1))) else (none)) = some r := H
                        have A10 := Aside0.mk A100
                        clear A100
                        by_cases c11 : x7_3.length < 1759218604441
                        · rw [if_pos c11] at H
                          have LMc11 := Aside0.mk c11
                          clear c11
                          obtain ⟨y208, hy208⟩ : ∃ y_ : List (S29), y_ = (x7_3 ++ [(⟨t197, t198, t199, t200, t201, t202, t203, t204⟩ : S29)]) := ⟨_, rfl⟩
                          replace H : (sextonref25_Split.l1 k3 l0 a1 x5_2 x6_2 y208 (wrap64 (x8_3 + 1))) = some r := by first | (rw [hy208]; with_reducible exact H) | (have H2_ := (Option.bind_some _ _).symm.trans H; rw [hy208]; with_reducible exact H2_) | (have H2_ := (Option.bind_some _ _).symm.trans H; with_reducible exact H2_) | with_reducible exact H | (rw [hy208]; exact H) | exact H
                          have Ny208 := Aside0.mk hy208
                          clear hy208
                          have H' := Aside0.mk H
                          clear H
                          have p195 : 0 ≤ (x8_3 : Int) := of_decide_eq_true (by first | (with_reducible assumption) | assumption)
                          have q195 : x8_3 < (l0.length : Int) := of_decide_eq_true (by first | (with_reducible assumption) | assumption)
                          obtain ⟨ad195, A195_7, c195_7, e195, hx195_0, hx195_1, hx195_2, hx195_3, hx195_4, hx195_5, hx195_6, hx195_7, hl195_7, hi195_7⟩ := at_T29 HR0.out x8_3 p195 q195
                          cases e195
                          replace hx195_0 := (HB.out.cell (World.block_lt_of_cell? w _ hx195_0)).trans hx195_0
                          replace hx195_1 := (HB.out.cell (World.block_lt_of_cell? w _ hx195_1)).trans hx195_1
                          replace hx195_2 := (HB.out.cell (World.block_lt_of_cell? w _ hx195_2)).trans hx195_2
                          replace hx195_3 := (HB.out.cell (World.block_lt_of_cell? w _ hx195_3)).trans hx195_3
                          replace hx195_4 := (HB.out.cell (World.block_lt_of_cell? w _ hx195_4)).trans hx195_4
                          replace hx195_5 := (HB.out.cell (World.block_lt_of_cell? w _ hx195_5)).trans hx195_5
                          replace hx195_6 := (HB.out.cell (World.block_lt_of_cell? w _ hx195_6)).trans hx195_6
                          replace hx195_7 := (HB.out.cell (World.block_lt_of_cell? w _ hx195_7)).trans hx195_7
                          have HR195_7 := Aside0.mk hi195_7
                          have HC195_7 := Aside0.mk hl195_7
                          clear hi195_7 hl195_7
                          replace p195 := eq_true p195
                          replace q195 := eq_true q195
                          have p196 : 0 ≤ (x8_3 : Int) := of_decide_eq_true (by first | (with_reducible assumption) | assumption)
                          have q196 : x8_3 < (l0.length : Int) := of_decide_eq_true (by first | (with_reducible assumption) | assumption)
                          obtain ⟨ad196, A196_7, c196_7, e196, hx196_0, hx196_1, hx196_2, hx196_3, hx196_4, hx196_5, hx196_6, hx196_7, hl196_7, hi196_7⟩ := at_T29 HR0.out x8_3 p196 q196
                          obtain rfl : ad195 = ad196 := (by injection e196)
                          replace hx196_0 := (HB.out.cell (World.block_lt_of_cell? w _ hx196_0)).trans hx196_0
                          replace hx196_1 := (HB.out.cell (World.block_lt_of_cell? w _ hx196_1)).trans hx196_1
                          replace hx196_2 := (HB.out.cell (World.block_lt_of_cell? w _ hx196_2)).trans hx196_2
                          replace hx196_3 := (HB.out.cell (World.block_lt_of_cell? w _ hx196_3)).trans hx196_3
                          replace hx196_4 := (HB.out.cell (World.block_lt_of_cell? w _ hx196_4)).trans hx196_4
                          replace hx196_5 := (HB.out.cell (World.block_lt_of_cell? w _ hx196_5)).trans hx196_5
                          replace hx196_6 := (HB.out.cell (World.block_lt_of_cell? w _ hx196_6)).trans hx196_6
                          replace hx196_7 := (HB.out.cell (World.block_lt_of_cell? w _ hx196_7)).trans hx196_7
                          have HR196_7 := Aside0.mk hi196_7
                          have HC196_7 := Aside0.mk hl196_7
                          clear hi196_7 hl196_7
                          replace p196 := eq_true p196
                          replace q196 := eq_true q196
                          have ea_ := Option.some.inj (hx195_7.symm.trans hx196_7)
                          injection ea_ with ea_ en_ ec_
                          subst ea_
                          subst ec_
                          clear en_
                          go_wp2_with (first | ((with_reducible refine gate_callee (f := 49) rfl ?_); refine goesL_ (some 38) rfl rfl Try.func49 (by kernel_rfl) rfl #[.agg #[.int .i64 ((rd_T29 l0 x8_3).f0), .int .i64 ((rd_T29 l0 x8_3).f1), .int .i64 ((rd_T29 l0 x8_3).f2), .int .i64 ((rd_T29 l0 x8_3).f3), .int .i64 ((rd_T29 l0 x8_3).f4), .int .i64 ((rd_T29 l0 x8_3).f5), .int .i64 ((rd_T29 l0 x8_3).f6), .slice A195_7 ((rd_T29 l0 x8_3).f7).length c195_7]] rfl (by (try simp only [List.map_toArray, List.map_cons, List.map_nil]); first | done | rfl | (simp only [List.length_drop, List.length_take]; rfl)) ?_; (with_reducible refine (sextonref25_own.calls ((rd_T29 l0 x8_3).f0) ((rd_T29 l0 x8_3).f1) ((rd_T29 l0 x8_3).f2) ((rd_T29 l0 x8_3).f3) ((rd_T29 l0 x8_3).f4) ((rd_T29 l0 x8_3).f5) ((rd_T29 l0 x8_3).f6) _ _ ((rd_T29 l0 x8_3).f7) t197 t198 t199 t200 t201 t202 t203 t204 _ ?side1 ?side2 A10.out).mono ?_); (case side1 => repeat (first | exact (Kd.C_below HR196_7.out HB.out) | (with_reducible refine Kd.C_alloc ?_ _) | (with_reducible refine Kd.C_drewN ?_ _) | (with_reducible refine Kd.C_drew ?_))); (case side2 => exact HC196_7.out); rintro e w12 ⟨v205, rfl, ho0, hb⟩; refine ⟨_, rfl, ?_⟩; have n0_ := Aside0.mk (Kd.R_elder' (by (with_reducible repeat (first | apply Kd.R_alloc | apply Kd.R_drewN | apply Kd.R_drew)); exact HO_5.out) (Kd.R_base ho0) hb); have n1_ := Aside0.mk (Kd.S_elder' (by (with_reducible repeat (first | apply Kd.S_alloc | apply Kd.S_drewN | apply Kd.S_drew)); exact HO_7.out) (Kd.R_base ho0) hb); have n2_ := Aside0.mk (Kd.R_lower ho0 (below_size (by repeat (first | (with_reducible first | exact HB.out | apply below_alloc | apply pw_below_drewN | apply below_drew1) | exact HB.out)))); have n3_ := Aside0.mk (below_step (by repeat (first | (with_reducible first | exact HB.out | apply below_alloc | apply pw_below_drewN | apply below_drew1) | exact HB.out)) hb); clear HO_5; clear HO_7; clear HB; have HO_5 := n0_; have HO_7 := n1_; have HO206 := n2_; have HB := n3_; clear n0_ n1_ n2_ n3_; (try clear hb); (try clear hb2); (try clear hk); (try clear hi); (try clear ho0)) | ((with_reducible refine gate_dst (N := 9) rfl ?_); refine box_event ?hg (N := 9) ?hd (cs := #[.int .i64 0, .int .i64 0, .int .i64 0, .int .i64 0, .int .i64 0, .int .i64 0, .int .i64 0, .slice none 0 0]) (t := 29) ?hr ?_; (case hd => rfl); (case hg => rfl); (case hr => first | (go_simp; done) | (go_simp; rfl)); intro gb207 hg w13 hbox hb; have n0_ := Aside0.mk (Kd.R_below (Kd.R_elderB (by (with_reducible repeat (first | apply Kd.R_alloc | apply Kd.R_drewN | apply Kd.R_drew)); exact HO_5.out) gb207 (Nat.le_of_eq hg.symm)) hb); have n1_ := Aside0.mk (Kd.S_below (Kd.S_elderB (by (with_reducible repeat (first | apply Kd.S_alloc | apply Kd.S_drewN | apply Kd.S_drew)); exact HO_7.out) gb207 (Nat.le_of_eq hg.symm)) hb); have n2_ := Aside0.mk (Kd.R_below (by (with_reducible repeat (first | apply Kd.R_alloc | apply Kd.R_drewN | apply Kd.R_drew)); exact HO206.out) hb); have n3_ := Aside0.mk (below_step (by repeat (first | (with_reducible first | exact HB.out | apply below_alloc | apply pw_below_drewN | apply below_drew1) | exact HB.out)) hb); have n4_ := Aside0.mk (hbox); have n5_ := Aside0.mk ((by rw [hg]; exact (below_size (by repeat (first | (with_reducible first | exact HB.out | apply below_alloc | apply pw_below_drewN | apply below_drew1) | exact HB.out))) : w.heap.size ≤ gb207)); have n6_ := Aside0.mk ((by rw [hg]; exact (below_size (by repeat (first | (with_reducible first | exact HB.out | apply below_alloc | apply pw_below_drewN | apply below_drew1) | exact HB.out))) : w.heap.size ≤ gb207)); clear HO_5; clear HO_7; clear HO206; clear HB; have HO_5 := n0_; have HO_7 := n1_; have HO206 := n2_; have HB := n3_; have BK207 := n4_; have GW207 := n5_; have GE207 := n6_; clear n0_ n1_ n2_ n3_ n4_ n5_ n6_; clear hb hbox hg; have hcz14_0 : w13.cell? ⟨gb207, 0, none⟩ = some (.int .i64 0) := (blk_cell BK207.out 0).trans rfl; have hcz14_1 : w13.cell? ⟨gb207, 1, none⟩ = some (.int .i64 0) := (blk_cell BK207.out 1).trans rfl; have hcz14_2 : w13.cell? ⟨gb207, 2, none⟩ = some (.int .i64 0) := (blk_cell BK207.out 2).trans rfl; have hcz14_3 : w13.cell? ⟨gb207, 3, none⟩ = some (.int .i64 0) := (blk_cell BK207.out 3).trans rfl; have hcz14_4 : w13.cell? ⟨gb207, 4, none⟩ = some (.int .i64 0) := (blk_cell BK207.out 4).trans rfl; have hcz14_5 : w13.cell? ⟨gb207, 5, none⟩ = some (.int .i64 0) := (blk_cell BK207.out 5).trans rfl; have hcz14_6 : w13.cell? ⟨gb207, 6, none⟩ = some (.int .i64 0) := (blk_cell BK207.out 6).trans rfl; have hcz14_7 : w13.cell? ⟨gb207, 7, none⟩ = some (.slice none 0 0) := (blk_cell BK207.out 7).trans rfl; have hfz14_0 := blk_frozen BK207.out 0; have hfz14_1 := blk_frozen BK207.out 1; have hfz14_2 := blk_frozen BK207.out 2; have hfz14_3 := blk_frozen BK207.out 3; have hfz14_4 := blk_frozen BK207.out 4; have hfz14_5 := blk_frozen BK207.out 5; have hfz14_6 := blk_frozen BK207.out 6; have hfz14_7 := blk_frozen BK207.out 7; obtain ⟨Ao15, co15, eo15⟩ := Kd.R_slice HO206.out; subst eo15) | ((with_reducible refine gate_store (t := 29) (p := 9) rfl ?_); refine store_event (t := 29) (p := 9) (v := ?vo_w16) (w1 := ((((((((w13.setCell ⟨gb207, 0, none⟩ (.int .i64 t197)).setCell ⟨gb207, 1, none⟩ (.int .i64 t198)).setCell ⟨gb207, 2, none⟩ (.int .i64 t199)).setCell ⟨gb207, 3, none⟩ (.int .i64 t200)).setCell ⟨gb207, 4, none⟩ (.int .i64 t201)).setCell ⟨gb207, 5, none⟩ (.int .i64 t202)).setCell ⟨gb207, 6, none⟩ (.int .i64 t203)).setCell ⟨gb207, 7, none⟩ (.slice Ao15 t204.length co15))) ?hg ?ho ?hn ?hr ?_; (case ho => rfl); (case hg => rfl); (case hn => rfl); (case hr => first | (go_simp; done) | (go_simp; rfl)); intro w16 hw; have n0_ : Aside0 (Kd.R (Kd.slice 29 k29) 22 w16 w.heap.size (fun k_ => some k_ ≠ (u7 : Value).ownBlock ∧ some k_ ≠ (.slice Ao15 t204.length co15 : Value).ownBlock ∧ k_ ≠ gb207) u5 x5_2) := ⟨(by rw [hw]; exact (by (with_reducible repeat (first | apply Kd.R_alloc | apply Kd.R_drewN | apply Kd.R_drew)); exact Kd.R_mono (Kd.R_far (p := ⟨gb207, 7, none⟩) (Kd.R_far (p := ⟨gb207, 6, none⟩) (Kd.R_far (p := ⟨gb207, 5, none⟩) (Kd.R_far (p := ⟨gb207, 4, none⟩) (Kd.R_far (p := ⟨gb207, 3, none⟩) (Kd.R_far (p := ⟨gb207, 2, none⟩) (Kd.R_far (p := ⟨gb207, 1, none⟩) (Kd.R_far (p := ⟨gb207, 0, none⟩) (Kd.R_mono HO_5.out (fun k_ hk => (⟨hk, hk.2⟩ : _ ∧ k_ ≠ gb207))) (fun _ hk => hk.2) (.int .i64 t197)) (fun _ hk => hk.2) (.int .i64 t198)) (fun _ hk => hk.2) (.int .i64 t199)) (fun _ hk => hk.2) (.int .i64 t200)) (fun _ hk => hk.2) (.int .i64 t201)) (fun _ hk => hk.2) (.int .i64 t202)) (fun _ hk => hk.2) (.int .i64 t203)) (fun _ hk => hk.2) (.slice Ao15 t204.length co15)) (fun _ hk => ⟨hk.1.1.1, ⟨hk.1.1.2, hk.1.2⟩⟩)))⟩; have n1_ : Aside0 (Kd.S k29 29 w16 w.heap.size (fun k_ => some k_ ≠ (.slice Ao15 t204.length co15 : Value).ownBlock ∧ k_ ≠ gb207) u7 x7_3) := ⟨(by rw [hw]; exact (by (with_reducible repeat (first | apply Kd.S_alloc | apply Kd.S_drewN | apply Kd.S_drew)); exact Kd.S_mono (Kd.S_far (p := ⟨gb207, 7, none⟩) (Kd.S_far (p := ⟨gb207, 6, none⟩) (Kd.S_far (p := ⟨gb207, 5, none⟩) (Kd.S_far (p := ⟨gb207, 4, none⟩) (Kd.S_far (p := ⟨gb207, 3, none⟩) (Kd.S_far (p := ⟨gb207, 2, none⟩) (Kd.S_far (p := ⟨gb207, 1, none⟩) (Kd.S_far (p := ⟨gb207, 0, none⟩) (Kd.S_mono HO_7.out (fun k_ hk => (⟨hk, hk.2⟩ : _ ∧ k_ ≠ gb207))) (fun _ hk => hk.2) (.int .i64 t197)) (fun _ hk => hk.2) (.int .i64 t198)) (fun _ hk => hk.2) (.int .i64 t199)) (fun _ hk => hk.2) (.int .i64 t200)) (fun _ hk => hk.2) (.int .i64 t201)) (fun _ hk => hk.2) (.int .i64 t202)) (fun _ hk => hk.2) (.int .i64 t203)) (fun _ hk => hk.2) (.slice Ao15 t204.length co15)) (fun _ hk => ⟨hk.1.1.2, hk.1.2⟩)))⟩; have n2_ : Aside0 (Kd.R Kd.string 9 w16 w.heap.size (fun _ => True) (.slice Ao15 t204.length co15) t204) := ⟨(by rw [hw]; exact (by (with_reducible repeat (first | apply Kd.R_alloc | apply Kd.R_drewN | apply Kd.R_drew)); exact Kd.R_mono (Kd.R_far (p := ⟨gb207, 7, none⟩) (Kd.R_far (p := ⟨gb207, 6, none⟩) (Kd.R_far (p := ⟨gb207, 5, none⟩) (Kd.R_far (p := ⟨gb207, 4, none⟩) (Kd.R_far (p := ⟨gb207, 3, none⟩) (Kd.R_far (p := ⟨gb207, 2, none⟩) (Kd.R_far (p := ⟨gb207, 1, none⟩) (Kd.R_far (p := ⟨gb207, 0, none⟩) (Kd.R_types HO206.out BK207.out (by decide)) (fun _ hk => hk.2) (.int .i64 t197)) (fun _ hk => hk.2) (.int .i64 t198)) (fun _ hk => hk.2) (.int .i64 t199)) (fun _ hk => hk.2) (.int .i64 t200)) (fun _ hk => hk.2) (.int .i64 t201)) (fun _ hk => hk.2) (.int .i64 t202)) (fun _ hk => hk.2) (.int .i64 t203)) (fun _ hk => hk.2) (.slice Ao15 t204.length co15)) (fun _ hk => trivial)))⟩; have n3_ : Aside0 (w16.heap[gb207]? = some (.cells #[.int .i64 t197, .int .i64 t198, .int .i64 t199, .int .i64 t200, .int .i64 t201, .int .i64 t202, .int .i64 t203, .slice Ao15 t204.length co15] 29 (0, 0))) := ⟨(by rw [hw]; exact (by (with_reducible repeat (first | refine blk_drewN ?_ _ | refine blk_drew ?_ | refine blk_alloc ?_ _)); refine blk_put (cs := #[.int .i64 t197, .int .i64 t198, .int .i64 t199, .int .i64 t200, .int .i64 t201, .int .i64 t202, .int .i64 t203, .slice none 0 0]) ?_ 7 _ rfl; (with_reducible repeat (first | refine blk_drewN ?_ _ | refine blk_drew ?_ | refine blk_alloc ?_ _)); refine blk_put (cs := #[.int .i64 t197, .int .i64 t198, .int .i64 t199, .int .i64 t200, .int .i64 t201, .int .i64 t202, .int .i64 0, .slice none 0 0]) ?_ 6 _ rfl; (with_reducible repeat (first | refine blk_drewN ?_ _ | refine blk_drew ?_ | refine blk_alloc ?_ _)); refine blk_put (cs := #[.int .i64 t197, .int .i64 t198, .int .i64 t199, .int .i64 t200, .int .i64 t201, .int .i64 0, .int .i64 0, .slice none 0 0]) ?_ 5 _ rfl; (with_reducible repeat (first | refine blk_drewN ?_ _ | refine blk_drew ?_ | refine blk_alloc ?_ _)); refine blk_put (cs := #[.int .i64 t197, .int .i64 t198, .int .i64 t199, .int .i64 t200, .int .i64 0, .int .i64 0, .int .i64 0, .slice none 0 0]) ?_ 4 _ rfl; (with_reducible repeat (first | refine blk_drewN ?_ _ | refine blk_drew ?_ | refine blk_alloc ?_ _)); refine blk_put (cs := #[.int .i64 t197, .int .i64 t198, .int .i64 t199, .int .i64 0, .int .i64 0, .int .i64 0, .int .i64 0, .slice none 0 0]) ?_ 3 _ rfl; (with_reducible repeat (first | refine blk_drewN ?_ _ | refine blk_drew ?_ | refine blk_alloc ?_ _)); refine blk_put (cs := #[.int .i64 t197, .int .i64 t198, .int .i64 0, .int .i64 0, .int .i64 0, .int .i64 0, .int .i64 0, .slice none 0 0]) ?_ 2 _ rfl; (with_reducible repeat (first | refine blk_drewN ?_ _ | refine blk_drew ?_ | refine blk_alloc ?_ _)); refine blk_put (cs := #[.int .i64 t197, .int .i64 0, .int .i64 0, .int .i64 0, .int .i64 0, .int .i64 0, .int .i64 0, .slice none 0 0]) ?_ 1 _ rfl; (with_reducible repeat (first | refine blk_drewN ?_ _ | refine blk_drew ?_ | refine blk_alloc ?_ _)); refine blk_put (cs := #[.int .i64 0, .int .i64 0, .int .i64 0, .int .i64 0, .int .i64 0, .int .i64 0, .int .i64 0, .slice none 0 0]) ?_ 0 _ rfl; (with_reducible repeat (first | refine blk_drewN ?_ _ | refine blk_drew ?_ | refine blk_alloc ?_ _)); exact BK207.out))⟩; have n4_ : Aside0 (Below w.heap.size w w16) := ⟨(by rw [hw]; exact (by repeat (first | (with_reducible first | exact HB.out | apply below_alloc | apply pw_below_drewN | apply below_drew1 | refine below_set ?_ GE207.out) | exact HB.out)))⟩; clear hw; clear HO_5; clear HO_7; clear HO206; clear BK207; clear HB; have HO_5 := n0_; have HO_7 := n1_; have HO206 := n2_; have BK207 := n3_; have HB := n4_; clear n0_ n1_ n2_ n3_ n4_; have hcz17_0 : w16.cell? ⟨gb207, 0, none⟩ = some (.int .i64 t197) := (blk_cell BK207.out 0).trans rfl; have hcz17_1 : w16.cell? ⟨gb207, 1, none⟩ = some (.int .i64 t198) := (blk_cell BK207.out 1).trans rfl; have hcz17_2 : w16.cell? ⟨gb207, 2, none⟩ = some (.int .i64 t199) := (blk_cell BK207.out 2).trans rfl; have hcz17_3 : w16.cell? ⟨gb207, 3, none⟩ = some (.int .i64 t200) := (blk_cell BK207.out 3).trans rfl; have hcz17_4 : w16.cell? ⟨gb207, 4, none⟩ = some (.int .i64 t201) := (blk_cell BK207.out 4).trans rfl; have hcz17_5 : w16.cell? ⟨gb207, 5, none⟩ = some (.int .i64 t202) := (blk_cell BK207.out 5).trans rfl; have hcz17_6 : w16.cell? ⟨gb207, 6, none⟩ = some (.int .i64 t203) := (blk_cell BK207.out 6).trans rfl; have hcz17_7 : w16.cell? ⟨gb207, 7, none⟩ = some (.slice Ao15 t204.length co15) := (blk_cell BK207.out 7).trans rfl; have hfz17_0 := blk_frozen BK207.out 0; have hfz17_1 := blk_frozen BK207.out 1; have hfz17_2 := blk_frozen BK207.out 2; have hfz17_3 := blk_frozen BK207.out 3; have hfz17_4 := blk_frozen BK207.out 4; have hfz17_5 := blk_frozen BK207.out 5; have hfz17_6 := blk_frozen BK207.out 6; have hfz17_7 := blk_frozen BK207.out 7) | ((with_reducible refine gate_builtin (b := .append) (xs := #[.tmp 39, .tmp 41]) rfl ?_); at_builtin; refine Kd.S_append k29 (w0 := w) w.heap.size rfl (.tmp 39) (.tmp 41) 22 29 (.agg #[(.int .i64 0), (.int .i64 0), (.int .i64 0), (.int .i64 0), (.int .i64 0), (.int .i64 0), (.int .i64 0), (.slice none 0 0)]) 80 rfl Try.underlying22 info29 rfl (by decide) (by omega) u7 x7_3 (⟨t197, t198, t199, t200, t201, t202, t203, t204⟩ : S29) [.int .i64 t197, .int .i64 t198, .int .i64 t199, .int .i64 t200, .int .i64 t201, .int .i64 t202, .int .i64 t203, .slice Ao15 t204.length co15] (fun k_ => k_ ≠ gb207) (fun k_ => some k_ = (.slice Ao15 t204.length co15 : Value).ownBlock) rfl rfl ?aP (fun k_ hk_ => ((Kd.R_mono (ok' := fun k_ => ((fun k_ => k_ ≠ gb207)) k_ ∧ some k_ ≠ (u7 : Value).ownBlock) (Kd.R_types (Kd.R_apart' (HO206.out) (Kd.S_typed HO_7.out) (by decide)) BK207.out (by decide)) (fun k_ hk => ⟨hk.2, hk.1.2⟩))).1 k_ hk_.symm) ?aF ?aO ?aB ?aS ?aL ?_; (case aP => exact k29_mkM _ _ _ (⟨t197, t198, t199, t200, t201, t202, t203, t204⟩ : S29) (Kd.R_mono (Kd.R_tight rfl (Kd.R_mono (ok' := fun k_ => ((fun k_ => k_ ≠ gb207)) k_ ∧ some k_ ≠ (u7 : Value).ownBlock) (Kd.R_types (Kd.R_apart' (HO206.out) (Kd.S_typed HO_7.out) (by decide)) BK207.out (by decide)) (fun k_ hk => ⟨hk.2, hk.1.2⟩))) (fun _ h_ => h_))); (case aB => exact (by repeat (first | (with_reducible first | exact HB.out | apply below_alloc | apply pw_below_drewN | apply below_drew1 | refine below_set ?_ GE207.out) | exact HB.out))); (case aF => exact (fun k_ hk => Kd.freshB (g := gb207) (o := .cells #[.int .i64 t197, .int .i64 t198, .int .i64 t199, .int .i64 t200, .int .i64 t201, .int .i64 t202, .int .i64 t203, .slice Ao15 t204.length co15] 29 (0, 0)) (by (with_reducible repeat (first | refine blk_drewN ?_ _ | refine blk_drew ?_ | refine blk_alloc ?_ _)); exact BK207.out) k_ hk)); (case aO => exact (by (with_reducible repeat (first | apply Kd.S_alloc | apply Kd.S_drewN | apply Kd.S_drew)); exact Kd.S_mono HO_7.out (fun k_ hk => ⟨hk.2, fun e_ => hk.1 e_⟩))); (case aS => exact (below_size (by repeat (first | (with_reducible first | exact HB.out | apply below_alloc | apply pw_below_drewN | apply below_drew1 | refine below_set ?_ GE207.out) | exact HB.out)))); (case aL => have := LMc11.out; omega); intro v209 w18 ho hb hg hat; rw [← Ny208.out] at ho; have n0_ := Aside0.mk (Kd.R_after (ok := (fun k_ => some k_ ≠ (.slice Ao15 t204.length co15 : Value).ownBlock ∧ k_ ≠ gb207)) (by (with_reducible repeat (first | apply Kd.R_alloc | apply Kd.R_drewN | apply Kd.R_drew)); exact Kd.R_mono HO_5.out (fun _ hk => ⟨⟨hk.2.1, hk.2.2⟩, hk.1⟩)) hg hat); have n1_ := Aside0.mk (blk_grown (g := gb207) (o := .cells #[.int .i64 t197, .int .i64 t198, .int .i64 t199, .int .i64 t200, .int .i64 t201, .int .i64 t202, .int .i64 t203, .slice Ao15 t204.length co15] 29 (0, 0)) (by (with_reducible repeat (first | refine blk_drewN ?_ _ | refine blk_drew ?_ | refine blk_alloc ?_ _)); exact BK207.out) hg (Kd.S_away HO_7.out (fun _ hk => hk.2))); have n2_ := Aside0.mk (hb); have n3_ := Aside0.mk (ho); clear HO_5; clear BK207; clear HB; clear HO_7; clear HO206; have HO_5 := n0_; have BK207 := n1_; have HB := n2_; have HO210 := n3_; clear n0_ n1_ n2_ n3_; clear ho hb hg hat))
                          go_roundg k3
                          case measure => have := HJ2.out; have := HK2.out; have := HK3.out; omega
                          case rel => exact ⟨(y208), (wrap64 (x8_3 + 1)), (by first | rfl | (simp; done) | (simp [*]; done)), H', ⟨by have := HJ2.out; have := HK2.out; have := HK3.out; omega⟩, ⟨by (with_reducible repeat (first | apply Kd.R_alloc | apply Kd.R_drewN | apply Kd.R_drew)); exact Kd.R_mono HO_5.out (fun _ hk => hk.2)⟩, ⟨by (with_reducible repeat (first | apply Kd.S_alloc | apply Kd.S_drewN | apply Kd.S_drew)); exact Kd.S_mono HO210.out (fun _ hk => trivial)⟩, ⟨by repeat (first | (with_reducible first | exact HB.out | apply below_alloc | apply pw_below_drewN | apply below_drew1 | refine below_set ?_ GE207.out) | exact HB.out)⟩⟩
                        · rw [if_neg c11] at H
                          exact absurd H (by simp)
                      · rw [if_neg c9] at H
                        have c9b0 : (((rd_T29 l0 x8_3).f2) == x6_2) = false := beq_eq_false_iff_ne.mpr c9
                        have c9b1 : (((rd_T29 l0 x8_3).f2) != x6_2) = true := bne_iff_ne.mpr c9
                        have H' := Aside0.mk H
                        clear H
                        have p195 : 0 ≤ (x8_3 : Int) := of_decide_eq_true (by first | (with_reducible assumption) | assumption)
                        have q195 : x8_3 < (l0.length : Int) := of_decide_eq_true (by first | (with_reducible assumption) | assumption)
                        obtain ⟨ad195, A195_7, c195_7, e195, hx195_0, hx195_1, hx195_2, hx195_3, hx195_4, hx195_5, hx195_6, hx195_7, hl195_7, hi195_7⟩ := at_T29 HR0.out x8_3 p195 q195
                        cases e195
                        replace hx195_0 := (HB.out.cell (World.block_lt_of_cell? w _ hx195_0)).trans hx195_0
                        replace hx195_1 := (HB.out.cell (World.block_lt_of_cell? w _ hx195_1)).trans hx195_1
                        replace hx195_2 := (HB.out.cell (World.block_lt_of_cell? w _ hx195_2)).trans hx195_2
                        replace hx195_3 := (HB.out.cell (World.block_lt_of_cell? w _ hx195_3)).trans hx195_3
                        replace hx195_4 := (HB.out.cell (World.block_lt_of_cell? w _ hx195_4)).trans hx195_4
                        replace hx195_5 := (HB.out.cell (World.block_lt_of_cell? w _ hx195_5)).trans hx195_5
                        replace hx195_6 := (HB.out.cell (World.block_lt_of_cell? w _ hx195_6)).trans hx195_6
                        replace hx195_7 := (HB.out.cell (World.block_lt_of_cell? w _ hx195_7)).trans hx195_7
                        have HR195_7 := Aside0.mk hi195_7
                        have HC195_7 := Aside0.mk hl195_7
                        clear hi195_7 hl195_7
                        replace p195 := eq_true p195
                        replace q195 := eq_true q195
                        go_wp2
                        go_roundg k3
                        case measure => have := HJ2.out; have := HK2.out; have := HK3.out; omega
                        case rel => exact ⟨(x7_3), (wrap64 (x8_3 + 1)), (by first | rfl | (simp; done) | (simp [*]; done)), H', ⟨by have := HJ2.out; have := HK2.out; have := HK3.out; omega⟩, ⟨by (with_reducible repeat (first | apply Kd.R_alloc | apply Kd.R_drewN | apply Kd.R_drew)); exact HO_5.out⟩, ⟨by (with_reducible repeat (first | apply Kd.S_alloc | apply Kd.S_drewN | apply Kd.S_drew)); exact HO_7.out⟩, ⟨by repeat (first | (with_reducible first | exact HB.out | apply below_alloc | apply pw_below_drewN | apply below_drew1) | exact HB.out)⟩⟩
                    · rw [if_neg c8] at H
                      exact absurd H (by simp)
                  · rw [if_neg c7] at H
                    have c7b0 : decide (x8_3 < (l0.length : Int)) = false := decide_eq_false c7
                    clear c7
                    by_cases c19 : x5_2.length < 5864062014805
                    · rw [if_pos c19] at H
                      have LMc19 := Aside0.mk c19
                      clear c19
                      obtain ⟨y211, hy211⟩ : ∃ y_ : List (List (S29)), y_ = (x5_2 ++ [x7_3]) := ⟨_, rfl⟩
                      replace H : (sextonref25_Split.l0 k3 l0 a1 y211 (wrap64 (x6_2 + 1))) = some r := by first | (rw [hy211]; with_reducible exact H) | (have H2_ := (Option.bind_some _ _).symm.trans H; rw [hy211]; with_reducible exact H2_) | (have H2_ := (Option.bind_some _ _).symm.trans H; with_reducible exact H2_) | with_reducible exact H | (rw [hy211]; exact H) | exact H
                      have Ny211 := Aside0.mk hy211
                      clear hy211
                      have H' := Aside0.mk H
                      clear H
                      obtain ⟨Ao21, co21, eo21⟩ := Kd.S_slice HO_7.out
                      subst eo21
                      go_wp2_with (first | ((with_reducible refine gate_builtin (b := .append) (xs := #[.tmp 43, .tmp 45]) rfl ?_); at_builtin; refine Kd.R_append (Kd.slice 29 k29) (w0 := w) w.heap.size rfl (.tmp 43) (.tmp 45) 34 22 (.slice none 0 0) 24 rfl Try.underlying34 info22 rfl (by decide) (by omega) u5 x5_2 x7_3 [.slice Ao21 x7_3.length co21] (fun _ => True) (fun k_ => ((fun _ => True)) k_ ∧ some k_ ≠ (u5 : Value).ownBlock) rfl rfl ?aP (fun _ hk => hk) ?aF ?aO ?aB ?aS ?aL ?_; (case aP => exact Kd.M_row (Kd.R_mono (Kd.R_apart' ((Kd.S_R HO_7.out)) (Kd.R_typed HO_5.out) (by decide)) (fun k_ hk => ⟨trivial, hk.2⟩))); (case aB => exact (by repeat (first | (with_reducible first | exact HB.out | apply below_alloc | apply pw_below_drewN | apply below_drew1) | exact HB.out))); (case aF => exact (fun _ _ => trivial)); (case aO => exact (by (with_reducible repeat (first | apply Kd.R_alloc | apply Kd.R_drewN | apply Kd.R_drew)); exact Kd.R_mono HO_5.out (fun _ hk => trivial))); (case aS => exact (below_size (by repeat (first | (with_reducible first | exact HB.out | apply below_alloc | apply pw_below_drewN | apply below_drew1) | exact HB.out)))); (case aL => have := LMc19.out; omega); intro v212 w20 ho hb hg hat; rw [← Ny211.out] at ho; have n0_ := Aside0.mk (hb); have n1_ := Aside0.mk (ho); clear HB; clear HO_5; clear HO_7; have HB := n0_; have HO213 := n1_; clear n0_ n1_; clear ho hb hg hat))
                      go_roundg k3
                      case measure => have := HJ2.out; have := HK2.out; have := HK3.out; omega
                      case rel => exact ⟨(y211), (wrap64 (x6_2 + 1)), (by first | rfl | (simp; done) | (simp [*]; done)), H', ⟨by have := HJ2.out; have := HK2.out; have := HK3.out; omega⟩, ⟨by (with_reducible repeat (first | apply Kd.R_alloc | apply Kd.R_drewN | apply Kd.R_drew)); exact HO213.out⟩, ⟨by repeat (first | (with_reducible first | exact HB.out | apply below_alloc | apply pw_below_drewN | apply below_drew1) | exact HB.out)⟩⟩
                    · rw [if_neg c19] at H
                      exact absurd H (by simp)
            · rw [if_neg c6] at H
              have c6b0 : decide (x6_2 < a1) = false := decide_eq_false c6
              clear c6
              obtain rfl := Option.some.inj H
              go_wp2
              go_ret
              exact ⟨_, by first | rfl | (simp [errW_none, errW_some] <;> rfl) | (simp [*, errW_none, errW_some] <;> rfl), by (with_reducible repeat (first | apply Kd.R_alloc | apply Kd.R_drewN | apply Kd.R_drew)); exact HO_5.out, by repeat (first | (with_reducible first | exact HB.out | apply below_alloc | apply pw_below_drewN | apply below_drew1) | exact HB.out)⟩

end Go.Proofs.Ytfejidinfcmfjaa.P
