/-
  The walk and the plain statement of ChainDoes, joined.
-/
import Derived.Test.YtfdpebipnapelaaPx0
import Derived.Test.YtfdpebipnapelaaC13ba
import Derived.Test.YtfdpebipnapelaaC13bb
import Derived.Test.YtfdpebipnapelaaC13bc
set_option linter.unusedVariables false
set_option linter.unusedSimpArgs false
/-
  The walk of ChainDoes, by the print; the ways that would answer false are closed.
-/
namespace Go.Proofs.Ytfdpebipnapelaa.P
open Go.RowKit Go.Proofs.YtfdpebipnapelaaW.PrintWords Go.Proofs.YtfdpebipnapelaaW.PrintLast Go.Proofs.YtfdpebipnapelaaW.PrintMore
attribute [local go_sem] max2_int min2_int max_two min_two max_three min_three max_four min_four   -- for this text's walks alone
set_option linter.unusedVariables false
set_option linter.unusedSimpArgs false

/-! ### sextonlaw13_ChainDoes: function 7 -/
mutual
def sextonlaw13_ChainDoes.j0 : Nat → ByteArray → Int → Int → List ByteArray → Bool → Int → Int → List Int → Option (Bool)
  | 0, _, _, _, _, _, _, _, _ => none
  | k + 1, x0, x1, x2, x4, x39, x169000, x169001, x169002 => if x39 = true then (some true) else ((sextonref01_Own.f x4).bind fun t170 => ((chain_Cut.f x0 x1).bind fun bt173 => ((sextonref13_Cut.f k x0 x1).bind fun bt177 => ((chain_Describe.f k x0 x1 x2).bind fun bt181 => ((sextonref13_Describe.f k x0 x1 x2).bind fun bt191 => ((chain_Whole.f x169000 x169001 x169002 x4).bind fun bt201 => ((sextonref13_Whole.f k x169000 x169001 x169002 t170).bind fun bt203 => ((sextonref01_Texts.f k bt173.1 bt177.1).bind fun t205 => (if t205 = true then (if bt173.2 = bt177.2 then ((sextonref12_Same.f k bt181.1 bt181.2.1 bt181.2.2.1 bt191.1 bt191.2.1 bt191.2.2.1).bind fun t206 => (if t206 = true then ((sextonref01_Texts.f k bt181.2.2.2.1 bt191.2.2.2.1).bind fun t207 => (if t207 = true then (if bt181.2.2.2.2 = bt191.2.2.2.2 then (if bt201.1.toList = bt203.1.toList then (sextonlaw13_ChainDoes.j1 k x4 t170 (bt201.2 == bt203.2) x169000 x169001 x169002) else (sextonlaw13_ChainDoes.j1 k x4 t170 false x169000 x169001 x169002)) else (sextonlaw13_ChainDoes.j1 k x4 t170 false x169000 x169001 x169002)) else (sextonlaw13_ChainDoes.j1 k x4 t170 false x169000 x169001 x169002))) else (sextonlaw13_ChainDoes.j1 k x4 t170 false x169000 x169001 x169002))) else (sextonlaw13_ChainDoes.j1 k x4 t170 false x169000 x169001 x169002)) else (sextonlaw13_ChainDoes.j1 k x4 t170 false x169000 x169001 x169002))))))))))
def sextonlaw13_ChainDoes.j1 : Nat → List ByteArray → List ByteArray → Bool → Int → Int → List Int → Option (Bool)
  | 0, _, _, _, _, _, _ => none
  | k + 1, x4, x11, x26, x169000, x169001, x169002 => (sextonlaw13_cut.f).bind fun t208 => (if t208 = true then (if x26 = true then ((chain_Sums.f x4).bind fun t209 => ((sextonref13_Sums.f k x11).bind fun t212 => ((sextonref01_Ints.f k t209 t212).bind fun t215 => (if t215 = true then ((chain_Have.f x169000 x169001 x169002 x4).bind fun t216 => ((sextonref13_Have.f k x169000 x169001 x169002 x11).bind fun t219 => ((sextonref01_Ints.f k t216 t219).bind fun t222 => (if t222 = true then ((sextonref01_Texts.f k x4 x11).bind fun t223 => (some t223)) else (some false))))) else (some false))))) else (some false)) else (some false))
end
def sextonlaw13_ChainDoes.f (k : Nat) (a0 : ByteArray) (a1 : Int) (a2 : Int) (a3_0 : Int) (a3_1 : Int) (l3_2 : List Int) (l4 : List ByteArray) : Option (Bool) := if (a0.size : Int) > 200 then (sextonlaw13_ChainDoes.j0 k a0 a1 a2 l4 true a3_0 a3_1 l3_2) else (if (l3_2.length : Int) > 40 then (sextonlaw13_ChainDoes.j0 k a0 a1 a2 l4 true a3_0 a3_1 l3_2) else ((sextonlaw13_far.f k l4).bind fun t169 => (sextonlaw13_ChainDoes.j0 k a0 a1 a2 l4 t169 a3_0 a3_1 l3_2)))
theorem sextonlaw13_ChainDoes.mono_l : ∀ k, (∀ y0 y1 y2 y3 y4 y5 y6 y7, LeO (sextonlaw13_ChainDoes.j0 k y0 y1 y2 y3 y4 y5 y6 y7) (sextonlaw13_ChainDoes.j0 (k + 1) y0 y1 y2 y3 y4 y5 y6 y7)) ∧ (∀ y0 y1 y2 y3 y4 y5, LeO (sextonlaw13_ChainDoes.j1 k y0 y1 y2 y3 y4 y5) (sextonlaw13_ChainDoes.j1 (k + 1) y0 y1 y2 y3 y4 y5))
  | 0 => ⟨fun _ _ _ _ _ _ _ _ r h => by simp [sextonlaw13_ChainDoes.j0] at h, fun _ _ _ _ _ _ r h => by simp [sextonlaw13_ChainDoes.j1] at h⟩
  | k + 1 => by
    obtain ⟨ih0, ih1⟩ := sextonlaw13_ChainDoes.mono_l k
    refine ⟨?_, ?_⟩
    · intro y0 y1 y2 y3 y4 y5 y6 y7
      unfold sextonlaw13_ChainDoes.j0
      repeat' first
      | (with_reducible exact ih0 _ _ _ _ _ _ _ _)
      | (with_reducible exact ih1 _ _ _ _ _ _)
      | (with_reducible exact chain_Describe.mono _ _ _ _)
      | (with_reducible exact sextonlaw13_far.mono _ _)
      | (with_reducible exact sextonref01_Ints.mono _ _ _)
      | (with_reducible exact sextonref01_Texts.mono _ _ _)
      | (with_reducible exact sextonref12_Same.mono _ _ _ _ _ _ _)
      | (with_reducible exact sextonref13_Cut.mono _ _ _)
      | (with_reducible exact sextonref13_Describe.mono _ _ _ _)
      | (with_reducible exact sextonref13_Have.mono _ _ _ _ _)
      | (with_reducible exact sextonref13_Sums.mono _ _)
      | (with_reducible exact sextonref13_Whole.mono _ _ _ _ _)
      | (with_reducible exact LeO.refl _)
      | (with_reducible exact LeO.none _)
      | (with_reducible refine LeO.ite ?_ ?_)
      | (with_reducible refine LeO.bind ?_ (fun _ => ?_))
      | exact ih0 _ _ _ _ _ _ _ _
      | exact ih1 _ _ _ _ _ _
      | exact chain_Describe.mono _ _ _ _
      | exact sextonlaw13_far.mono _ _
      | exact sextonref01_Ints.mono _ _ _
      | exact sextonref01_Texts.mono _ _ _
      | exact sextonref12_Same.mono _ _ _ _ _ _ _
      | exact sextonref13_Cut.mono _ _ _
      | exact sextonref13_Describe.mono _ _ _ _
      | exact sextonref13_Have.mono _ _ _ _ _
      | exact sextonref13_Sums.mono _ _
      | exact sextonref13_Whole.mono _ _ _ _ _
      | exact LeO.none _
      | refine LeO.ite ?_ ?_
      | refine LeO.bind ?_ (fun _ => ?_)
    · intro y0 y1 y2 y3 y4 y5
      unfold sextonlaw13_ChainDoes.j1
      repeat' first
      | (with_reducible exact ih0 _ _ _ _ _ _ _ _)
      | (with_reducible exact ih1 _ _ _ _ _ _)
      | (with_reducible exact chain_Describe.mono _ _ _ _)
      | (with_reducible exact sextonlaw13_far.mono _ _)
      | (with_reducible exact sextonref01_Ints.mono _ _ _)
      | (with_reducible exact sextonref01_Texts.mono _ _ _)
      | (with_reducible exact sextonref12_Same.mono _ _ _ _ _ _ _)
      | (with_reducible exact sextonref13_Cut.mono _ _ _)
      | (with_reducible exact sextonref13_Describe.mono _ _ _ _)
      | (with_reducible exact sextonref13_Have.mono _ _ _ _ _)
      | (with_reducible exact sextonref13_Sums.mono _ _)
      | (with_reducible exact sextonref13_Whole.mono _ _ _ _ _)
      | (with_reducible exact LeO.refl _)
      | (with_reducible exact LeO.none _)
      | (with_reducible refine LeO.ite ?_ ?_)
      | (with_reducible refine LeO.bind ?_ (fun _ => ?_))
      | exact ih0 _ _ _ _ _ _ _ _
      | exact ih1 _ _ _ _ _ _
      | exact chain_Describe.mono _ _ _ _
      | exact sextonlaw13_far.mono _ _
      | exact sextonref01_Ints.mono _ _ _
      | exact sextonref01_Texts.mono _ _ _
      | exact sextonref12_Same.mono _ _ _ _ _ _ _
      | exact sextonref13_Cut.mono _ _ _
      | exact sextonref13_Describe.mono _ _ _ _
      | exact sextonref13_Have.mono _ _ _ _ _
      | exact sextonref13_Sums.mono _ _
      | exact sextonref13_Whole.mono _ _ _ _ _
      | exact LeO.none _
      | refine LeO.ite ?_ ?_
      | refine LeO.bind ?_ (fun _ => ?_)
theorem sextonlaw13_ChainDoes.mono : ∀ a0 a1 a2 a3 a4 a5 a6 k, LeO (sextonlaw13_ChainDoes.f k a0 a1 a2 a3 a4 a5 a6) (sextonlaw13_ChainDoes.f (k + 1) a0 a1 a2 a3 a4 a5 a6) := by
  intro a0 a1 a2 a3 a4 a5 a6 k
  obtain ⟨ih0, ih1⟩ := sextonlaw13_ChainDoes.mono_l k
  unfold sextonlaw13_ChainDoes.f
  repeat' first
      | (with_reducible exact ih0 _ _ _ _ _ _ _ _)
      | (with_reducible exact ih1 _ _ _ _ _ _)
      | (with_reducible exact chain_Describe.mono _ _ _ _)
      | (with_reducible exact sextonlaw13_far.mono _ _)
      | (with_reducible exact sextonref01_Ints.mono _ _ _)
      | (with_reducible exact sextonref01_Texts.mono _ _ _)
      | (with_reducible exact sextonref12_Same.mono _ _ _ _ _ _ _)
      | (with_reducible exact sextonref13_Cut.mono _ _ _)
      | (with_reducible exact sextonref13_Describe.mono _ _ _ _)
      | (with_reducible exact sextonref13_Have.mono _ _ _ _ _)
      | (with_reducible exact sextonref13_Sums.mono _ _)
      | (with_reducible exact sextonref13_Whole.mono _ _ _ _ _)
      | (with_reducible exact LeO.refl _)
      | (with_reducible exact LeO.none _)
      | (with_reducible refine LeO.ite ?_ ?_)
      | (with_reducible refine LeO.bind ?_ (fun _ => ?_))
      | exact ih0 _ _ _ _ _ _ _ _
      | exact ih1 _ _ _ _ _ _
      | exact chain_Describe.mono _ _ _ _
      | exact sextonlaw13_far.mono _ _
      | exact sextonref01_Ints.mono _ _ _
      | exact sextonref01_Texts.mono _ _ _
      | exact sextonref12_Same.mono _ _ _ _ _ _ _
      | exact sextonref13_Cut.mono _ _ _
      | exact sextonref13_Describe.mono _ _ _ _
      | exact sextonref13_Have.mono _ _ _ _ _
      | exact sextonref13_Sums.mono _ _
      | exact sextonref13_Whole.mono _ _ _ _ _
      | exact LeO.none _
      | refine LeO.ite ?_ ?_
      | refine LeO.bind ?_ (fun _ => ?_)
def sextonlaw13_ChainDoes.T11 : Bool × List (List Nat × List Nat) := (true, [([], []), ([0, 0], [0]), ([1], [1]), ([1, 2], [1, 2]), ([3, 1], [3]), ([4], [4]), ([5, 4, 4], [4, 5]), ([4], [4]), ([7, 6, 4], [4, 7]), ([6, 8, 8, 4], [4, 6, 8]), ([4, 9], [4, 9]), ([10, 9], [10]), ([11], [11]), ([11], [11]), ([12, 13, 11, 11], [11, 12, 13]), ([11], [11]), ([11], [11]), ([15, 16, 14, 11], [11, 15, 16]), ([14, 17, 17, 11], [11, 14, 17]), ([11, 18], [11, 18]), ([19, 18], [19]), ([20], [20]), ([20], [20]), ([21, 22, 20, 20], [20, 21, 22]), ([20, 23], [20, 23]), ([24, 23, 0, 1, 2, 3, 4, 5, 6, 7, 8, 9, 10, 11, 12, 13, 14, 15, 16, 17, 18, 19, 20, 21, 22, 23, 24], [24])])
def sextonlaw13_ChainDoes.B11 : List Nat := [0, 1, 3, 7, 15, 31, 63, 31, 255, 511, 1023, 2047, 4095, 4095, 16383, 4095, 4095, 131071, 262143, 524287, 1048575, 2097151, 2097151, 8388607, 16777215, 33554431]
theorem sextonlaw13_ChainDoes.tab11 : rtab .any (opsOf Try.f7 11) = sextonlaw13_ChainDoes.T11 := by kernel_rfl
theorem sextonlaw13_ChainDoes.bits11 : waitsOk sextonlaw13_ChainDoes.T11.2 sextonlaw13_ChainDoes.B11 = true := by kernel_rfl
set_option maxHeartbeats 8000000 in
set_option maxRecDepth 100000 in
theorem sextonlaw13_ChainDoes.calls (k : Nat) (a0 : ByteArray) (a1 : Int) (a2 : Int) (a3_0 : Int) (a3_1 : Int) (A3_2 : Option Addr) (c3_2 : Nat) (l3_2 : List Int) (A4 : Option Addr) (c4 : Nat) (l4 : List ByteArray) (r : Bool) (hrt : r = true := by rfl) (w : World) (hr3_2 : Kd.C (Kd.int .i64) w A3_2 l3_2.length l3_2) (hc3_2 : l3_2.length ≤ c3_2) (hr4 : Kd.C Kd.string w A4 l4.length l4) (hc4 : l4.length ≤ c4) (h : sextonlaw13_ChainDoes.f k a0 a1 a2 a3_0 a3_1 l3_2 l4 = some r) :
    Calls Try.prog 7 #[.string a0, .int .i64 a1, .int .i64 a2, .agg #[.int .i64 a3_0, .int .i64 a3_1, .slice A3_2 l3_2.length c3_2], .slice A4 l4.length c4] w fun e w' => e = .returned (.bool r) ∧ Below w.heap.size w w' := by
  have HRT := Aside0.mk hrt
  have hu24 := Try.underlying24
  have HR3_2 := Aside0.mk hr3_2
  have HC3_2 := Aside0.mk hc3_2
  clear hr3_2 hc3_2
  have HR4 := Aside0.mk hr4
  have HC4 := Aside0.mk hc4
  clear hr4 hc4
  have HB := Aside0.mk (Below.refl w.heap.size w)
  have H : (if (a0.size : Int) > 200 then (sextonlaw13_ChainDoes.j0 k a0 a1 a2 l4 true a3_0 a3_1 l3_2) else (if (l3_2.length : Int) > 40 then (sextonlaw13_ChainDoes.j0 k a0 a1 a2 l4 true a3_0 a3_1 l3_2) else ((sextonlaw13_far.f k l4).bind fun t169 => (sextonlaw13_ChainDoes.j0 k a0 a1 a2 l4 t169 a3_0 a3_1 l3_2)))) = some r := h
  clear h
  have HC6 := Aside0.mk H
  clear H
  go_enter Try.func7, Try.ntmps7
  go_upto_region 1 with (first | ((with_reducible refine gate_dst (N := 8) rfl ?_); (try (refine gate_guard (by rfl) ?_; dsimp only)); refine box_event ?hg (N := 8) ?hd (cs := #[.int .i64 a3_0, .int .i64 a3_1, .slice A3_2 l3_2.length c3_2]) (t := 24) ?hr ?_; (case hd => rfl); (case hg => rfl); (case hr => first | (go_simp; done) | (go_simp; rfl)); intro gb168 hg w7 hbox hb; have n0_ := Aside0.mk (below_step (by repeat (first | (with_reducible first | exact HB.out | apply below_alloc | apply pw_below_drewN | apply below_drew1) | exact HB.out)) hb); have n1_ := Aside0.mk (hbox); have n2_ := Aside0.mk ((by rw [hg]; exact (below_size (by repeat (first | (with_reducible first | exact HB.out | apply below_alloc | apply pw_below_drewN | apply below_drew1) | exact HB.out))) : w.heap.size ≤ gb168)); have n3_ := Aside0.mk ((by rw [hg]; exact (below_size (by repeat (first | (with_reducible first | exact HB.out | apply below_alloc | apply pw_below_drewN | apply below_drew1) | exact HB.out))) : w.heap.size ≤ gb168)); clear HB; have HB := n0_; have BK168 := n1_; have GW168 := n2_; have GE168 := n3_; clear n0_ n1_ n2_ n3_; clear hb hbox hg))
  (try simp only [Act.put, List.setIfInBounds_toArray, List.set_cons_zero, List.set_cons_succ])
  go_cut [39] (fun v39 wc => ∃ (kq : Nat) (x39_5 : Bool), v39 = .bool x39_5 ∧ Aside0 (sextonlaw13_ChainDoes.j0 kq a0 a1 a2 l4 x39_5 a3_0 a3_1 l3_2 = some r) ∧ Aside0 (kq ≤ k) ∧ Aside0 (wc.heap[gb168]? = some (.cells #[.int .i64 a3_0, .int .i64 a3_1, (.slice A3_2 l3_2.length c3_2)] 24 (0, 0))) ∧ Aside0 (Below w.heap.size w wc))
  case first =>
    have H := HC6.out
    clear HC6
    by_cases c8 : (a0.size : Int) > 200
    · rw [if_pos c8] at H
      have c8b0 : decide (200 < (a0.size : Int)) = true := decide_eq_true c8
      have c8b1 : decide (200 < a0.size) = true := decide_eq_true (by omega)
      clear c8
      (first | rw [c8b0] | (simp only [i64_w, i32_w]; rw [c8b0]) | skip)
      have H' := Aside0.mk H
      clear H
      go_wp2
      go_meet
      case rel => exact ⟨_, (true), (by first | rfl | (simp; done) | (simp [*]; done)), H', ⟨by first | omega | exact Nat.le_refl _⟩, ⟨by (with_reducible repeat (first | refine blk_drewN ?_ _ | refine blk_drew ?_ | refine blk_alloc ?_ _)); exact BK168.out⟩, ⟨by repeat (first | (with_reducible first | exact HB.out | apply below_alloc | apply pw_below_drewN | apply below_drew1 | refine below_set ?_ GE168.out) | exact HB.out)⟩⟩
    · rw [if_neg c8] at H
      have c8b0 : decide (200 < (a0.size : Int)) = false := decide_eq_false c8
      have c8b1 : decide (200 < a0.size) = false := decide_eq_false (by omega)
      clear c8
      (first | rw [c8b0] | (simp only [i64_w, i32_w]; rw [c8b0]) | skip)
      by_cases c9 : (l3_2.length : Int) > 40
      · rw [if_pos c9] at H
        have c9b0 : decide (40 < (l3_2.length : Int)) = true := decide_eq_true c9
        have c9b1 : decide (40 < l3_2.length) = true := decide_eq_true (by omega)
        clear c9
        have H' := Aside0.mk H
        clear H
        have hcz10_0 : w7.cell? ⟨gb168, 0, none⟩ = some (.int .i64 a3_0) := (blk_cell BK168.out 0).trans rfl
        have hcz10_1 : w7.cell? ⟨gb168, 1, none⟩ = some (.int .i64 a3_1) := (blk_cell BK168.out 1).trans rfl
        have hcz10_2 : w7.cell? ⟨gb168, 2, none⟩ = some (.slice A3_2 l3_2.length c3_2) := (blk_cell BK168.out 2).trans rfl
        have hfz10_0 := blk_frozen BK168.out 0
        have hfz10_1 := blk_frozen BK168.out 1
        have hfz10_2 := blk_frozen BK168.out 2
        go_wp2
        go_meet
        case rel => exact ⟨_, (true), (by first | rfl | (simp; done) | (simp [*]; done)), H', ⟨by first | omega | exact Nat.le_refl _⟩, ⟨by (with_reducible repeat (first | refine blk_drewN ?_ _ | refine blk_drew ?_ | refine blk_alloc ?_ _)); exact BK168.out⟩, ⟨by repeat (first | (with_reducible first | exact HB.out | apply below_alloc | apply pw_below_drewN | apply below_drew1 | refine below_set ?_ GE168.out) | exact HB.out)⟩⟩
      · rw [if_neg c9] at H
        have c9b0 : decide (40 < (l3_2.length : Int)) = false := decide_eq_false c9
        have c9b1 : decide (40 < l3_2.length) = false := decide_eq_false (by omega)
        clear c9
        replace H := Option.bind_eq_some_iff.mp H
        obtain ⟨t169, A110, H⟩ := H
        replace H : (sextonlaw13_ChainDoes.j0 k a0 a1 a2 l4 t169 a3_0 a3_1 l3_2) = some r := H
        have A11 := Aside0.mk A110
        clear A110
        have H' := Aside0.mk H
        clear H
        have hcz12_0 : w7.cell? ⟨gb168, 0, none⟩ = some (.int .i64 a3_0) := (blk_cell BK168.out 0).trans rfl
        have hcz12_1 : w7.cell? ⟨gb168, 1, none⟩ = some (.int .i64 a3_1) := (blk_cell BK168.out 1).trans rfl
        have hcz12_2 : w7.cell? ⟨gb168, 2, none⟩ = some (.slice A3_2 l3_2.length c3_2) := (blk_cell BK168.out 2).trans rfl
        have hfz12_0 := blk_frozen BK168.out 0
        have hfz12_1 := blk_frozen BK168.out 1
        have hfz12_2 := blk_frozen BK168.out 2
        go_wp2_with (first | (go_at_call 26; (with_reducible refine (sextonlaw13_far.calls k _ _ l4 t169 _ ?side1 ?side2 A11.out).mono ?_); (case side1 => repeat (first | exact (Kd.C_below HR4.out HB.out) | (with_reducible refine Kd.C_alloc ?_ _) | (with_reducible refine Kd.C_drewN ?_ _) | (with_reducible refine Kd.C_drew ?_))); (case side2 => exact HC4.out); rintro e w' ⟨rfl, ⟨nd, rfl⟩⟩))
        go_meet
        case rel => exact ⟨_, (t169), (by first | rfl | (simp; done) | (simp [*]; done)), H', ⟨by first | omega | exact Nat.le_refl _⟩, ⟨by (with_reducible repeat (first | refine blk_drewN ?_ _ | refine blk_drew ?_ | refine blk_alloc ?_ _)); exact BK168.out⟩, ⟨by repeat (first | (with_reducible first | exact HB.out | apply below_alloc | apply pw_below_drewN | apply below_drew1 | refine below_set ?_ GE168.out) | exact HB.out)⟩⟩
  case rest =>
    clear HC6
    try clear p2
    try clear c3
    try clear c4
    try clear c7
    try clear c8
    try clear c8b0
    try clear c8b1
    try clear c9
    try clear c9b0
    try clear c9b1
    try clear hcz10_0
    try clear hcz10_1
    try clear hcz10_2
    try clear hcz12_0
    try clear hcz12_1
    try clear hcz12_2
    try clear hfz10_0
    try clear hfz10_1
    try clear hfz10_2
    try clear hfz12_0
    try clear hfz12_1
    try clear hfz12_2
    obtain ⟨kq, x39_5, rfl, HA, HJ5, BK168, HB⟩ := hcut
    cases kq with
    | zero => exact absurd HA.out (by simp [sextonlaw13_ChainDoes.j0])
    | succ kj5 =>
      have H := HA.out
      clear HA
      simp only [sextonlaw13_ChainDoes.j0] at H
      by_cases c13 : x39_5 = true
      · subst c13
        have H1 : (some true) = some r := by rw [if_pos rfl] at H; exact H
        clear H
        have H := H1
        clear H1
        obtain rfl := Option.some.inj H
        go_wp2
        go_ret
        exact ⟨by first | rfl | (simp [errW_none, errW_some] <;> rfl) | (simp [*, errW_none, errW_some] <;> rfl), by repeat (first | (with_reducible first | exact HB.out | apply below_alloc | apply pw_below_drewN | apply below_drew1 | refine below_set ?_ GE168.out) | exact HB.out)⟩
      · replace c13 := Bool.eq_false_iff.mpr c13
        subst c13
        have H1 : ((sextonref01_Own.f l4).bind fun t170 => ((chain_Cut.f a0 a1).bind fun bt173 => ((sextonref13_Cut.f kj5 a0 a1).bind fun bt177 => ((chain_Describe.f kj5 a0 a1 a2).bind fun bt181 => ((sextonref13_Describe.f kj5 a0 a1 a2).bind fun bt191 => ((chain_Whole.f a3_0 a3_1 l3_2 l4).bind fun bt201 => ((sextonref13_Whole.f kj5 a3_0 a3_1 l3_2 t170).bind fun bt203 => ((sextonref01_Texts.f kj5 bt173.1 bt177.1).bind fun t205 => (if t205 = true then (if bt173.2 = bt177.2 then ((sextonref12_Same.f kj5 bt181.1 bt181.2.1 bt181.2.2.1 bt191.1 bt191.2.1 bt191.2.2.1).bind fun t206 => (if t206 = true then ((sextonref01_Texts.f kj5 bt181.2.2.2.1 bt191.2.2.2.1).bind fun t207 => (if t207 = true then (if bt181.2.2.2.2 = bt191.2.2.2.2 then (if bt201.1.toList = bt203.1.toList then (sextonlaw13_ChainDoes.j1 kj5 l4 t170 (bt201.2 == bt203.2) a3_0 a3_1 l3_2) else (sextonlaw13_ChainDoes.j1 kj5 l4 t170 false a3_0 a3_1 l3_2)) else (sextonlaw13_ChainDoes.j1 kj5 l4 t170 false a3_0 a3_1 l3_2)) else (sextonlaw13_ChainDoes.j1 kj5 l4 t170 false a3_0 a3_1 l3_2))) else (sextonlaw13_ChainDoes.j1 kj5 l4 t170 false a3_0 a3_1 l3_2))) else (sextonlaw13_ChainDoes.j1 kj5 l4 t170 false a3_0 a3_1 l3_2)) else (sextonlaw13_ChainDoes.j1 kj5 l4 t170 false a3_0 a3_1 l3_2)))))))))) = some r := by rw [if_neg (show ¬ (false = true) by decide)] at H; exact H
        clear H
        have H := H1
        clear H1
        replace H := Option.bind_eq_some_iff.mp H
        obtain ⟨t170, A140, H⟩ := H
        replace H : ((chain_Cut.f a0 a1).bind fun bt173 => ((sextonref13_Cut.f kj5 a0 a1).bind fun bt177 => ((chain_Describe.f kj5 a0 a1 a2).bind fun bt181 => ((sextonref13_Describe.f kj5 a0 a1 a2).bind fun bt191 => ((chain_Whole.f a3_0 a3_1 l3_2 l4).bind fun bt201 => ((sextonref13_Whole.f kj5 a3_0 a3_1 l3_2 t170).bind fun bt203 => ((sextonref01_Texts.f kj5 bt173.1 bt177.1).bind fun t205 => (if t205 = true then (if bt173.2 = bt177.2 then ((sextonref12_Same.f kj5 bt181.1 bt181.2.1 bt181.2.2.1 bt191.1 bt191.2.1 bt191.2.2.1).bind fun t206 => (if t206 = true then ((sextonref01_Texts.f kj5 bt181.2.2.2.1 bt191.2.2.2.1).bind fun t207 => (if t207 = true then (if bt181.2.2.2.2 = bt191.2.2.2.2 then (if bt201.1.toList = bt203.1.toList then (sextonlaw13_ChainDoes.j1 kj5 l4 t170 (bt201.2 == bt203.2) a3_0 a3_1 l3_2) else (sextonlaw13_ChainDoes.j1 kj5 l4 t170 false a3_0 a3_1 l3_2)) else (sextonlaw13_ChainDoes.j1 kj5 l4 t170 false a3_0 a3_1 l3_2)) else (sextonlaw13_ChainDoes.j1 kj5 l4 t170 false a3_0 a3_1 l3_2))) else (sextonlaw13_ChainDoes.j1 kj5 l4 t170 false a3_0 a3_1 l3_2))) else (sextonlaw13_ChainDoes.j1 kj5 l4 t170 false a3_0 a3_1 l3_2)) else (sextonlaw13_ChainDoes.j1 kj5 l4 t170 false a3_0 a3_1 l3_2))))))))) = some r := H
        have A14 := Aside0.mk A140
        clear A140
        replace H := Option.bind_eq_some_iff.mp H
        obtain ⟨⟨t173, t174⟩, A150, H⟩ := H
        replace H : ((sextonref13_Cut.f kj5 a0 a1).bind fun bt177 => ((chain_Describe.f kj5 a0 a1 a2).bind fun bt181 => ((sextonref13_Describe.f kj5 a0 a1 a2).bind fun bt191 => ((chain_Whole.f a3_0 a3_1 l3_2 l4).bind fun bt201 => ((sextonref13_Whole.f kj5 a3_0 a3_1 l3_2 t170).bind fun bt203 => ((sextonref01_Texts.f kj5 t173 bt177.1).bind fun t205 => (if t205 = true then (if t174 = bt177.2 then ((sextonref12_Same.f kj5 bt181.1 bt181.2.1 bt181.2.2.1 bt191.1 bt191.2.1 bt191.2.2.1).bind fun t206 => (if t206 = true then ((sextonref01_Texts.f kj5 bt181.2.2.2.1 bt191.2.2.2.1).bind fun t207 => (if t207 = true then (if bt181.2.2.2.2 = bt191.2.2.2.2 then (if bt201.1.toList = bt203.1.toList then (sextonlaw13_ChainDoes.j1 kj5 l4 t170 (bt201.2 == bt203.2) a3_0 a3_1 l3_2) else (sextonlaw13_ChainDoes.j1 kj5 l4 t170 false a3_0 a3_1 l3_2)) else (sextonlaw13_ChainDoes.j1 kj5 l4 t170 false a3_0 a3_1 l3_2)) else (sextonlaw13_ChainDoes.j1 kj5 l4 t170 false a3_0 a3_1 l3_2))) else (sextonlaw13_ChainDoes.j1 kj5 l4 t170 false a3_0 a3_1 l3_2))) else (sextonlaw13_ChainDoes.j1 kj5 l4 t170 false a3_0 a3_1 l3_2)) else (sextonlaw13_ChainDoes.j1 kj5 l4 t170 false a3_0 a3_1 l3_2)))))))) = some r := H
        have A15 := Aside0.mk A150
        clear A150
        replace H := Option.bind_eq_some_iff.mp H
        obtain ⟨⟨t177, t178⟩, A160, H⟩ := H
        replace H : ((chain_Describe.f kj5 a0 a1 a2).bind fun bt181 => ((sextonref13_Describe.f kj5 a0 a1 a2).bind fun bt191 => ((chain_Whole.f a3_0 a3_1 l3_2 l4).bind fun bt201 => ((sextonref13_Whole.f kj5 a3_0 a3_1 l3_2 t170).bind fun bt203 => ((sextonref01_Texts.f kj5 t173 t177).bind fun t205 => (if t205 = true then (if t174 = t178 then ((sextonref12_Same.f kj5 bt181.1 bt181.2.1 bt181.2.2.1 bt191.1 bt191.2.1 bt191.2.2.1).bind fun t206 => (if t206 = true then ((sextonref01_Texts.f kj5 bt181.2.2.2.1 bt191.2.2.2.1).bind fun t207 => (if t207 = true then (if bt181.2.2.2.2 = bt191.2.2.2.2 then (if bt201.1.toList = bt203.1.toList then (sextonlaw13_ChainDoes.j1 kj5 l4 t170 (bt201.2 == bt203.2) a3_0 a3_1 l3_2) else (sextonlaw13_ChainDoes.j1 kj5 l4 t170 false a3_0 a3_1 l3_2)) else (sextonlaw13_ChainDoes.j1 kj5 l4 t170 false a3_0 a3_1 l3_2)) else (sextonlaw13_ChainDoes.j1 kj5 l4 t170 false a3_0 a3_1 l3_2))) else (sextonlaw13_ChainDoes.j1 kj5 l4 t170 false a3_0 a3_1 l3_2))) else (sextonlaw13_ChainDoes.j1 kj5 l4 t170 false a3_0 a3_1 l3_2)) else (sextonlaw13_ChainDoes.j1 kj5 l4 t170 false a3_0 a3_1 l3_2))))))) = some r := H
        have A16 := Aside0.mk A160
        clear A160
        replace H := Option.bind_eq_some_iff.mp H
        obtain ⟨⟨t181, t182, t183, t186, t189⟩, A170, H⟩ := H
        replace H : ((sextonref13_Describe.f kj5 a0 a1 a2).bind fun bt191 => ((chain_Whole.f a3_0 a3_1 l3_2 l4).bind fun bt201 => ((sextonref13_Whole.f kj5 a3_0 a3_1 l3_2 t170).bind fun bt203 => ((sextonref01_Texts.f kj5 t173 t177).bind fun t205 => (if t205 = true then (if t174 = t178 then ((sextonref12_Same.f kj5 t181 t182 t183 bt191.1 bt191.2.1 bt191.2.2.1).bind fun t206 => (if t206 = true then ((sextonref01_Texts.f kj5 t186 bt191.2.2.2.1).bind fun t207 => (if t207 = true then (if t189 = bt191.2.2.2.2 then (if bt201.1.toList = bt203.1.toList then (sextonlaw13_ChainDoes.j1 kj5 l4 t170 (bt201.2 == bt203.2) a3_0 a3_1 l3_2) else (sextonlaw13_ChainDoes.j1 kj5 l4 t170 false a3_0 a3_1 l3_2)) else (sextonlaw13_ChainDoes.j1 kj5 l4 t170 false a3_0 a3_1 l3_2)) else (sextonlaw13_ChainDoes.j1 kj5 l4 t170 false a3_0 a3_1 l3_2))) else (sextonlaw13_ChainDoes.j1 kj5 l4 t170 false a3_0 a3_1 l3_2))) else (sextonlaw13_ChainDoes.j1 kj5 l4 t170 false a3_0 a3_1 l3_2)) else (sextonlaw13_ChainDoes.j1 kj5 l4 t170 false a3_0 a3_1 l3_2)))))) = some r := H
        have A17 := Aside0.mk A170
        clear A170
        replace H := Option.bind_eq_some_iff.mp H
        obtain ⟨⟨t191, t192, t193, t196, t199⟩, A180, H⟩ := H
        replace H : ((chain_Whole.f a3_0 a3_1 l3_2 l4).bind fun bt201 => ((sextonref13_Whole.f kj5 a3_0 a3_1 l3_2 t170).bind fun bt203 => ((sextonref01_Texts.f kj5 t173 t177).bind fun t205 => (if t205 = true then (if t174 = t178 then ((sextonref12_Same.f kj5 t181 t182 t183 t191 t192 t193).bind fun t206 => (if t206 = true then ((sextonref01_Texts.f kj5 t186 t196).bind fun t207 => (if t207 = true then (if t189 = t199 then (if bt201.1.toList = bt203.1.toList then (sextonlaw13_ChainDoes.j1 kj5 l4 t170 (bt201.2 == bt203.2) a3_0 a3_1 l3_2) else (sextonlaw13_ChainDoes.j1 kj5 l4 t170 false a3_0 a3_1 l3_2)) else (sextonlaw13_ChainDoes.j1 kj5 l4 t170 false a3_0 a3_1 l3_2)) else (sextonlaw13_ChainDoes.j1 kj5 l4 t170 false a3_0 a3_1 l3_2))) else (sextonlaw13_ChainDoes.j1 kj5 l4 t170 false a3_0 a3_1 l3_2))) else (sextonlaw13_ChainDoes.j1 kj5 l4 t170 false a3_0 a3_1 l3_2)) else (sextonlaw13_ChainDoes.j1 kj5 l4 t170 false a3_0 a3_1 l3_2))))) = some r := H
        have A18 := Aside0.mk A180
        clear A180
        replace H := Option.bind_eq_some_iff.mp H
        obtain ⟨⟨t201, t202⟩, A190, H⟩ := H
        replace H : ((sextonref13_Whole.f kj5 a3_0 a3_1 l3_2 t170).bind fun bt203 => ((sextonref01_Texts.f kj5 t173 t177).bind fun t205 => (if t205 = true then (if t174 = t178 then ((sextonref12_Same.f kj5 t181 t182 t183 t191 t192 t193).bind fun t206 => (if t206 = true then ((sextonref01_Texts.f kj5 t186 t196).bind fun t207 => (if t207 = true then (if t189 = t199 then (if t201.toList = bt203.1.toList then (sextonlaw13_ChainDoes.j1 kj5 l4 t170 (t202 == bt203.2) a3_0 a3_1 l3_2) else (sextonlaw13_ChainDoes.j1 kj5 l4 t170 false a3_0 a3_1 l3_2)) else (sextonlaw13_ChainDoes.j1 kj5 l4 t170 false a3_0 a3_1 l3_2)) else (sextonlaw13_ChainDoes.j1 kj5 l4 t170 false a3_0 a3_1 l3_2))) else (sextonlaw13_ChainDoes.j1 kj5 l4 t170 false a3_0 a3_1 l3_2))) else (sextonlaw13_ChainDoes.j1 kj5 l4 t170 false a3_0 a3_1 l3_2)) else (sextonlaw13_ChainDoes.j1 kj5 l4 t170 false a3_0 a3_1 l3_2)))) = some r := H
        have A19 := Aside0.mk A190
        clear A190
        replace H := Option.bind_eq_some_iff.mp H
        obtain ⟨⟨t203, t204⟩, A200, H⟩ := H
        replace H : ((sextonref01_Texts.f kj5 t173 t177).bind fun t205 => (if t205 = true then (if t174 = t178 then ((sextonref12_Same.f kj5 t181 t182 t183 t191 t192 t193).bind fun t206 => (if t206 = true then ((sextonref01_Texts.f kj5 t186 t196).bind fun t207 => (if t207 = true then (if t189 = t199 then (if t201.toList = t203.toList then (sextonlaw13_ChainDoes.j1 kj5 l4 t170 (t202 == t204) a3_0 a3_1 l3_2) else (sextonlaw13_ChainDoes.j1 kj5 l4 t170 false a3_0 a3_1 l3_2)) else (sextonlaw13_ChainDoes.j1 kj5 l4 t170 false a3_0 a3_1 l3_2)) else (sextonlaw13_ChainDoes.j1 kj5 l4 t170 false a3_0 a3_1 l3_2))) else (sextonlaw13_ChainDoes.j1 kj5 l4 t170 false a3_0 a3_1 l3_2))) else (sextonlaw13_ChainDoes.j1 kj5 l4 t170 false a3_0 a3_1 l3_2)) else (sextonlaw13_ChainDoes.j1 kj5 l4 t170 false a3_0 a3_1 l3_2))) = some r := H
        have A20 := Aside0.mk A200
        clear A200
        have HC21 := Aside0.mk H
        clear H
        go_upto_region 10 with (first | ((with_reducible refine gate_callee (f := 27) rfl ?_); refine goesL_ (some 41) rfl rfl Try.func27 (by kernel_rfl) rfl #[.slice A4 l4.length c4] rfl (by (try simp only [List.map_toArray, List.map_cons, List.map_nil]); first | done | rfl | (simp only [List.length_drop, List.length_take]; rfl)) ?_; (with_reducible refine (sextonref01_Own.calls _ _ l4 t170 _ ?side1 ?side2 A14.out).mono ?_); (case side1 => repeat (first | exact (Kd.C_below HR4.out HB.out) | (with_reducible refine Kd.C_alloc ?_ _) | (with_reducible refine Kd.C_drewN ?_ _) | (with_reducible refine Kd.C_drew ?_))); (case side2 => exact HC4.out); rintro e w22 ⟨v171, rfl, ho0, hb⟩; refine ⟨_, rfl, ?_⟩; have n0_ := Aside0.mk (Kd.R_lower ho0 (below_size (by repeat (first | (with_reducible first | exact HB.out | apply below_alloc | apply pw_below_drewN | apply below_drew1 | refine below_set ?_ GE168.out) | exact HB.out)))); have n1_ := Aside0.mk (blk_below (g := gb168) (o := .cells #[.int .i64 a3_0, .int .i64 a3_1, .slice A3_2 l3_2.length c3_2] 24 (0, 0)) (by (with_reducible repeat (first | refine blk_drewN ?_ _ | refine blk_drew ?_ | refine blk_alloc ?_ _)); exact BK168.out) hb); have n2_ := Aside0.mk (below_step (by repeat (first | (with_reducible first | exact HB.out | apply below_alloc | apply pw_below_drewN | apply below_drew1 | refine below_set ?_ GE168.out) | exact HB.out)) hb); clear BK168; clear HB; have HO172 := n0_; have BK168 := n1_; have HB := n2_; clear n0_ n1_ n2_; (try clear hb); (try clear hb2); (try clear hk); (try clear hi); (try clear ho0)) | ((with_reducible refine gate_callee (f := 28) rfl ?_); refine goesL_ (some 45) rfl rfl Try.func28 (by kernel_rfl) rfl #[.string a0, .int .i64 a1] rfl (by (try simp only [List.map_toArray, List.map_cons, List.map_nil]); first | done | rfl | (simp only [List.length_drop, List.length_take]; rfl)) ?_; (with_reducible refine (chain_Cut.calls a0 a1 t173 t174 _ A15.out).mono ?_); rintro e w23 ⟨v175, rfl, ho0, hb⟩; refine ⟨_, rfl, ?_⟩; have n0_ := Aside0.mk (Kd.R_elder' (by (with_reducible repeat (first | apply Kd.R_alloc | apply Kd.R_drewN | apply Kd.R_drew)); exact HO172.out) (Kd.R_base ho0) hb); have n1_ := Aside0.mk (Kd.R_lower (Kd.R_new' ho0 (Kd.R_lt (by (with_reducible repeat (first | apply Kd.R_alloc | apply Kd.R_drewN | apply Kd.R_drew)); exact HO172.out))) (below_size (by repeat (first | (with_reducible first | exact HB.out | apply below_alloc | apply pw_below_drewN | apply below_drew1 | refine below_set ?_ GE168.out) | exact HB.out)))); have n2_ := Aside0.mk (blk_below (g := gb168) (o := .cells #[.int .i64 a3_0, .int .i64 a3_1, .slice A3_2 l3_2.length c3_2] 24 (0, 0)) (by (with_reducible repeat (first | refine blk_drewN ?_ _ | refine blk_drew ?_ | refine blk_alloc ?_ _)); exact BK168.out) hb); have n3_ := Aside0.mk (below_step (by repeat (first | (with_reducible first | exact HB.out | apply below_alloc | apply pw_below_drewN | apply below_drew1 | refine below_set ?_ GE168.out) | exact HB.out)) hb); clear HO172; clear BK168; clear HB; have HO172 := n0_; have HO176 := n1_; have BK168 := n2_; have HB := n3_; clear n0_ n1_ n2_ n3_; (try clear hb); (try clear hb2); (try clear hk); (try clear hi); (try clear ho0)) | ((with_reducible refine gate_callee (f := 29) rfl ?_); refine goesL_ (some 51) rfl rfl Try.func29 (by kernel_rfl) rfl #[.string a0, .int .i64 a1] rfl (by (try simp only [List.map_toArray, List.map_cons, List.map_nil]); first | done | rfl | (simp only [List.length_drop, List.length_take]; rfl)) ?_; (with_reducible refine (sextonref13_Cut.calls kj5 a0 a1 t177 t178 _ A16.out).mono ?_); rintro e w24 ⟨v179, rfl, ho0, hb⟩; refine ⟨_, rfl, ?_⟩; have n0_ := Aside0.mk (Kd.R_elder' (by (with_reducible repeat (first | apply Kd.R_alloc | apply Kd.R_drewN | apply Kd.R_drew)); exact HO172.out) (Kd.R_base ho0) hb); have n1_ := Aside0.mk (Kd.R_elder' (by (with_reducible repeat (first | apply Kd.R_alloc | apply Kd.R_drewN | apply Kd.R_drew)); exact HO176.out) (Kd.R_base ho0) hb); have n2_ := Aside0.mk (Kd.R_lower (Kd.R_new' (Kd.R_new' ho0 (Kd.R_lt (by (with_reducible repeat (first | apply Kd.R_alloc | apply Kd.R_drewN | apply Kd.R_drew)); exact HO172.out))) (Kd.R_lt (by (with_reducible repeat (first | apply Kd.R_alloc | apply Kd.R_drewN | apply Kd.R_drew)); exact HO176.out))) (below_size (by repeat (first | (with_reducible first | exact HB.out | apply below_alloc | apply pw_below_drewN | apply below_drew1 | refine below_set ?_ GE168.out) | exact HB.out)))); have n3_ := Aside0.mk (blk_below (g := gb168) (o := .cells #[.int .i64 a3_0, .int .i64 a3_1, .slice A3_2 l3_2.length c3_2] 24 (0, 0)) (by (with_reducible repeat (first | refine blk_drewN ?_ _ | refine blk_drew ?_ | refine blk_alloc ?_ _)); exact BK168.out) hb); have n4_ := Aside0.mk (below_step (by repeat (first | (with_reducible first | exact HB.out | apply below_alloc | apply pw_below_drewN | apply below_drew1 | refine below_set ?_ GE168.out) | exact HB.out)) hb); clear HO172; clear HO176; clear BK168; clear HB; have HO172 := n0_; have HO176 := n1_; have HO180 := n2_; have BK168 := n3_; have HB := n4_; clear n0_ n1_ n2_ n3_ n4_; (try clear hb); (try clear hb2); (try clear hk); (try clear hi); (try clear ho0)) | ((with_reducible refine gate_callee (f := 30) rfl ?_); refine goesL_ (some 58) rfl rfl Try.func30 (by kernel_rfl) rfl #[.string a0, .int .i64 a1, .int .i64 a2] rfl (by (try simp only [List.map_toArray, List.map_cons, List.map_nil]); first | done | rfl | (simp only [List.length_drop, List.length_take]; rfl)) ?_; (with_reducible refine (chain_Describe.calls kj5 a0 a1 a2 t181 t182 t183 t186 t189 _ A17.out).mono ?_); rintro e w25 ⟨v184, v187, rfl, ho0, ho1, hb⟩; refine ⟨_, rfl, ?_⟩; have n0_ := Aside0.mk (Kd.R_elder' (by (with_reducible repeat (first | apply Kd.R_alloc | apply Kd.R_drewN | apply Kd.R_drew)); exact HO172.out) (Kd.R_base ho1) hb); have n1_ := Aside0.mk (Kd.R_elder' (by (with_reducible repeat (first | apply Kd.R_alloc | apply Kd.R_drewN | apply Kd.R_drew)); exact HO176.out) (Kd.R_base ho1) hb); have n2_ := Aside0.mk (Kd.R_elder' (by (with_reducible repeat (first | apply Kd.R_alloc | apply Kd.R_drewN | apply Kd.R_drew)); exact HO180.out) (Kd.R_base ho1) hb); have n3_ := Aside0.mk (Kd.R_lower ho0 (below_size (by repeat (first | (with_reducible first | exact HB.out | apply below_alloc | apply pw_below_drewN | apply below_drew1 | refine below_set ?_ GE168.out) | exact HB.out)))); have n4_ := Aside0.mk (Kd.R_lower (Kd.R_new' (Kd.R_new' (Kd.R_new' ho1 (Kd.R_lt (by (with_reducible repeat (first | apply Kd.R_alloc | apply Kd.R_drewN | apply Kd.R_drew)); exact HO172.out))) (Kd.R_lt (by (with_reducible repeat (first | apply Kd.R_alloc | apply Kd.R_drewN | apply Kd.R_drew)); exact HO176.out))) (Kd.R_lt (by (with_reducible repeat (first | apply Kd.R_alloc | apply Kd.R_drewN | apply Kd.R_drew)); exact HO180.out))) (below_size (by repeat (first | (with_reducible first | exact HB.out | apply below_alloc | apply pw_below_drewN | apply below_drew1 | refine below_set ?_ GE168.out) | exact HB.out)))); have n5_ := Aside0.mk (blk_below (g := gb168) (o := .cells #[.int .i64 a3_0, .int .i64 a3_1, .slice A3_2 l3_2.length c3_2] 24 (0, 0)) (by (with_reducible repeat (first | refine blk_drewN ?_ _ | refine blk_drew ?_ | refine blk_alloc ?_ _)); exact BK168.out) hb); have n6_ := Aside0.mk (below_step (by repeat (first | (with_reducible first | exact HB.out | apply below_alloc | apply pw_below_drewN | apply below_drew1 | refine below_set ?_ GE168.out) | exact HB.out)) hb); clear HO172; clear HO176; clear HO180; clear BK168; clear HB; have HO172 := n0_; have HO176 := n1_; have HO180 := n2_; have HO185 := n3_; have HO188 := n4_; have BK168 := n5_; have HB := n6_; clear n0_ n1_ n2_ n3_ n4_ n5_ n6_; (try clear hb); (try clear hb2); (try clear hk); (try clear hi); (try clear ho0); (try clear ho1)) | ((with_reducible refine gate_dst (N := 16) rfl ?_); (try (refine gate_guard (by rfl) ?_; dsimp only)); refine box_event ?hg (N := 16) ?hd (cs := #[.int .i64 0, .int .i64 0, .slice none 0 0]) (t := 24) ?hr ?_; (case hd => rfl); (case hg => rfl); (case hr => first | (go_simp; done) | (go_simp; rfl)); intro gb190 hg w26 hbox hb; have n0_ := Aside0.mk (Kd.R_below (by (with_reducible repeat (first | apply Kd.R_alloc | apply Kd.R_drewN | apply Kd.R_drew)); exact HO172.out) hb); have n1_ := Aside0.mk (Kd.R_below (by (with_reducible repeat (first | apply Kd.R_alloc | apply Kd.R_drewN | apply Kd.R_drew)); exact HO176.out) hb); have n2_ := Aside0.mk (Kd.R_below (by (with_reducible repeat (first | apply Kd.R_alloc | apply Kd.R_drewN | apply Kd.R_drew)); exact HO180.out) hb); have n3_ := Aside0.mk (Kd.R_below (by (with_reducible repeat (first | apply Kd.R_alloc | apply Kd.R_drewN | apply Kd.R_drew)); exact HO185.out) hb); have n4_ := Aside0.mk (Kd.R_below (by (with_reducible repeat (first | apply Kd.R_alloc | apply Kd.R_drewN | apply Kd.R_drew)); exact HO188.out) hb); have n5_ := Aside0.mk (blk_below (g := gb168) (o := .cells #[.int .i64 a3_0, .int .i64 a3_1, .slice A3_2 l3_2.length c3_2] 24 (0, 0)) (by (with_reducible repeat (first | refine blk_drewN ?_ _ | refine blk_drew ?_ | refine blk_alloc ?_ _)); exact BK168.out) hb); have n6_ := Aside0.mk (below_step (by repeat (first | (with_reducible first | exact HB.out | apply below_alloc | apply pw_below_drewN | apply below_drew1 | refine below_set ?_ GE168.out) | exact HB.out)) hb); have n7_ := Aside0.mk (hbox); have n8_ := Aside0.mk ((by rw [hg]; exact (below_size (by repeat (first | (with_reducible first | exact HB.out | apply below_alloc | apply pw_below_drewN | apply below_drew1 | refine below_set ?_ GE168.out) | exact HB.out))) : w.heap.size ≤ gb190)); have n9_ := Aside0.mk ((by rw [hg]; exact (below_size (by repeat (first | (with_reducible first | exact HB.out | apply below_alloc | apply pw_below_drewN | apply below_drew1 | refine below_set ?_ GE168.out) | exact HB.out))) : w.heap.size ≤ gb190)); have n10_ := Aside0.mk ((by rw [hg]; exact Nat.ne_of_lt (blk_lt (g := gb168) (o := .cells #[.int .i64 a3_0, .int .i64 a3_1, .slice A3_2 l3_2.length c3_2] 24 (0, 0)) (by (with_reducible repeat (first | refine blk_drewN ?_ _ | refine blk_drew ?_ | refine blk_alloc ?_ _)); exact BK168.out)) : gb168 ≠ gb190)); have n11_ := Aside0.mk ((by rw [hg]; exact Nat.ne_of_gt (blk_lt (g := gb168) (o := .cells #[.int .i64 a3_0, .int .i64 a3_1, .slice A3_2 l3_2.length c3_2] 24 (0, 0)) (by (with_reducible repeat (first | refine blk_drewN ?_ _ | refine blk_drew ?_ | refine blk_alloc ?_ _)); exact BK168.out)) : gb190 ≠ gb168)); clear HO172; clear HO176; clear HO180; clear HO185; clear HO188; clear BK168; clear HB; have HO172 := n0_; have HO176 := n1_; have HO180 := n2_; have HO185 := n3_; have HO188 := n4_; have BK168 := n5_; have HB := n6_; have BK190 := n7_; have GW190 := n8_; have GE190 := n9_; have NB168_190 := n10_; have NB190_168 := n11_; clear n0_ n1_ n2_ n3_ n4_ n5_ n6_ n7_ n8_ n9_ n10_ n11_; clear hb hbox hg; have hnb27 := NB190_168.out; have hnc27 := NB168_190.out; have hcz28_0 : w26.cell? ⟨gb190, 0, none⟩ = some (.int .i64 0) := (blk_cell BK190.out 0).trans rfl; have hcz28_1 : w26.cell? ⟨gb190, 1, none⟩ = some (.int .i64 0) := (blk_cell BK190.out 1).trans rfl; have hcz28_2 : w26.cell? ⟨gb190, 2, none⟩ = some (.slice none 0 0) := (blk_cell BK190.out 2).trans rfl; have hfz28_0 := blk_frozen BK190.out 0; have hfz28_1 := blk_frozen BK190.out 1; have hfz28_2 := blk_frozen BK190.out 2; obtain ⟨Ao29, co29, eo29⟩ := Kd.R_slice HO185.out; subst eo29) | ((with_reducible refine gate_callee (f := 31) rfl ?_); refine goesL_ (some 66) rfl rfl Try.func31 (by kernel_rfl) rfl #[.string a0, .int .i64 a1, .int .i64 a2] rfl (by (try simp only [List.map_toArray, List.map_cons, List.map_nil]); first | done | rfl | (simp only [List.length_drop, List.length_take]; rfl)) ?_; (with_reducible refine (sextonref13_Describe.calls kj5 a0 a1 a2 t191 t192 t193 t196 t199 _ A18.out).mono ?_); rintro e w30 ⟨v194, v197, rfl, ho0, ho1, hb⟩; refine ⟨_, rfl, ?_⟩; have n0_ := Aside0.mk (Kd.R_elder' (by (with_reducible repeat (first | apply Kd.R_alloc | apply Kd.R_drewN | apply Kd.R_drew)); exact (Kd.R_mono (Kd.R_far (p := ⟨gb190, 2, none⟩) (Kd.R_far (p := ⟨gb190, 1, none⟩) (Kd.R_far (p := ⟨gb190, 0, none⟩) (Kd.R_types HO172.out BK190.out (by decide)) (fun _ hk => hk.2) (.int .i64 t181)) (fun _ hk => hk.2) (.int .i64 t182)) (fun _ hk => hk.2) (.slice Ao29 t183.length co29)) (fun _ h_ => h_.1))) (Kd.R_base ho1) hb); have n1_ := Aside0.mk (Kd.R_elder' (by (with_reducible repeat (first | apply Kd.R_alloc | apply Kd.R_drewN | apply Kd.R_drew)); exact (Kd.R_mono (Kd.R_far (p := ⟨gb190, 2, none⟩) (Kd.R_far (p := ⟨gb190, 1, none⟩) (Kd.R_far (p := ⟨gb190, 0, none⟩) (Kd.R_types HO176.out BK190.out (by decide)) (fun _ hk => hk.2) (.int .i64 t181)) (fun _ hk => hk.2) (.int .i64 t182)) (fun _ hk => hk.2) (.slice Ao29 t183.length co29)) (fun _ h_ => h_.1))) (Kd.R_base ho1) hb); have n2_ := Aside0.mk (Kd.R_elder' (by (with_reducible repeat (first | apply Kd.R_alloc | apply Kd.R_drewN | apply Kd.R_drew)); exact (Kd.R_mono (Kd.R_far (p := ⟨gb190, 2, none⟩) (Kd.R_far (p := ⟨gb190, 1, none⟩) (Kd.R_far (p := ⟨gb190, 0, none⟩) (Kd.R_types HO180.out BK190.out (by decide)) (fun _ hk => hk.2) (.int .i64 t181)) (fun _ hk => hk.2) (.int .i64 t182)) (fun _ hk => hk.2) (.slice Ao29 t183.length co29)) (fun _ h_ => h_.1))) (Kd.R_base ho1) hb); have n3_ := Aside0.mk (Kd.R_elder' (by (with_reducible repeat (first | apply Kd.R_alloc | apply Kd.R_drewN | apply Kd.R_drew)); exact (Kd.R_mono (Kd.R_far (p := ⟨gb190, 2, none⟩) (Kd.R_far (p := ⟨gb190, 1, none⟩) (Kd.R_far (p := ⟨gb190, 0, none⟩) (Kd.R_types HO185.out BK190.out (by decide)) (fun _ hk => hk.2) (.int .i64 t181)) (fun _ hk => hk.2) (.int .i64 t182)) (fun _ hk => hk.2) (.slice Ao29 t183.length co29)) (fun _ h_ => h_.1))) (Kd.R_base ho0) hb); have n4_ := Aside0.mk (Kd.R_elder' (by (with_reducible repeat (first | apply Kd.R_alloc | apply Kd.R_drewN | apply Kd.R_drew)); exact (Kd.R_mono (Kd.R_far (p := ⟨gb190, 2, none⟩) (Kd.R_far (p := ⟨gb190, 1, none⟩) (Kd.R_far (p := ⟨gb190, 0, none⟩) (Kd.R_types HO188.out BK190.out (by decide)) (fun _ hk => hk.2) (.int .i64 t181)) (fun _ hk => hk.2) (.int .i64 t182)) (fun _ hk => hk.2) (.slice Ao29 t183.length co29)) (fun _ h_ => h_.1))) (Kd.R_base ho1) hb); have n5_ := Aside0.mk (Kd.R_lower (Kd.R_new' ho0 (Kd.R_lt (by (with_reducible repeat (first | apply Kd.R_alloc | apply Kd.R_drewN | apply Kd.R_drew)); exact (Kd.R_mono (Kd.R_far (p := ⟨gb190, 2, none⟩) (Kd.R_far (p := ⟨gb190, 1, none⟩) (Kd.R_far (p := ⟨gb190, 0, none⟩) (Kd.R_types HO185.out BK190.out (by decide)) (fun _ hk => hk.2) (.int .i64 t181)) (fun _ hk => hk.2) (.int .i64 t182)) (fun _ hk => hk.2) (.slice Ao29 t183.length co29)) (fun _ h_ => h_.1))))) (below_size (by repeat (first | (with_reducible first | exact HB.out | apply below_alloc | apply pw_below_drewN | apply below_drew1 | refine below_set ?_ GE168.out | refine below_set ?_ GE190.out) | exact HB.out)))); have n6_ := Aside0.mk (Kd.R_lower (Kd.R_new' (Kd.R_new' (Kd.R_new' (Kd.R_new' ho1 (Kd.R_lt (by (with_reducible repeat (first | apply Kd.R_alloc | apply Kd.R_drewN | apply Kd.R_drew)); exact (Kd.R_mono (Kd.R_far (p := ⟨gb190, 2, none⟩) (Kd.R_far (p := ⟨gb190, 1, none⟩) (Kd.R_far (p := ⟨gb190, 0, none⟩) (Kd.R_types HO172.out BK190.out (by decide)) (fun _ hk => hk.2) (.int .i64 t181)) (fun _ hk => hk.2) (.int .i64 t182)) (fun _ hk => hk.2) (.slice Ao29 t183.length co29)) (fun _ h_ => h_.1))))) (Kd.R_lt (by (with_reducible repeat (first | apply Kd.R_alloc | apply Kd.R_drewN | apply Kd.R_drew)); exact (Kd.R_mono (Kd.R_far (p := ⟨gb190, 2, none⟩) (Kd.R_far (p := ⟨gb190, 1, none⟩) (Kd.R_far (p := ⟨gb190, 0, none⟩) (Kd.R_types HO176.out BK190.out (by decide)) (fun _ hk => hk.2) (.int .i64 t181)) (fun _ hk => hk.2) (.int .i64 t182)) (fun _ hk => hk.2) (.slice Ao29 t183.length co29)) (fun _ h_ => h_.1))))) (Kd.R_lt (by (with_reducible repeat (first | apply Kd.R_alloc | apply Kd.R_drewN | apply Kd.R_drew)); exact (Kd.R_mono (Kd.R_far (p := ⟨gb190, 2, none⟩) (Kd.R_far (p := ⟨gb190, 1, none⟩) (Kd.R_far (p := ⟨gb190, 0, none⟩) (Kd.R_types HO180.out BK190.out (by decide)) (fun _ hk => hk.2) (.int .i64 t181)) (fun _ hk => hk.2) (.int .i64 t182)) (fun _ hk => hk.2) (.slice Ao29 t183.length co29)) (fun _ h_ => h_.1))))) (Kd.R_lt (by (with_reducible repeat (first | apply Kd.R_alloc | apply Kd.R_drewN | apply Kd.R_drew)); exact (Kd.R_mono (Kd.R_far (p := ⟨gb190, 2, none⟩) (Kd.R_far (p := ⟨gb190, 1, none⟩) (Kd.R_far (p := ⟨gb190, 0, none⟩) (Kd.R_types HO188.out BK190.out (by decide)) (fun _ hk => hk.2) (.int .i64 t181)) (fun _ hk => hk.2) (.int .i64 t182)) (fun _ hk => hk.2) (.slice Ao29 t183.length co29)) (fun _ h_ => h_.1))))) (below_size (by repeat (first | (with_reducible first | exact HB.out | apply below_alloc | apply pw_below_drewN | apply below_drew1 | refine below_set ?_ GE168.out | refine below_set ?_ GE190.out) | exact HB.out)))); have n7_ := Aside0.mk (blk_below (g := gb168) (o := .cells #[.int .i64 a3_0, .int .i64 a3_1, .slice A3_2 l3_2.length c3_2] 24 (0, 0)) (by (with_reducible repeat (first | refine blk_drewN ?_ _ | refine blk_drew ?_ | refine blk_alloc ?_ _)); refine blk_far ?_ NB168_190.out _; (with_reducible repeat (first | refine blk_drewN ?_ _ | refine blk_drew ?_ | refine blk_alloc ?_ _)); refine blk_far ?_ NB168_190.out _; (with_reducible repeat (first | refine blk_drewN ?_ _ | refine blk_drew ?_ | refine blk_alloc ?_ _)); refine blk_far ?_ NB168_190.out _; (with_reducible repeat (first | refine blk_drewN ?_ _ | refine blk_drew ?_ | refine blk_alloc ?_ _)); exact BK168.out) hb); have n8_ := Aside0.mk (blk_below (g := gb190) (o := .cells #[.int .i64 t181, .int .i64 t182, .slice Ao29 t183.length co29] 24 (0, 0)) (by (with_reducible repeat (first | refine blk_drewN ?_ _ | refine blk_drew ?_ | refine blk_alloc ?_ _)); refine blk_put (cs := #[.int .i64 t181, .int .i64 t182, .slice none 0 0]) ?_ 2 _ rfl; (with_reducible repeat (first | refine blk_drewN ?_ _ | refine blk_drew ?_ | refine blk_alloc ?_ _)); refine blk_put (cs := #[.int .i64 t181, .int .i64 0, .slice none 0 0]) ?_ 1 _ rfl; (with_reducible repeat (first | refine blk_drewN ?_ _ | refine blk_drew ?_ | refine blk_alloc ?_ _)); refine blk_put (cs := #[.int .i64 0, .int .i64 0, .slice none 0 0]) ?_ 0 _ rfl; (with_reducible repeat (first | refine blk_drewN ?_ _ | refine blk_drew ?_ | refine blk_alloc ?_ _)); exact BK190.out) hb); have n9_ := Aside0.mk (below_step (by repeat (first | (with_reducible first | exact HB.out | apply below_alloc | apply pw_below_drewN | apply below_drew1 | refine below_set ?_ GE168.out | refine below_set ?_ GE190.out) | exact HB.out)) hb); clear HO172; clear HO176; clear HO180; clear HO185; clear HO188; clear BK168; clear BK190; clear HB; have HO172 := n0_; have HO176 := n1_; have HO180 := n2_; have HO185 := n3_; have HO188 := n4_; have HO195 := n5_; have HO198 := n6_; have BK168 := n7_; have BK190 := n8_; have HB := n9_; clear n0_ n1_ n2_ n3_ n4_ n5_ n6_ n7_ n8_ n9_; (try clear hb); (try clear hb2); (try clear hk); (try clear hi); (try clear ho0); (try clear ho1)) | ((with_reducible refine gate_dst (N := 19) rfl ?_); (try (refine gate_guard (by rfl) ?_; dsimp only)); refine box_event ?hg (N := 19) ?hd (cs := #[.int .i64 0, .int .i64 0, .slice none 0 0]) (t := 24) ?hr ?_; (case hd => rfl); (case hg => rfl); (case hr => first | (go_simp; done) | (go_simp; rfl)); intro gb200 hg w31 hbox hb; have n0_ := Aside0.mk (Kd.R_below (by (with_reducible repeat (first | apply Kd.R_alloc | apply Kd.R_drewN | apply Kd.R_drew)); exact HO172.out) hb); have n1_ := Aside0.mk (Kd.R_below (by (with_reducible repeat (first | apply Kd.R_alloc | apply Kd.R_drewN | apply Kd.R_drew)); exact HO176.out) hb); have n2_ := Aside0.mk (Kd.R_below (by (with_reducible repeat (first | apply Kd.R_alloc | apply Kd.R_drewN | apply Kd.R_drew)); exact HO180.out) hb); have n3_ := Aside0.mk (Kd.R_below (by (with_reducible repeat (first | apply Kd.R_alloc | apply Kd.R_drewN | apply Kd.R_drew)); exact HO185.out) hb); have n4_ := Aside0.mk (Kd.R_below (by (with_reducible repeat (first | apply Kd.R_alloc | apply Kd.R_drewN | apply Kd.R_drew)); exact HO188.out) hb); have n5_ := Aside0.mk (Kd.R_below (by (with_reducible repeat (first | apply Kd.R_alloc | apply Kd.R_drewN | apply Kd.R_drew)); exact HO195.out) hb); have n6_ := Aside0.mk (Kd.R_below (by (with_reducible repeat (first | apply Kd.R_alloc | apply Kd.R_drewN | apply Kd.R_drew)); exact HO198.out) hb); have n7_ := Aside0.mk (blk_below (g := gb168) (o := .cells #[.int .i64 a3_0, .int .i64 a3_1, .slice A3_2 l3_2.length c3_2] 24 (0, 0)) (by (with_reducible repeat (first | refine blk_drewN ?_ _ | refine blk_drew ?_ | refine blk_alloc ?_ _)); exact BK168.out) hb); have n8_ := Aside0.mk (blk_below (g := gb190) (o := .cells #[.int .i64 t181, .int .i64 t182, .slice Ao29 t183.length co29] 24 (0, 0)) (by (with_reducible repeat (first | refine blk_drewN ?_ _ | refine blk_drew ?_ | refine blk_alloc ?_ _)); exact BK190.out) hb); have n9_ := Aside0.mk (below_step (by repeat (first | (with_reducible first | exact HB.out | apply below_alloc | apply pw_below_drewN | apply below_drew1 | refine below_set ?_ GE168.out | refine below_set ?_ GE190.out) | exact HB.out)) hb); have n10_ := Aside0.mk (hbox); have n11_ := Aside0.mk ((by rw [hg]; exact (below_size (by repeat (first | (with_reducible first | exact HB.out | apply below_alloc | apply pw_below_drewN | apply below_drew1 | refine below_set ?_ GE168.out | refine below_set ?_ GE190.out) | exact HB.out))) : w.heap.size ≤ gb200)); have n12_ := Aside0.mk ((by rw [hg]; exact (below_size (by repeat (first | (with_reducible first | exact HB.out | apply below_alloc | apply pw_below_drewN | apply below_drew1 | refine below_set ?_ GE168.out | refine below_set ?_ GE190.out) | exact HB.out))) : w.heap.size ≤ gb200)); have n13_ := Aside0.mk ((by rw [hg]; exact Nat.ne_of_lt (blk_lt (g := gb168) (o := .cells #[.int .i64 a3_0, .int .i64 a3_1, .slice A3_2 l3_2.length c3_2] 24 (0, 0)) (by (with_reducible repeat (first | refine blk_drewN ?_ _ | refine blk_drew ?_ | refine blk_alloc ?_ _)); exact BK168.out)) : gb168 ≠ gb200)); have n14_ := Aside0.mk ((by rw [hg]; exact Nat.ne_of_gt (blk_lt (g := gb168) (o := .cells #[.int .i64 a3_0, .int .i64 a3_1, .slice A3_2 l3_2.length c3_2] 24 (0, 0)) (by (with_reducible repeat (first | refine blk_drewN ?_ _ | refine blk_drew ?_ | refine blk_alloc ?_ _)); exact BK168.out)) : gb200 ≠ gb168)); have n15_ := Aside0.mk ((by rw [hg]; exact Nat.ne_of_lt (blk_lt (g := gb190) (o := .cells #[.int .i64 t181, .int .i64 t182, .slice Ao29 t183.length co29] 24 (0, 0)) (by (with_reducible repeat (first | refine blk_drewN ?_ _ | refine blk_drew ?_ | refine blk_alloc ?_ _)); exact BK190.out)) : gb190 ≠ gb200)); have n16_ := Aside0.mk ((by rw [hg]; exact Nat.ne_of_gt (blk_lt (g := gb190) (o := .cells #[.int .i64 t181, .int .i64 t182, .slice Ao29 t183.length co29] 24 (0, 0)) (by (with_reducible repeat (first | refine blk_drewN ?_ _ | refine blk_drew ?_ | refine blk_alloc ?_ _)); exact BK190.out)) : gb200 ≠ gb190)); clear HO172; clear HO176; clear HO180; clear HO185; clear HO188; clear HO195; clear HO198; clear BK168; clear BK190; clear HB; have HO172 := n0_; have HO176 := n1_; have HO180 := n2_; have HO185 := n3_; have HO188 := n4_; have HO195 := n5_; have HO198 := n6_; have BK168 := n7_; have BK190 := n8_; have HB := n9_; have BK200 := n10_; have GW200 := n11_; have GE200 := n12_; have NB168_200 := n13_; have NB200_168 := n14_; have NB190_200 := n15_; have NB200_190 := n16_; clear n0_ n1_ n2_ n3_ n4_ n5_ n6_ n7_ n8_ n9_ n10_ n11_ n12_ n13_ n14_ n15_ n16_; clear hb hbox hg; have hnb32 := NB200_168.out; have hnc32 := NB168_200.out; have hnb33 := NB200_190.out; have hnc33 := NB190_200.out; have hcz34_0 : w31.cell? ⟨gb200, 0, none⟩ = some (.int .i64 0) := (blk_cell BK200.out 0).trans rfl; have hcz34_1 : w31.cell? ⟨gb200, 1, none⟩ = some (.int .i64 0) := (blk_cell BK200.out 1).trans rfl; have hcz34_2 : w31.cell? ⟨gb200, 2, none⟩ = some (.slice none 0 0) := (blk_cell BK200.out 2).trans rfl; have hfz34_0 := blk_frozen BK200.out 0; have hfz34_1 := blk_frozen BK200.out 1; have hfz34_2 := blk_frozen BK200.out 2; obtain ⟨Ao35, co35, eo35⟩ := Kd.R_slice HO195.out; subst eo35; have hcz36_0 : w31.cell? ⟨gb168, 0, none⟩ = some (.int .i64 a3_0) := (blk_cell BK168.out 0).trans rfl; have hcz36_1 : w31.cell? ⟨gb168, 1, none⟩ = some (.int .i64 a3_1) := (blk_cell BK168.out 1).trans rfl; have hcz36_2 : w31.cell? ⟨gb168, 2, none⟩ = some (.slice A3_2 l3_2.length c3_2) := (blk_cell BK168.out 2).trans rfl; have hfz36_0 := blk_frozen BK168.out 0; have hfz36_1 := blk_frozen BK168.out 1; have hfz36_2 := blk_frozen BK168.out 2) | ((with_reducible refine gate_callee (f := 32) rfl ?_); refine goesL_ (some 73) rfl rfl Try.func32 (by kernel_rfl) rfl #[.agg #[.int .i64 a3_0, .int .i64 a3_1, .slice A3_2 l3_2.length c3_2], .slice A4 l4.length c4] rfl (by (try simp only [List.map_toArray, List.map_cons, List.map_nil]); first | done | rfl | (simp only [List.length_drop, List.length_take]; rfl)) ?_; (with_reducible refine (chain_Whole.calls a3_0 a3_1 _ _ l3_2 _ _ l4 t201 t202 _ ?side1 ?side2 ?side3 ?side4 A19.out).mono ?_); (case side1 => exact Kd.C_below HR3_2.out (by repeat (first | (with_reducible first | exact HB.out | apply below_alloc | apply pw_below_drewN | apply below_drew1 | refine below_set ?_ GE168.out | refine below_set ?_ GE190.out | refine below_set ?_ GE200.out) | exact HB.out))); (case side2 => exact HC3_2.out); (case side3 => exact Kd.C_below HR4.out (by repeat (first | (with_reducible first | exact HB.out | apply below_alloc | apply pw_below_drewN | apply below_drew1 | refine below_set ?_ GE168.out | refine below_set ?_ GE190.out | refine below_set ?_ GE200.out) | exact HB.out))); (case side4 => exact HC4.out); rintro e w37 ⟨rfl, hb⟩; refine ⟨_, rfl, ?_⟩; have n0_ := Aside0.mk (Kd.R_below (by (with_reducible repeat (first | apply Kd.R_alloc | apply Kd.R_drewN | apply Kd.R_drew)); exact (Kd.R_mono (Kd.R_far (p := ⟨gb200, 2, none⟩) (Kd.R_far (p := ⟨gb200, 1, none⟩) (Kd.R_far (p := ⟨gb200, 0, none⟩) (Kd.R_types HO172.out BK200.out (by decide)) (fun _ hk => hk.2) (.int .i64 t191)) (fun _ hk => hk.2) (.int .i64 t192)) (fun _ hk => hk.2) (.slice Ao35 t193.length co35)) (fun _ h_ => h_.1))) hb); have n1_ := Aside0.mk (Kd.R_below (by (with_reducible repeat (first | apply Kd.R_alloc | apply Kd.R_drewN | apply Kd.R_drew)); exact (Kd.R_mono (Kd.R_far (p := ⟨gb200, 2, none⟩) (Kd.R_far (p := ⟨gb200, 1, none⟩) (Kd.R_far (p := ⟨gb200, 0, none⟩) (Kd.R_types HO176.out BK200.out (by decide)) (fun _ hk => hk.2) (.int .i64 t191)) (fun _ hk => hk.2) (.int .i64 t192)) (fun _ hk => hk.2) (.slice Ao35 t193.length co35)) (fun _ h_ => h_.1))) hb); have n2_ := Aside0.mk (Kd.R_below (by (with_reducible repeat (first | apply Kd.R_alloc | apply Kd.R_drewN | apply Kd.R_drew)); exact (Kd.R_mono (Kd.R_far (p := ⟨gb200, 2, none⟩) (Kd.R_far (p := ⟨gb200, 1, none⟩) (Kd.R_far (p := ⟨gb200, 0, none⟩) (Kd.R_types HO180.out BK200.out (by decide)) (fun _ hk => hk.2) (.int .i64 t191)) (fun _ hk => hk.2) (.int .i64 t192)) (fun _ hk => hk.2) (.slice Ao35 t193.length co35)) (fun _ h_ => h_.1))) hb); have n3_ := Aside0.mk (Kd.R_below (by (with_reducible repeat (first | apply Kd.R_alloc | apply Kd.R_drewN | apply Kd.R_drew)); exact (Kd.R_mono (Kd.R_far (p := ⟨gb200, 2, none⟩) (Kd.R_far (p := ⟨gb200, 1, none⟩) (Kd.R_far (p := ⟨gb200, 0, none⟩) (Kd.R_types HO185.out BK200.out (by decide)) (fun _ hk => hk.2) (.int .i64 t191)) (fun _ hk => hk.2) (.int .i64 t192)) (fun _ hk => hk.2) (.slice Ao35 t193.length co35)) (fun _ h_ => h_.1))) hb); have n4_ := Aside0.mk (Kd.R_below (by (with_reducible repeat (first | apply Kd.R_alloc | apply Kd.R_drewN | apply Kd.R_drew)); exact (Kd.R_mono (Kd.R_far (p := ⟨gb200, 2, none⟩) (Kd.R_far (p := ⟨gb200, 1, none⟩) (Kd.R_far (p := ⟨gb200, 0, none⟩) (Kd.R_types HO188.out BK200.out (by decide)) (fun _ hk => hk.2) (.int .i64 t191)) (fun _ hk => hk.2) (.int .i64 t192)) (fun _ hk => hk.2) (.slice Ao35 t193.length co35)) (fun _ h_ => h_.1))) hb); have n5_ := Aside0.mk (Kd.R_below (by (with_reducible repeat (first | apply Kd.R_alloc | apply Kd.R_drewN | apply Kd.R_drew)); exact (Kd.R_mono (Kd.R_far (p := ⟨gb200, 2, none⟩) (Kd.R_far (p := ⟨gb200, 1, none⟩) (Kd.R_far (p := ⟨gb200, 0, none⟩) (Kd.R_types HO195.out BK200.out (by decide)) (fun _ hk => hk.2) (.int .i64 t191)) (fun _ hk => hk.2) (.int .i64 t192)) (fun _ hk => hk.2) (.slice Ao35 t193.length co35)) (fun _ h_ => h_.1))) hb); have n6_ := Aside0.mk (Kd.R_below (by (with_reducible repeat (first | apply Kd.R_alloc | apply Kd.R_drewN | apply Kd.R_drew)); exact (Kd.R_mono (Kd.R_far (p := ⟨gb200, 2, none⟩) (Kd.R_far (p := ⟨gb200, 1, none⟩) (Kd.R_far (p := ⟨gb200, 0, none⟩) (Kd.R_types HO198.out BK200.out (by decide)) (fun _ hk => hk.2) (.int .i64 t191)) (fun _ hk => hk.2) (.int .i64 t192)) (fun _ hk => hk.2) (.slice Ao35 t193.length co35)) (fun _ h_ => h_.1))) hb); have n7_ := Aside0.mk (blk_below (g := gb168) (o := .cells #[.int .i64 a3_0, .int .i64 a3_1, .slice A3_2 l3_2.length c3_2] 24 (0, 0)) (by (with_reducible repeat (first | refine blk_drewN ?_ _ | refine blk_drew ?_ | refine blk_alloc ?_ _)); refine blk_far ?_ NB168_200.out _; (with_reducible repeat (first | refine blk_drewN ?_ _ | refine blk_drew ?_ | refine blk_alloc ?_ _)); refine blk_far ?_ NB168_200.out _; (with_reducible repeat (first | refine blk_drewN ?_ _ | refine blk_drew ?_ | refine blk_alloc ?_ _)); refine blk_far ?_ NB168_200.out _; (with_reducible repeat (first | refine blk_drewN ?_ _ | refine blk_drew ?_ | refine blk_alloc ?_ _)); exact BK168.out) hb); have n8_ := Aside0.mk (blk_below (g := gb190) (o := .cells #[.int .i64 t181, .int .i64 t182, .slice Ao29 t183.length co29] 24 (0, 0)) (by (with_reducible repeat (first | refine blk_drewN ?_ _ | refine blk_drew ?_ | refine blk_alloc ?_ _)); refine blk_far ?_ NB190_200.out _; (with_reducible repeat (first | refine blk_drewN ?_ _ | refine blk_drew ?_ | refine blk_alloc ?_ _)); refine blk_far ?_ NB190_200.out _; (with_reducible repeat (first | refine blk_drewN ?_ _ | refine blk_drew ?_ | refine blk_alloc ?_ _)); refine blk_far ?_ NB190_200.out _; (with_reducible repeat (first | refine blk_drewN ?_ _ | refine blk_drew ?_ | refine blk_alloc ?_ _)); exact BK190.out) hb); have n9_ := Aside0.mk (blk_below (g := gb200) (o := .cells #[.int .i64 t191, .int .i64 t192, .slice Ao35 t193.length co35] 24 (0, 0)) (by (with_reducible repeat (first | refine blk_drewN ?_ _ | refine blk_drew ?_ | refine blk_alloc ?_ _)); refine blk_put (cs := #[.int .i64 t191, .int .i64 t192, .slice none 0 0]) ?_ 2 _ rfl; (with_reducible repeat (first | refine blk_drewN ?_ _ | refine blk_drew ?_ | refine blk_alloc ?_ _)); refine blk_put (cs := #[.int .i64 t191, .int .i64 0, .slice none 0 0]) ?_ 1 _ rfl; (with_reducible repeat (first | refine blk_drewN ?_ _ | refine blk_drew ?_ | refine blk_alloc ?_ _)); refine blk_put (cs := #[.int .i64 0, .int .i64 0, .slice none 0 0]) ?_ 0 _ rfl; (with_reducible repeat (first | refine blk_drewN ?_ _ | refine blk_drew ?_ | refine blk_alloc ?_ _)); exact BK200.out) hb); have n10_ := Aside0.mk (below_step (by repeat (first | (with_reducible first | exact HB.out | apply below_alloc | apply pw_below_drewN | apply below_drew1 | refine below_set ?_ GE168.out | refine below_set ?_ GE190.out | refine below_set ?_ GE200.out) | exact HB.out)) hb); clear HO172; clear HO176; clear HO180; clear HO185; clear HO188; clear HO195; clear HO198; clear BK168; clear BK190; clear BK200; clear HB; have HO172 := n0_; have HO176 := n1_; have HO180 := n2_; have HO185 := n3_; have HO188 := n4_; have HO195 := n5_; have HO198 := n6_; have BK168 := n7_; have BK190 := n8_; have BK200 := n9_; have HB := n10_; clear n0_ n1_ n2_ n3_ n4_ n5_ n6_ n7_ n8_ n9_ n10_; (try clear hb); (try clear hb2); (try clear hk); (try clear hi); have hcz38_0 : w37.cell? ⟨gb168, 0, none⟩ = some (.int .i64 a3_0) := (blk_cell BK168.out 0).trans rfl; have hcz38_1 : w37.cell? ⟨gb168, 1, none⟩ = some (.int .i64 a3_1) := (blk_cell BK168.out 1).trans rfl; have hcz38_2 : w37.cell? ⟨gb168, 2, none⟩ = some (.slice A3_2 l3_2.length c3_2) := (blk_cell BK168.out 2).trans rfl; have hfz38_0 := blk_frozen BK168.out 0; have hfz38_1 := blk_frozen BK168.out 1; have hfz38_2 := blk_frozen BK168.out 2; obtain ⟨Ao39, co39, eo39⟩ := Kd.R_slice HO172.out; subst eo39) | ((with_reducible refine gate_callee (f := 33) rfl ?_); refine goesL_ (some 79) rfl rfl Try.func33 (by kernel_rfl) rfl #[.agg #[.int .i64 a3_0, .int .i64 a3_1, .slice A3_2 l3_2.length c3_2], .slice Ao39 t170.length co39] rfl (by (try simp only [List.map_toArray, List.map_cons, List.map_nil]); first | done | rfl | (simp only [List.length_drop, List.length_take]; rfl)) ?_; (with_reducible refine (sextonref13_Whole.calls kj5 a3_0 a3_1 _ _ l3_2 _ _ t170 t203 t204 _ ?side1 ?side2 ?side3 ?side4 A20.out).mono ?_); (case side1 => repeat (first | exact (Kd.C_below HR3_2.out HB.out) | (with_reducible refine Kd.C_alloc ?_ _) | (with_reducible refine Kd.C_drewN ?_ _) | (with_reducible refine Kd.C_drew ?_))); (case side2 => exact HC3_2.out); (case side3 => repeat (first | exact (Kd.R_reads' HO172.out).2.2 | (with_reducible refine Kd.C_alloc ?_ _) | (with_reducible refine Kd.C_drewN ?_ _) | (with_reducible refine Kd.C_drew ?_))); (case side4 => exact (Kd.R_reads' HO172.out).2.1); rintro e w40 ⟨rfl, hb⟩; refine ⟨_, rfl, ?_⟩; have n0_ := Aside0.mk (Kd.R_below (by (with_reducible repeat (first | apply Kd.R_alloc | apply Kd.R_drewN | apply Kd.R_drew)); exact HO172.out) hb); have n1_ := Aside0.mk (Kd.R_below (by (with_reducible repeat (first | apply Kd.R_alloc | apply Kd.R_drewN | apply Kd.R_drew)); exact HO176.out) hb); have n2_ := Aside0.mk (Kd.R_below (by (with_reducible repeat (first | apply Kd.R_alloc | apply Kd.R_drewN | apply Kd.R_drew)); exact HO180.out) hb); have n3_ := Aside0.mk (Kd.R_below (by (with_reducible repeat (first | apply Kd.R_alloc | apply Kd.R_drewN | apply Kd.R_drew)); exact HO185.out) hb); have n4_ := Aside0.mk (Kd.R_below (by (with_reducible repeat (first | apply Kd.R_alloc | apply Kd.R_drewN | apply Kd.R_drew)); exact HO188.out) hb); have n5_ := Aside0.mk (Kd.R_below (by (with_reducible repeat (first | apply Kd.R_alloc | apply Kd.R_drewN | apply Kd.R_drew)); exact HO195.out) hb); have n6_ := Aside0.mk (Kd.R_below (by (with_reducible repeat (first | apply Kd.R_alloc | apply Kd.R_drewN | apply Kd.R_drew)); exact HO198.out) hb); have n7_ := Aside0.mk (blk_below (g := gb168) (o := .cells #[.int .i64 a3_0, .int .i64 a3_1, .slice A3_2 l3_2.length c3_2] 24 (0, 0)) (by (with_reducible repeat (first | refine blk_drewN ?_ _ | refine blk_drew ?_ | refine blk_alloc ?_ _)); exact BK168.out) hb); have n8_ := Aside0.mk (blk_below (g := gb190) (o := .cells #[.int .i64 t181, .int .i64 t182, .slice Ao29 t183.length co29] 24 (0, 0)) (by (with_reducible repeat (first | refine blk_drewN ?_ _ | refine blk_drew ?_ | refine blk_alloc ?_ _)); exact BK190.out) hb); have n9_ := Aside0.mk (blk_below (g := gb200) (o := .cells #[.int .i64 t191, .int .i64 t192, .slice Ao35 t193.length co35] 24 (0, 0)) (by (with_reducible repeat (first | refine blk_drewN ?_ _ | refine blk_drew ?_ | refine blk_alloc ?_ _)); exact BK200.out) hb); have n10_ := Aside0.mk (below_step (by repeat (first | (with_reducible first | exact HB.out | apply below_alloc | apply pw_below_drewN | apply below_drew1 | refine below_set ?_ GE168.out | refine below_set ?_ GE190.out | refine below_set ?_ GE200.out) | exact HB.out)) hb); clear HO172; clear HO176; clear HO180; clear HO185; clear HO188; clear HO195; clear HO198; clear BK168; clear BK190; clear BK200; clear HB; have HO172 := n0_; have HO176 := n1_; have HO180 := n2_; have HO185 := n3_; have HO188 := n4_; have HO195 := n5_; have HO198 := n6_; have BK168 := n7_; have BK190 := n8_; have BK200 := n9_; have HB := n10_; clear n0_ n1_ n2_ n3_ n4_ n5_ n6_ n7_ n8_ n9_ n10_; (try clear hb); (try clear hb2); (try clear hk); (try clear hi)))
        (try simp only [Act.put, List.setIfInBounds_toArray, List.set_cons_zero, List.set_cons_succ])
        go_cut [26] (fun v26 wc => ∃ (kq : Nat) (x26_20 : Bool), v26 = .bool x26_20 ∧ Aside0 (sextonlaw13_ChainDoes.j1 kq l4 t170 x26_20 a3_0 a3_1 l3_2 = some r) ∧ Aside0 (kq ≤ kj5) ∧ Aside0 (Kd.R Kd.string 9 wc w.heap.size (fun _ => True) (.slice Ao39 t170.length co39) t170) ∧ Aside0 (Kd.R (Kd.int .i64) 3 wc w.heap.size (fun k_ => some k_ ≠ ((.slice Ao35 t193.length co35) : Value).ownBlock) (.slice Ao29 t183.length co29) t183) ∧ Aside0 (Kd.R (Kd.int .i64) 3 wc w.heap.size (fun k_ => some k_ ≠ ((.slice Ao29 t183.length co29) : Value).ownBlock) (.slice Ao35 t193.length co35) t193) ∧ Aside0 (wc.heap[gb168]? = some (.cells #[.int .i64 a3_0, .int .i64 a3_1, (.slice A3_2 l3_2.length c3_2)] 24 (0, 0))) ∧ Aside0 (wc.heap[gb190]? = some (.cells #[.int .i64 t181, .int .i64 t182, (.slice Ao29 t183.length co29)] 24 (0, 0))) ∧ Aside0 (wc.heap[gb200]? = some (.cells #[.int .i64 t191, .int .i64 t192, (.slice Ao35 t193.length co35)] 24 (0, 0))) ∧ Aside0 (Below w.heap.size w wc))
        case first =>
          have H := HC21.out
          clear HC21
          replace H := Option.bind_eq_some_iff.mp H
          obtain ⟨t205, A410, H⟩ := H
          replace H : (if t205 = true then (if t174 = t178 then ((sextonref12_Same.f kj5 t181 t182 t183 t191 t192 t193).bind fun t206 => (if t206 = true then ((sextonref01_Texts.f kj5 t186 t196).bind fun t207 => (if t207 = true then (if t189 = t199 then (if t201.toList = t203.toList then (sextonlaw13_ChainDoes.j1 kj5 l4 t170 (t202 == t204) a3_0 a3_1 l3_2) else (sextonlaw13_ChainDoes.j1 kj5 l4 t170 false a3_0 a3_1 l3_2)) else (sextonlaw13_ChainDoes.j1 kj5 l4 t170 false a3_0 a3_1 l3_2)) else (sextonlaw13_ChainDoes.j1 kj5 l4 t170 false a3_0 a3_1 l3_2))) else (sextonlaw13_ChainDoes.j1 kj5 l4 t170 false a3_0 a3_1 l3_2))) else (sextonlaw13_ChainDoes.j1 kj5 l4 t170 false a3_0 a3_1 l3_2)) else (sextonlaw13_ChainDoes.j1 kj5 l4 t170 false a3_0 a3_1 l3_2)) = some r := H
          have A41 := Aside0.mk A410
          clear A410
          by_cases c42 : t205 = true
          · subst c42
            have H1 : (if t174 = t178 then ((sextonref12_Same.f kj5 t181 t182 t183 t191 t192 t193).bind fun t206 => (if t206 = true then ((sextonref01_Texts.f kj5 t186 t196).bind fun t207 => (if t207 = true then (if t189 = t199 then (if t201.toList = t203.toList then (sextonlaw13_ChainDoes.j1 kj5 l4 t170 (t202 == t204) a3_0 a3_1 l3_2) else (sextonlaw13_ChainDoes.j1 kj5 l4 t170 false a3_0 a3_1 l3_2)) else (sextonlaw13_ChainDoes.j1 kj5 l4 t170 false a3_0 a3_1 l3_2)) else (sextonlaw13_ChainDoes.j1 kj5 l4 t170 false a3_0 a3_1 l3_2))) else (sextonlaw13_ChainDoes.j1 kj5 l4 t170 false a3_0 a3_1 l3_2))) else (sextonlaw13_ChainDoes.j1 kj5 l4 t170 false a3_0 a3_1 l3_2)) = some r := by rw [if_pos rfl] at H; exact H
            clear H
            have H := H1
            clear H1
            by_cases c43 : t174 = t178
            · rw [if_pos c43] at H
              have c43b0 : (t174 == t178) = true := beq_iff_eq.mpr c43
              have c43b1 : (t174 != t178) = false := bne_eq_false_iff_eq.mpr c43
              clear c43
              (first | rw [c43b0] | (simp only [i64_w, i32_w]; rw [c43b0]) | skip)
              replace H := Option.bind_eq_some_iff.mp H
              obtain ⟨t206, A440, H⟩ := H
              replace H : (if t206 = true then ((sextonref01_Texts.f kj5 t186 t196).bind fun t207 => (if t207 = true then (if t189 = t199 then (if t201.toList = t203.toList then (sextonlaw13_ChainDoes.j1 kj5 l4 t170 (t202 == t204) a3_0 a3_1 l3_2) else (sextonlaw13_ChainDoes.j1 kj5 l4 t170 false a3_0 a3_1 l3_2)) else (sextonlaw13_ChainDoes.j1 kj5 l4 t170 false a3_0 a3_1 l3_2)) else (sextonlaw13_ChainDoes.j1 kj5 l4 t170 false a3_0 a3_1 l3_2))) else (sextonlaw13_ChainDoes.j1 kj5 l4 t170 false a3_0 a3_1 l3_2)) = some r := H
              have A44 := Aside0.mk A440
              clear A440
              by_cases c45 : t206 = true
              · subst c45
                have H1 : ((sextonref01_Texts.f kj5 t186 t196).bind fun t207 => (if t207 = true then (if t189 = t199 then (if t201.toList = t203.toList then (sextonlaw13_ChainDoes.j1 kj5 l4 t170 (t202 == t204) a3_0 a3_1 l3_2) else (sextonlaw13_ChainDoes.j1 kj5 l4 t170 false a3_0 a3_1 l3_2)) else (sextonlaw13_ChainDoes.j1 kj5 l4 t170 false a3_0 a3_1 l3_2)) else (sextonlaw13_ChainDoes.j1 kj5 l4 t170 false a3_0 a3_1 l3_2))) = some r := by rw [if_pos rfl] at H; exact H
                clear H
                have H := H1
                clear H1
                replace H := Option.bind_eq_some_iff.mp H
                obtain ⟨t207, A460, H⟩ := H
                replace H : (if t207 = true then (if t189 = t199 then (if t201.toList = t203.toList then (sextonlaw13_ChainDoes.j1 kj5 l4 t170 (t202 == t204) a3_0 a3_1 l3_2) else (sextonlaw13_ChainDoes.j1 kj5 l4 t170 false a3_0 a3_1 l3_2)) else (sextonlaw13_ChainDoes.j1 kj5 l4 t170 false a3_0 a3_1 l3_2)) else (sextonlaw13_ChainDoes.j1 kj5 l4 t170 false a3_0 a3_1 l3_2)) = some r := H
                have A46 := Aside0.mk A460
                clear A460
                by_cases c47 : t207 = true
                · subst c47
                  have H1 : (if t189 = t199 then (if t201.toList = t203.toList then (sextonlaw13_ChainDoes.j1 kj5 l4 t170 (t202 == t204) a3_0 a3_1 l3_2) else (sextonlaw13_ChainDoes.j1 kj5 l4 t170 false a3_0 a3_1 l3_2)) else (sextonlaw13_ChainDoes.j1 kj5 l4 t170 false a3_0 a3_1 l3_2)) = some r := by rw [if_pos rfl] at H; exact H
                  clear H
                  have H := H1
                  clear H1
                  by_cases c48 : t189 = t199
                  · rw [if_pos c48] at H
                    have c48b0 : (t189 == t199) = true := beq_iff_eq.mpr c48
                    have c48b1 : (t189 != t199) = false := bne_eq_false_iff_eq.mpr c48
                    clear c48
                    by_cases c49 : t201.toList = t203.toList
                    · rw [if_pos c49] at H
                      have c49b0 : (t201.toList == t203.toList) = true := beq_iff_eq.mpr c49
                      have c49b1 : (t201.toList != t203.toList) = false := bne_eq_false_iff_eq.mpr c49
                      clear c49
                      have H' := Aside0.mk H
                      clear H
                      obtain ⟨Ao50, co50, eo50⟩ := Kd.R_slice HO176.out
                      subst eo50
                      obtain ⟨Ao51, co51, eo51⟩ := Kd.R_slice HO180.out
                      subst eo51
                      go_wp2_with (first | ((with_reducible refine gate_callee (f := 34) rfl ?_); refine goesL_ (some 84) rfl rfl Try.func34 (by kernel_rfl) rfl #[.slice Ao50 t173.length co50, .slice Ao51 t177.length co51] rfl (by (try simp only [List.map_toArray, List.map_cons, List.map_nil]); first | done | rfl | (simp only [List.length_drop, List.length_take]; rfl)) ?_; (with_reducible refine (sextonref01_Texts.calls kj5 _ _ t173 _ _ t177 true _ ?side1 ?side2 ?side3 ?side4 A41.out).mono ?_); (case side1 => repeat (first | exact (Kd.R_reads' HO176.out).2.2 | (with_reducible refine Kd.C_alloc ?_ _) | (with_reducible refine Kd.C_drewN ?_ _) | (with_reducible refine Kd.C_drew ?_))); (case side2 => exact (Kd.R_reads' HO176.out).2.1); (case side3 => repeat (first | exact (Kd.R_reads' HO180.out).2.2 | (with_reducible refine Kd.C_alloc ?_ _) | (with_reducible refine Kd.C_drewN ?_ _) | (with_reducible refine Kd.C_drew ?_))); (case side4 => exact (Kd.R_reads' HO180.out).2.1); rintro e w' ⟨rfl, ⟨nd, rfl⟩⟩; refine ⟨_, rfl, ?_⟩; have hnb52 := NB190_168.out; have hnc52 := NB168_190.out; have hnb53 := NB190_200.out; have hnc53 := NB200_190.out; have hcz54_0 : w40.cell? ⟨gb190, 0, none⟩ = some (.int .i64 t181) := (blk_cell BK190.out 0).trans rfl; have hcz54_1 : w40.cell? ⟨gb190, 1, none⟩ = some (.int .i64 t182) := (blk_cell BK190.out 1).trans rfl; have hcz54_2 : w40.cell? ⟨gb190, 2, none⟩ = some (.slice Ao29 t183.length co29) := (blk_cell BK190.out 2).trans rfl; have hfz54_0 := blk_frozen BK190.out 0; have hfz54_1 := blk_frozen BK190.out 1; have hfz54_2 := blk_frozen BK190.out 2; have hnb55 := NB200_168.out; have hnc55 := NB168_200.out; have hcz56_0 : w40.cell? ⟨gb200, 0, none⟩ = some (.int .i64 t191) := (blk_cell BK200.out 0).trans rfl; have hcz56_1 : w40.cell? ⟨gb200, 1, none⟩ = some (.int .i64 t192) := (blk_cell BK200.out 1).trans rfl; have hcz56_2 : w40.cell? ⟨gb200, 2, none⟩ = some (.slice Ao35 t193.length co35) := (blk_cell BK200.out 2).trans rfl; have hfz56_0 := blk_frozen BK200.out 0; have hfz56_1 := blk_frozen BK200.out 1; have hfz56_2 := blk_frozen BK200.out 2) | (go_at_call 25; (with_reducible refine (sextonref12_Same.calls kj5 t181 t182 _ _ t183 t191 t192 _ _ t193 true _ ?side1 ?side2 ?side3 ?side4 A44.out).mono ?_); (case side1 => repeat (first | exact (Kd.R_reads' HO185.out).2.2 | (with_reducible refine Kd.C_alloc ?_ _) | (with_reducible refine Kd.C_drewN ?_ _) | (with_reducible refine Kd.C_drew ?_))); (case side2 => exact (Kd.R_reads' HO185.out).2.1); (case side3 => repeat (first | exact (Kd.R_reads' HO195.out).2.2 | (with_reducible refine Kd.C_alloc ?_ _) | (with_reducible refine Kd.C_drewN ?_ _) | (with_reducible refine Kd.C_drew ?_))); (case side4 => exact (Kd.R_reads' HO195.out).2.1); rintro e w57 ⟨rfl, hb⟩; have n0_ := Aside0.mk (Kd.R_below (by (with_reducible repeat (first | apply Kd.R_alloc | apply Kd.R_drewN | apply Kd.R_drew)); exact HO172.out) hb); have n1_ := Aside0.mk (Kd.R_below (by (with_reducible repeat (first | apply Kd.R_alloc | apply Kd.R_drewN | apply Kd.R_drew)); exact HO176.out) hb); have n2_ := Aside0.mk (Kd.R_below (by (with_reducible repeat (first | apply Kd.R_alloc | apply Kd.R_drewN | apply Kd.R_drew)); exact HO180.out) hb); have n3_ := Aside0.mk (Kd.R_below (by (with_reducible repeat (first | apply Kd.R_alloc | apply Kd.R_drewN | apply Kd.R_drew)); exact HO185.out) hb); have n4_ := Aside0.mk (Kd.R_below (by (with_reducible repeat (first | apply Kd.R_alloc | apply Kd.R_drewN | apply Kd.R_drew)); exact HO188.out) hb); have n5_ := Aside0.mk (Kd.R_below (by (with_reducible repeat (first | apply Kd.R_alloc | apply Kd.R_drewN | apply Kd.R_drew)); exact HO195.out) hb); have n6_ := Aside0.mk (Kd.R_below (by (with_reducible repeat (first | apply Kd.R_alloc | apply Kd.R_drewN | apply Kd.R_drew)); exact HO198.out) hb); have n7_ := Aside0.mk (blk_below (g := gb168) (o := .cells #[.int .i64 a3_0, .int .i64 a3_1, .slice A3_2 l3_2.length c3_2] 24 (0, 0)) (by (with_reducible repeat (first | refine blk_drewN ?_ _ | refine blk_drew ?_ | refine blk_alloc ?_ _)); exact BK168.out) hb); have n8_ := Aside0.mk (blk_below (g := gb190) (o := .cells #[.int .i64 t181, .int .i64 t182, .slice Ao29 t183.length co29] 24 (0, 0)) (by (with_reducible repeat (first | refine blk_drewN ?_ _ | refine blk_drew ?_ | refine blk_alloc ?_ _)); exact BK190.out) hb); have n9_ := Aside0.mk (blk_below (g := gb200) (o := .cells #[.int .i64 t191, .int .i64 t192, .slice Ao35 t193.length co35] 24 (0, 0)) (by (with_reducible repeat (first | refine blk_drewN ?_ _ | refine blk_drew ?_ | refine blk_alloc ?_ _)); exact BK200.out) hb); have n10_ := Aside0.mk (below_step (by repeat (first | (with_reducible first | exact HB.out | apply below_alloc | apply pw_below_drewN | apply below_drew1 | refine below_set ?_ GE168.out | refine below_set ?_ GE190.out | refine below_set ?_ GE200.out) | exact HB.out)) hb); clear HO172; clear HO176; clear HO180; clear HO185; clear HO188; clear HO195; clear HO198; clear BK168; clear BK190; clear BK200; clear HB; have HO172 := n0_; have HO176 := n1_; have HO180 := n2_; have HO185 := n3_; have HO188 := n4_; have HO195 := n5_; have HO198 := n6_; have BK168 := n7_; have BK190 := n8_; have BK200 := n9_; have HB := n10_; clear n0_ n1_ n2_ n3_ n4_ n5_ n6_ n7_ n8_ n9_ n10_; (try clear hb); (try clear hb2); (try clear hk); (try clear hi); obtain ⟨Ao58, co58, eo58⟩ := Kd.R_slice HO188.out; subst eo58; obtain ⟨Ao59, co59, eo59⟩ := Kd.R_slice HO198.out; subst eo59) | (go_at_call 34; (with_reducible refine (sextonref01_Texts.calls kj5 _ _ t186 _ _ t196 true _ ?side1 ?side2 ?side3 ?side4 A46.out).mono ?_); (case side1 => repeat (first | exact (Kd.R_reads' HO188.out).2.2 | (with_reducible refine Kd.C_alloc ?_ _) | (with_reducible refine Kd.C_drewN ?_ _) | (with_reducible refine Kd.C_drew ?_))); (case side2 => exact (Kd.R_reads' HO188.out).2.1); (case side3 => repeat (first | exact (Kd.R_reads' HO198.out).2.2 | (with_reducible refine Kd.C_alloc ?_ _) | (with_reducible refine Kd.C_drewN ?_ _) | (with_reducible refine Kd.C_drew ?_))); (case side4 => exact (Kd.R_reads' HO198.out).2.1); rintro e w' ⟨rfl, ⟨nd, rfl⟩⟩))
                      go_meet
                      case rel => exact ⟨_, ((t202 == t204)), (by first | rfl | (simp; done) | (simp [*]; done)), H', ⟨by have := HJ5.out; first | omega | exact Nat.le_refl _⟩, ⟨by (with_reducible repeat (first | apply Kd.R_alloc | apply Kd.R_drewN | apply Kd.R_drew)); exact Kd.R_mono HO172.out (fun _ hk => trivial)⟩, ⟨by (with_reducible repeat (first | apply Kd.R_alloc | apply Kd.R_drewN | apply Kd.R_drew)); exact Kd.R_mono HO185.out (fun _ hk => hk.2)⟩, ⟨by (with_reducible repeat (first | apply Kd.R_alloc | apply Kd.R_drewN | apply Kd.R_drew)); exact Kd.R_mono HO195.out (fun _ hk => hk.2)⟩, ⟨by (with_reducible repeat (first | refine blk_drewN ?_ _ | refine blk_drew ?_ | refine blk_alloc ?_ _)); exact BK168.out⟩, ⟨by (with_reducible repeat (first | refine blk_drewN ?_ _ | refine blk_drew ?_ | refine blk_alloc ?_ _)); exact BK190.out⟩, ⟨by (with_reducible repeat (first | refine blk_drewN ?_ _ | refine blk_drew ?_ | refine blk_alloc ?_ _)); exact BK200.out⟩, ⟨by repeat (first | (with_reducible first | exact HB.out | apply below_alloc | apply pw_below_drewN | apply below_drew1 | refine below_set ?_ GE168.out | refine below_set ?_ GE190.out | refine below_set ?_ GE200.out) | exact HB.out)⟩⟩
                    · rw [if_neg c49] at H
                      have c49b0 : (t201.toList == t203.toList) = false := beq_eq_false_iff_ne.mpr c49
                      have c49b1 : (t201.toList != t203.toList) = true := bne_iff_ne.mpr c49
                      have H' := Aside0.mk H
                      clear H
                      obtain ⟨Ao60, co60, eo60⟩ := Kd.R_slice HO176.out
                      subst eo60
                      obtain ⟨Ao61, co61, eo61⟩ := Kd.R_slice HO180.out
                      subst eo61
                      go_wp2_with (first | ((with_reducible refine gate_callee (f := 34) rfl ?_); refine goesL_ (some 84) rfl rfl Try.func34 (by kernel_rfl) rfl #[.slice Ao60 t173.length co60, .slice Ao61 t177.length co61] rfl (by (try simp only [List.map_toArray, List.map_cons, List.map_nil]); first | done | rfl | (simp only [List.length_drop, List.length_take]; rfl)) ?_; (with_reducible refine (sextonref01_Texts.calls kj5 _ _ t173 _ _ t177 true _ ?side1 ?side2 ?side3 ?side4 A41.out).mono ?_); (case side1 => repeat (first | exact (Kd.R_reads' HO176.out).2.2 | (with_reducible refine Kd.C_alloc ?_ _) | (with_reducible refine Kd.C_drewN ?_ _) | (with_reducible refine Kd.C_drew ?_))); (case side2 => exact (Kd.R_reads' HO176.out).2.1); (case side3 => repeat (first | exact (Kd.R_reads' HO180.out).2.2 | (with_reducible refine Kd.C_alloc ?_ _) | (with_reducible refine Kd.C_drewN ?_ _) | (with_reducible refine Kd.C_drew ?_))); (case side4 => exact (Kd.R_reads' HO180.out).2.1); rintro e w' ⟨rfl, ⟨nd, rfl⟩⟩; refine ⟨_, rfl, ?_⟩; have hnb62 := NB190_168.out; have hnc62 := NB168_190.out; have hnb63 := NB190_200.out; have hnc63 := NB200_190.out; have hcz64_0 : w40.cell? ⟨gb190, 0, none⟩ = some (.int .i64 t181) := (blk_cell BK190.out 0).trans rfl; have hcz64_1 : w40.cell? ⟨gb190, 1, none⟩ = some (.int .i64 t182) := (blk_cell BK190.out 1).trans rfl; have hcz64_2 : w40.cell? ⟨gb190, 2, none⟩ = some (.slice Ao29 t183.length co29) := (blk_cell BK190.out 2).trans rfl; have hfz64_0 := blk_frozen BK190.out 0; have hfz64_1 := blk_frozen BK190.out 1; have hfz64_2 := blk_frozen BK190.out 2; have hnb65 := NB200_168.out; have hnc65 := NB168_200.out; have hcz66_0 : w40.cell? ⟨gb200, 0, none⟩ = some (.int .i64 t191) := (blk_cell BK200.out 0).trans rfl; have hcz66_1 : w40.cell? ⟨gb200, 1, none⟩ = some (.int .i64 t192) := (blk_cell BK200.out 1).trans rfl; have hcz66_2 : w40.cell? ⟨gb200, 2, none⟩ = some (.slice Ao35 t193.length co35) := (blk_cell BK200.out 2).trans rfl; have hfz66_0 := blk_frozen BK200.out 0; have hfz66_1 := blk_frozen BK200.out 1; have hfz66_2 := blk_frozen BK200.out 2) | (go_at_call 25; (with_reducible refine (sextonref12_Same.calls kj5 t181 t182 _ _ t183 t191 t192 _ _ t193 true _ ?side1 ?side2 ?side3 ?side4 A44.out).mono ?_); (case side1 => repeat (first | exact (Kd.R_reads' HO185.out).2.2 | (with_reducible refine Kd.C_alloc ?_ _) | (with_reducible refine Kd.C_drewN ?_ _) | (with_reducible refine Kd.C_drew ?_))); (case side2 => exact (Kd.R_reads' HO185.out).2.1); (case side3 => repeat (first | exact (Kd.R_reads' HO195.out).2.2 | (with_reducible refine Kd.C_alloc ?_ _) | (with_reducible refine Kd.C_drewN ?_ _) | (with_reducible refine Kd.C_drew ?_))); (case side4 => exact (Kd.R_reads' HO195.out).2.1); rintro e w67 ⟨rfl, hb⟩; have n0_ := Aside0.mk (Kd.R_below (by (with_reducible repeat (first | apply Kd.R_alloc | apply Kd.R_drewN | apply Kd.R_drew)); exact HO172.out) hb); have n1_ := Aside0.mk (Kd.R_below (by (with_reducible repeat (first | apply Kd.R_alloc | apply Kd.R_drewN | apply Kd.R_drew)); exact HO176.out) hb); have n2_ := Aside0.mk (Kd.R_below (by (with_reducible repeat (first | apply Kd.R_alloc | apply Kd.R_drewN | apply Kd.R_drew)); exact HO180.out) hb); have n3_ := Aside0.mk (Kd.R_below (by (with_reducible repeat (first | apply Kd.R_alloc | apply Kd.R_drewN | apply Kd.R_drew)); exact HO185.out) hb); have n4_ := Aside0.mk (Kd.R_below (by (with_reducible repeat (first | apply Kd.R_alloc | apply Kd.R_drewN | apply Kd.R_drew)); exact HO188.out) hb); have n5_ := Aside0.mk (Kd.R_below (by (with_reducible repeat (first | apply Kd.R_alloc | apply Kd.R_drewN | apply Kd.R_drew)); exact HO195.out) hb); have n6_ := Aside0.mk (Kd.R_below (by (with_reducible repeat (first | apply Kd.R_alloc | apply Kd.R_drewN | apply Kd.R_drew)); exact HO198.out) hb); have n7_ := Aside0.mk (blk_below (g := gb168) (o := .cells #[.int .i64 a3_0, .int .i64 a3_1, .slice A3_2 l3_2.length c3_2] 24 (0, 0)) (by (with_reducible repeat (first | refine blk_drewN ?_ _ | refine blk_drew ?_ | refine blk_alloc ?_ _)); exact BK168.out) hb); have n8_ := Aside0.mk (blk_below (g := gb190) (o := .cells #[.int .i64 t181, .int .i64 t182, .slice Ao29 t183.length co29] 24 (0, 0)) (by (with_reducible repeat (first | refine blk_drewN ?_ _ | refine blk_drew ?_ | refine blk_alloc ?_ _)); exact BK190.out) hb); have n9_ := Aside0.mk (blk_below (g := gb200) (o := .cells #[.int .i64 t191, .int .i64 t192, .slice Ao35 t193.length co35] 24 (0, 0)) (by (with_reducible repeat (first | refine blk_drewN ?_ _ | refine blk_drew ?_ | refine blk_alloc ?_ _)); exact BK200.out) hb); have n10_ := Aside0.mk (below_step (by repeat (first | (with_reducible first | exact HB.out | apply below_alloc | apply pw_below_drewN | apply below_drew1 | refine below_set ?_ GE168.out | refine below_set ?_ GE190.out | refine below_set ?_ GE200.out) | exact HB.out)) hb); clear HO172; clear HO176; clear HO180; clear HO185; clear HO188; clear HO195; clear HO198; clear BK168; clear BK190; clear BK200; clear HB; have HO172 := n0_; have HO176 := n1_; have HO180 := n2_; have HO185 := n3_; have HO188 := n4_; have HO195 := n5_; have HO198 := n6_; have BK168 := n7_; have BK190 := n8_; have BK200 := n9_; have HB := n10_; clear n0_ n1_ n2_ n3_ n4_ n5_ n6_ n7_ n8_ n9_ n10_; (try clear hb); (try clear hb2); (try clear hk); (try clear hi); obtain ⟨Ao68, co68, eo68⟩ := Kd.R_slice HO188.out; subst eo68; obtain ⟨Ao69, co69, eo69⟩ := Kd.R_slice HO198.out; subst eo69) | (go_at_call 34; (with_reducible refine (sextonref01_Texts.calls kj5 _ _ t186 _ _ t196 true _ ?side1 ?side2 ?side3 ?side4 A46.out).mono ?_); (case side1 => repeat (first | exact (Kd.R_reads' HO188.out).2.2 | (with_reducible refine Kd.C_alloc ?_ _) | (with_reducible refine Kd.C_drewN ?_ _) | (with_reducible refine Kd.C_drew ?_))); (case side2 => exact (Kd.R_reads' HO188.out).2.1); (case side3 => repeat (first | exact (Kd.R_reads' HO198.out).2.2 | (with_reducible refine Kd.C_alloc ?_ _) | (with_reducible refine Kd.C_drewN ?_ _) | (with_reducible refine Kd.C_drew ?_))); (case side4 => exact (Kd.R_reads' HO198.out).2.1); rintro e w' ⟨rfl, ⟨nd, rfl⟩⟩))
                      go_meet
                      case rel => exact ⟨_, (false), (by first | rfl | (simp; done) | (simp [*]; done)), H', ⟨by have := HJ5.out; first | omega | exact Nat.le_refl _⟩, ⟨by (with_reducible repeat (first | apply Kd.R_alloc | apply Kd.R_drewN | apply Kd.R_drew)); exact Kd.R_mono HO172.out (fun _ hk => trivial)⟩, ⟨by (with_reducible repeat (first | apply Kd.R_alloc | apply Kd.R_drewN | apply Kd.R_drew)); exact Kd.R_mono HO185.out (fun _ hk => hk.2)⟩, ⟨by (with_reducible repeat (first | apply Kd.R_alloc | apply Kd.R_drewN | apply Kd.R_drew)); exact Kd.R_mono HO195.out (fun _ hk => hk.2)⟩, ⟨by (with_reducible repeat (first | refine blk_drewN ?_ _ | refine blk_drew ?_ | refine blk_alloc ?_ _)); exact BK168.out⟩, ⟨by (with_reducible repeat (first | refine blk_drewN ?_ _ | refine blk_drew ?_ | refine blk_alloc ?_ _)); exact BK190.out⟩, ⟨by (with_reducible repeat (first | refine blk_drewN ?_ _ | refine blk_drew ?_ | refine blk_alloc ?_ _)); exact BK200.out⟩, ⟨by repeat (first | (with_reducible first | exact HB.out | apply below_alloc | apply pw_below_drewN | apply below_drew1 | refine below_set ?_ GE168.out | refine below_set ?_ GE190.out | refine below_set ?_ GE200.out) | exact HB.out)⟩⟩
                  · rw [if_neg c48] at H
                    have c48b0 : (t189 == t199) = false := beq_eq_false_iff_ne.mpr c48
                    have c48b1 : (t189 != t199) = true := bne_iff_ne.mpr c48
                    have H' := Aside0.mk H
                    clear H
                    obtain ⟨Ao70, co70, eo70⟩ := Kd.R_slice HO176.out
                    subst eo70
                    obtain ⟨Ao71, co71, eo71⟩ := Kd.R_slice HO180.out
                    subst eo71
                    go_wp2_with (first | ((with_reducible refine gate_callee (f := 34) rfl ?_); refine goesL_ (some 84) rfl rfl Try.func34 (by kernel_rfl) rfl #[.slice Ao70 t173.length co70, .slice Ao71 t177.length co71] rfl (by (try simp only [List.map_toArray, List.map_cons, List.map_nil]); first | done | rfl | (simp only [List.length_drop, List.length_take]; rfl)) ?_; (with_reducible refine (sextonref01_Texts.calls kj5 _ _ t173 _ _ t177 true _ ?side1 ?side2 ?side3 ?side4 A41.out).mono ?_); (case side1 => repeat (first | exact (Kd.R_reads' HO176.out).2.2 | (with_reducible refine Kd.C_alloc ?_ _) | (with_reducible refine Kd.C_drewN ?_ _) | (with_reducible refine Kd.C_drew ?_))); (case side2 => exact (Kd.R_reads' HO176.out).2.1); (case side3 => repeat (first | exact (Kd.R_reads' HO180.out).2.2 | (with_reducible refine Kd.C_alloc ?_ _) | (with_reducible refine Kd.C_drewN ?_ _) | (with_reducible refine Kd.C_drew ?_))); (case side4 => exact (Kd.R_reads' HO180.out).2.1); rintro e w' ⟨rfl, ⟨nd, rfl⟩⟩; refine ⟨_, rfl, ?_⟩; have hnb72 := NB190_168.out; have hnc72 := NB168_190.out; have hnb73 := NB190_200.out; have hnc73 := NB200_190.out; have hcz74_0 : w40.cell? ⟨gb190, 0, none⟩ = some (.int .i64 t181) := (blk_cell BK190.out 0).trans rfl; have hcz74_1 : w40.cell? ⟨gb190, 1, none⟩ = some (.int .i64 t182) := (blk_cell BK190.out 1).trans rfl; have hcz74_2 : w40.cell? ⟨gb190, 2, none⟩ = some (.slice Ao29 t183.length co29) := (blk_cell BK190.out 2).trans rfl; have hfz74_0 := blk_frozen BK190.out 0; have hfz74_1 := blk_frozen BK190.out 1; have hfz74_2 := blk_frozen BK190.out 2; have hnb75 := NB200_168.out; have hnc75 := NB168_200.out; have hcz76_0 : w40.cell? ⟨gb200, 0, none⟩ = some (.int .i64 t191) := (blk_cell BK200.out 0).trans rfl; have hcz76_1 : w40.cell? ⟨gb200, 1, none⟩ = some (.int .i64 t192) := (blk_cell BK200.out 1).trans rfl; have hcz76_2 : w40.cell? ⟨gb200, 2, none⟩ = some (.slice Ao35 t193.length co35) := (blk_cell BK200.out 2).trans rfl; have hfz76_0 := blk_frozen BK200.out 0; have hfz76_1 := blk_frozen BK200.out 1; have hfz76_2 := blk_frozen BK200.out 2) | (go_at_call 25; (with_reducible refine (sextonref12_Same.calls kj5 t181 t182 _ _ t183 t191 t192 _ _ t193 true _ ?side1 ?side2 ?side3 ?side4 A44.out).mono ?_); (case side1 => repeat (first | exact (Kd.R_reads' HO185.out).2.2 | (with_reducible refine Kd.C_alloc ?_ _) | (with_reducible refine Kd.C_drewN ?_ _) | (with_reducible refine Kd.C_drew ?_))); (case side2 => exact (Kd.R_reads' HO185.out).2.1); (case side3 => repeat (first | exact (Kd.R_reads' HO195.out).2.2 | (with_reducible refine Kd.C_alloc ?_ _) | (with_reducible refine Kd.C_drewN ?_ _) | (with_reducible refine Kd.C_drew ?_))); (case side4 => exact (Kd.R_reads' HO195.out).2.1); rintro e w77 ⟨rfl, hb⟩; have n0_ := Aside0.mk (Kd.R_below (by (with_reducible repeat (first | apply Kd.R_alloc | apply Kd.R_drewN | apply Kd.R_drew)); exact HO172.out) hb); have n1_ := Aside0.mk (Kd.R_below (by (with_reducible repeat (first | apply Kd.R_alloc | apply Kd.R_drewN | apply Kd.R_drew)); exact HO176.out) hb); have n2_ := Aside0.mk (Kd.R_below (by (with_reducible repeat (first | apply Kd.R_alloc | apply Kd.R_drewN | apply Kd.R_drew)); exact HO180.out) hb); have n3_ := Aside0.mk (Kd.R_below (by (with_reducible repeat (first | apply Kd.R_alloc | apply Kd.R_drewN | apply Kd.R_drew)); exact HO185.out) hb); have n4_ := Aside0.mk (Kd.R_below (by (with_reducible repeat (first | apply Kd.R_alloc | apply Kd.R_drewN | apply Kd.R_drew)); exact HO188.out) hb); have n5_ := Aside0.mk (Kd.R_below (by (with_reducible repeat (first | apply Kd.R_alloc | apply Kd.R_drewN | apply Kd.R_drew)); exact HO195.out) hb); have n6_ := Aside0.mk (Kd.R_below (by (with_reducible repeat (first | apply Kd.R_alloc | apply Kd.R_drewN | apply Kd.R_drew)); exact HO198.out) hb); have n7_ := Aside0.mk (blk_below (g := gb168) (o := .cells #[.int .i64 a3_0, .int .i64 a3_1, .slice A3_2 l3_2.length c3_2] 24 (0, 0)) (by (with_reducible repeat (first | refine blk_drewN ?_ _ | refine blk_drew ?_ | refine blk_alloc ?_ _)); exact BK168.out) hb); have n8_ := Aside0.mk (blk_below (g := gb190) (o := .cells #[.int .i64 t181, .int .i64 t182, .slice Ao29 t183.length co29] 24 (0, 0)) (by (with_reducible repeat (first | refine blk_drewN ?_ _ | refine blk_drew ?_ | refine blk_alloc ?_ _)); exact BK190.out) hb); have n9_ := Aside0.mk (blk_below (g := gb200) (o := .cells #[.int .i64 t191, .int .i64 t192, .slice Ao35 t193.length co35] 24 (0, 0)) (by (with_reducible repeat (first | refine blk_drewN ?_ _ | refine blk_drew ?_ | refine blk_alloc ?_ _)); exact BK200.out) hb); have n10_ := Aside0.mk (below_step (by repeat (first | (with_reducible first | exact HB.out | apply below_alloc | apply pw_below_drewN | apply below_drew1 | refine below_set ?_ GE168.out | refine below_set ?_ GE190.out | refine below_set ?_ GE200.out) | exact HB.out)) hb); clear HO172; clear HO176; clear HO180; clear HO185; clear HO188; clear HO195; clear HO198; clear BK168; clear BK190; clear BK200; clear HB; have HO172 := n0_; have HO176 := n1_; have HO180 := n2_; have HO185 := n3_; have HO188 := n4_; have HO195 := n5_; have HO198 := n6_; have BK168 := n7_; have BK190 := n8_; have BK200 := n9_; have HB := n10_; clear n0_ n1_ n2_ n3_ n4_ n5_ n6_ n7_ n8_ n9_ n10_; (try clear hb); (try clear hb2); (try clear hk); (try clear hi); obtain ⟨Ao78, co78, eo78⟩ := Kd.R_slice HO188.out; subst eo78; obtain ⟨Ao79, co79, eo79⟩ := Kd.R_slice HO198.out; subst eo79) | (go_at_call 34; (with_reducible refine (sextonref01_Texts.calls kj5 _ _ t186 _ _ t196 true _ ?side1 ?side2 ?side3 ?side4 A46.out).mono ?_); (case side1 => repeat (first | exact (Kd.R_reads' HO188.out).2.2 | (with_reducible refine Kd.C_alloc ?_ _) | (with_reducible refine Kd.C_drewN ?_ _) | (with_reducible refine Kd.C_drew ?_))); (case side2 => exact (Kd.R_reads' HO188.out).2.1); (case side3 => repeat (first | exact (Kd.R_reads' HO198.out).2.2 | (with_reducible refine Kd.C_alloc ?_ _) | (with_reducible refine Kd.C_drewN ?_ _) | (with_reducible refine Kd.C_drew ?_))); (case side4 => exact (Kd.R_reads' HO198.out).2.1); rintro e w' ⟨rfl, ⟨nd, rfl⟩⟩))
                    go_meet
                    case rel => exact ⟨_, (false), (by first | rfl | (simp; done) | (simp [*]; done)), H', ⟨by have := HJ5.out; first | omega | exact Nat.le_refl _⟩, ⟨by (with_reducible repeat (first | apply Kd.R_alloc | apply Kd.R_drewN | apply Kd.R_drew)); exact Kd.R_mono HO172.out (fun _ hk => trivial)⟩, ⟨by (with_reducible repeat (first | apply Kd.R_alloc | apply Kd.R_drewN | apply Kd.R_drew)); exact Kd.R_mono HO185.out (fun _ hk => hk.2)⟩, ⟨by (with_reducible repeat (first | apply Kd.R_alloc | apply Kd.R_drewN | apply Kd.R_drew)); exact Kd.R_mono HO195.out (fun _ hk => hk.2)⟩, ⟨by (with_reducible repeat (first | refine blk_drewN ?_ _ | refine blk_drew ?_ | refine blk_alloc ?_ _)); exact BK168.out⟩, ⟨by (with_reducible repeat (first | refine blk_drewN ?_ _ | refine blk_drew ?_ | refine blk_alloc ?_ _)); exact BK190.out⟩, ⟨by (with_reducible repeat (first | refine blk_drewN ?_ _ | refine blk_drew ?_ | refine blk_alloc ?_ _)); exact BK200.out⟩, ⟨by repeat (first | (with_reducible first | exact HB.out | apply below_alloc | apply pw_below_drewN | apply below_drew1 | refine below_set ?_ GE168.out | refine below_set ?_ GE190.out | refine below_set ?_ GE200.out) | exact HB.out)⟩⟩
                · replace c47 := Bool.eq_false_iff.mpr c47
                  subst c47
                  have H1 : (sextonlaw13_ChainDoes.j1 kj5 l4 t170 false a3_0 a3_1 l3_2) = some r := by rw [if_neg (show ¬ (false = true) by decide)] at H; exact H
                  clear H
                  have H := H1
                  clear H1
                  have H' := Aside0.mk H
                  clear H
                  obtain ⟨Ao80, co80, eo80⟩ := Kd.R_slice HO176.out
                  subst eo80
                  obtain ⟨Ao81, co81, eo81⟩ := Kd.R_slice HO180.out
                  subst eo81
                  go_wp2_with (first | ((with_reducible refine gate_callee (f := 34) rfl ?_); refine goesL_ (some 84) rfl rfl Try.func34 (by kernel_rfl) rfl #[.slice Ao80 t173.length co80, .slice Ao81 t177.length co81] rfl (by (try simp only [List.map_toArray, List.map_cons, List.map_nil]); first | done | rfl | (simp only [List.length_drop, List.length_take]; rfl)) ?_; (with_reducible refine (sextonref01_Texts.calls kj5 _ _ t173 _ _ t177 true _ ?side1 ?side2 ?side3 ?side4 A41.out).mono ?_); (case side1 => repeat (first | exact (Kd.R_reads' HO176.out).2.2 | (with_reducible refine Kd.C_alloc ?_ _) | (with_reducible refine Kd.C_drewN ?_ _) | (with_reducible refine Kd.C_drew ?_))); (case side2 => exact (Kd.R_reads' HO176.out).2.1); (case side3 => repeat (first | exact (Kd.R_reads' HO180.out).2.2 | (with_reducible refine Kd.C_alloc ?_ _) | (with_reducible refine Kd.C_drewN ?_ _) | (with_reducible refine Kd.C_drew ?_))); (case side4 => exact (Kd.R_reads' HO180.out).2.1); rintro e w' ⟨rfl, ⟨nd, rfl⟩⟩; refine ⟨_, rfl, ?_⟩; have hnb82 := NB190_168.out; have hnc82 := NB168_190.out; have hnb83 := NB190_200.out; have hnc83 := NB200_190.out; have hcz84_0 : w40.cell? ⟨gb190, 0, none⟩ = some (.int .i64 t181) := (blk_cell BK190.out 0).trans rfl; have hcz84_1 : w40.cell? ⟨gb190, 1, none⟩ = some (.int .i64 t182) := (blk_cell BK190.out 1).trans rfl; have hcz84_2 : w40.cell? ⟨gb190, 2, none⟩ = some (.slice Ao29 t183.length co29) := (blk_cell BK190.out 2).trans rfl; have hfz84_0 := blk_frozen BK190.out 0; have hfz84_1 := blk_frozen BK190.out 1; have hfz84_2 := blk_frozen BK190.out 2; have hnb85 := NB200_168.out; have hnc85 := NB168_200.out; have hcz86_0 : w40.cell? ⟨gb200, 0, none⟩ = some (.int .i64 t191) := (blk_cell BK200.out 0).trans rfl; have hcz86_1 : w40.cell? ⟨gb200, 1, none⟩ = some (.int .i64 t192) := (blk_cell BK200.out 1).trans rfl; have hcz86_2 : w40.cell? ⟨gb200, 2, none⟩ = some (.slice Ao35 t193.length co35) := (blk_cell BK200.out 2).trans rfl; have hfz86_0 := blk_frozen BK200.out 0; have hfz86_1 := blk_frozen BK200.out 1; have hfz86_2 := blk_frozen BK200.out 2) | (go_at_call 25; (with_reducible refine (sextonref12_Same.calls kj5 t181 t182 _ _ t183 t191 t192 _ _ t193 true _ ?side1 ?side2 ?side3 ?side4 A44.out).mono ?_); (case side1 => repeat (first | exact (Kd.R_reads' HO185.out).2.2 | (with_reducible refine Kd.C_alloc ?_ _) | (with_reducible refine Kd.C_drewN ?_ _) | (with_reducible refine Kd.C_drew ?_))); (case side2 => exact (Kd.R_reads' HO185.out).2.1); (case side3 => repeat (first | exact (Kd.R_reads' HO195.out).2.2 | (with_reducible refine Kd.C_alloc ?_ _) | (with_reducible refine Kd.C_drewN ?_ _) | (with_reducible refine Kd.C_drew ?_))); (case side4 => exact (Kd.R_reads' HO195.out).2.1); rintro e w87 ⟨rfl, hb⟩; have n0_ := Aside0.mk (Kd.R_below (by (with_reducible repeat (first | apply Kd.R_alloc | apply Kd.R_drewN | apply Kd.R_drew)); exact HO172.out) hb); have n1_ := Aside0.mk (Kd.R_below (by (with_reducible repeat (first | apply Kd.R_alloc | apply Kd.R_drewN | apply Kd.R_drew)); exact HO176.out) hb); have n2_ := Aside0.mk (Kd.R_below (by (with_reducible repeat (first | apply Kd.R_alloc | apply Kd.R_drewN | apply Kd.R_drew)); exact HO180.out) hb); have n3_ := Aside0.mk (Kd.R_below (by (with_reducible repeat (first | apply Kd.R_alloc | apply Kd.R_drewN | apply Kd.R_drew)); exact HO185.out) hb); have n4_ := Aside0.mk (Kd.R_below (by (with_reducible repeat (first | apply Kd.R_alloc | apply Kd.R_drewN | apply Kd.R_drew)); exact HO188.out) hb); have n5_ := Aside0.mk (Kd.R_below (by (with_reducible repeat (first | apply Kd.R_alloc | apply Kd.R_drewN | apply Kd.R_drew)); exact HO195.out) hb); have n6_ := Aside0.mk (Kd.R_below (by (with_reducible repeat (first | apply Kd.R_alloc | apply Kd.R_drewN | apply Kd.R_drew)); exact HO198.out) hb); have n7_ := Aside0.mk (blk_below (g := gb168) (o := .cells #[.int .i64 a3_0, .int .i64 a3_1, .slice A3_2 l3_2.length c3_2] 24 (0, 0)) (by (with_reducible repeat (first | refine blk_drewN ?_ _ | refine blk_drew ?_ | refine blk_alloc ?_ _)); exact BK168.out) hb); have n8_ := Aside0.mk (blk_below (g := gb190) (o := .cells #[.int .i64 t181, .int .i64 t182, .slice Ao29 t183.length co29] 24 (0, 0)) (by (with_reducible repeat (first | refine blk_drewN ?_ _ | refine blk_drew ?_ | refine blk_alloc ?_ _)); exact BK190.out) hb); have n9_ := Aside0.mk (blk_below (g := gb200) (o := .cells #[.int .i64 t191, .int .i64 t192, .slice Ao35 t193.length co35] 24 (0, 0)) (by (with_reducible repeat (first | refine blk_drewN ?_ _ | refine blk_drew ?_ | refine blk_alloc ?_ _)); exact BK200.out) hb); have n10_ := Aside0.mk (below_step (by repeat (first | (with_reducible first | exact HB.out | apply below_alloc | apply pw_below_drewN | apply below_drew1 | refine below_set ?_ GE168.out | refine below_set ?_ GE190.out | refine below_set ?_ GE200.out) | exact HB.out)) hb); clear HO172; clear HO176; clear HO180; clear HO185; clear HO188; clear HO195; clear HO198; clear BK168; clear BK190; clear BK200; clear HB; have HO172 := n0_; have HO176 := n1_; have HO180 := n2_; have HO185 := n3_; have HO188 := n4_; have HO195 := n5_; have HO198 := n6_; have BK168 := n7_; have BK190 := n8_; have BK200 := n9_; have HB := n10_; clear n0_ n1_ n2_ n3_ n4_ n5_ n6_ n7_ n8_ n9_ n10_; (try clear hb); (try clear hb2); (try clear hk); (try clear hi); obtain ⟨Ao88, co88, eo88⟩ := Kd.R_slice HO188.out; subst eo88; obtain ⟨Ao89, co89, eo89⟩ := Kd.R_slice HO198.out; subst eo89) | (go_at_call 34; (with_reducible refine (sextonref01_Texts.calls kj5 _ _ t186 _ _ t196 false _ ?side1 ?side2 ?side3 ?side4 A46.out).mono ?_); (case side1 => repeat (first | exact (Kd.R_reads' HO188.out).2.2 | (with_reducible refine Kd.C_alloc ?_ _) | (with_reducible refine Kd.C_drewN ?_ _) | (with_reducible refine Kd.C_drew ?_))); (case side2 => exact (Kd.R_reads' HO188.out).2.1); (case side3 => repeat (first | exact (Kd.R_reads' HO198.out).2.2 | (with_reducible refine Kd.C_alloc ?_ _) | (with_reducible refine Kd.C_drewN ?_ _) | (with_reducible refine Kd.C_drew ?_))); (case side4 => exact (Kd.R_reads' HO198.out).2.1); rintro e w' ⟨rfl, ⟨nd, rfl⟩⟩))
                  go_meet
                  case rel => exact ⟨_, (false), (by first | rfl | (simp; done) | (simp [*]; done)), H', ⟨by have := HJ5.out; first | omega | exact Nat.le_refl _⟩, ⟨by (with_reducible repeat (first | apply Kd.R_alloc | apply Kd.R_drewN | apply Kd.R_drew)); exact Kd.R_mono HO172.out (fun _ hk => trivial)⟩, ⟨by (with_reducible repeat (first | apply Kd.R_alloc | apply Kd.R_drewN | apply Kd.R_drew)); exact Kd.R_mono HO185.out (fun _ hk => hk.2)⟩, ⟨by (with_reducible repeat (first | apply Kd.R_alloc | apply Kd.R_drewN | apply Kd.R_drew)); exact Kd.R_mono HO195.out (fun _ hk => hk.2)⟩, ⟨by (with_reducible repeat (first | refine blk_drewN ?_ _ | refine blk_drew ?_ | refine blk_alloc ?_ _)); exact BK168.out⟩, ⟨by (with_reducible repeat (first | refine blk_drewN ?_ _ | refine blk_drew ?_ | refine blk_alloc ?_ _)); exact BK190.out⟩, ⟨by (with_reducible repeat (first | refine blk_drewN ?_ _ | refine blk_drew ?_ | refine blk_alloc ?_ _)); exact BK200.out⟩, ⟨by repeat (first | (with_reducible first | exact HB.out | apply below_alloc | apply pw_below_drewN | apply below_drew1 | refine below_set ?_ GE168.out | refine below_set ?_ GE190.out | refine below_set ?_ GE200.out) | exact HB.out)⟩⟩
              · replace c45 := Bool.eq_false_iff.mpr c45
                subst c45
                have H1 : (sextonlaw13_ChainDoes.j1 kj5 l4 t170 false a3_0 a3_1 l3_2) = some r := by rw [if_neg (show ¬ (false = true) by decide)] at H; exact H
                clear H
                have H := H1
                clear H1
                have H' := Aside0.mk H
                clear H
                obtain ⟨Ao90, co90, eo90⟩ := Kd.R_slice HO176.out
                subst eo90
                obtain ⟨Ao91, co91, eo91⟩ := Kd.R_slice HO180.out
                subst eo91
                go_wp2_with (first | ((with_reducible refine gate_callee (f := 34) rfl ?_); refine goesL_ (some 84) rfl rfl Try.func34 (by kernel_rfl) rfl #[.slice Ao90 t173.length co90, .slice Ao91 t177.length co91] rfl (by (try simp only [List.map_toArray, List.map_cons, List.map_nil]); first | done | rfl | (simp only [List.length_drop, List.length_take]; rfl)) ?_; (with_reducible refine (sextonref01_Texts.calls kj5 _ _ t173 _ _ t177 true _ ?side1 ?side2 ?side3 ?side4 A41.out).mono ?_); (case side1 => repeat (first | exact (Kd.R_reads' HO176.out).2.2 | (with_reducible refine Kd.C_alloc ?_ _) | (with_reducible refine Kd.C_drewN ?_ _) | (with_reducible refine Kd.C_drew ?_))); (case side2 => exact (Kd.R_reads' HO176.out).2.1); (case side3 => repeat (first | exact (Kd.R_reads' HO180.out).2.2 | (with_reducible refine Kd.C_alloc ?_ _) | (with_reducible refine Kd.C_drewN ?_ _) | (with_reducible refine Kd.C_drew ?_))); (case side4 => exact (Kd.R_reads' HO180.out).2.1); rintro e w' ⟨rfl, ⟨nd, rfl⟩⟩; refine ⟨_, rfl, ?_⟩; have hnb92 := NB190_168.out; have hnc92 := NB168_190.out; have hnb93 := NB190_200.out; have hnc93 := NB200_190.out; have hcz94_0 : w40.cell? ⟨gb190, 0, none⟩ = some (.int .i64 t181) := (blk_cell BK190.out 0).trans rfl; have hcz94_1 : w40.cell? ⟨gb190, 1, none⟩ = some (.int .i64 t182) := (blk_cell BK190.out 1).trans rfl; have hcz94_2 : w40.cell? ⟨gb190, 2, none⟩ = some (.slice Ao29 t183.length co29) := (blk_cell BK190.out 2).trans rfl; have hfz94_0 := blk_frozen BK190.out 0; have hfz94_1 := blk_frozen BK190.out 1; have hfz94_2 := blk_frozen BK190.out 2; have hnb95 := NB200_168.out; have hnc95 := NB168_200.out; have hcz96_0 : w40.cell? ⟨gb200, 0, none⟩ = some (.int .i64 t191) := (blk_cell BK200.out 0).trans rfl; have hcz96_1 : w40.cell? ⟨gb200, 1, none⟩ = some (.int .i64 t192) := (blk_cell BK200.out 1).trans rfl; have hcz96_2 : w40.cell? ⟨gb200, 2, none⟩ = some (.slice Ao35 t193.length co35) := (blk_cell BK200.out 2).trans rfl; have hfz96_0 := blk_frozen BK200.out 0; have hfz96_1 := blk_frozen BK200.out 1; have hfz96_2 := blk_frozen BK200.out 2) | (go_at_call 25; (with_reducible refine (sextonref12_Same.calls kj5 t181 t182 _ _ t183 t191 t192 _ _ t193 false _ ?side1 ?side2 ?side3 ?side4 A44.out).mono ?_); (case side1 => repeat (first | exact (Kd.R_reads' HO185.out).2.2 | (with_reducible refine Kd.C_alloc ?_ _) | (with_reducible refine Kd.C_drewN ?_ _) | (with_reducible refine Kd.C_drew ?_))); (case side2 => exact (Kd.R_reads' HO185.out).2.1); (case side3 => repeat (first | exact (Kd.R_reads' HO195.out).2.2 | (with_reducible refine Kd.C_alloc ?_ _) | (with_reducible refine Kd.C_drewN ?_ _) | (with_reducible refine Kd.C_drew ?_))); (case side4 => exact (Kd.R_reads' HO195.out).2.1); rintro e w97 ⟨rfl, hb⟩; have n0_ := Aside0.mk (Kd.R_below (by (with_reducible repeat (first | apply Kd.R_alloc | apply Kd.R_drewN | apply Kd.R_drew)); exact HO172.out) hb); have n1_ := Aside0.mk (Kd.R_below (by (with_reducible repeat (first | apply Kd.R_alloc | apply Kd.R_drewN | apply Kd.R_drew)); exact HO176.out) hb); have n2_ := Aside0.mk (Kd.R_below (by (with_reducible repeat (first | apply Kd.R_alloc | apply Kd.R_drewN | apply Kd.R_drew)); exact HO180.out) hb); have n3_ := Aside0.mk (Kd.R_below (by (with_reducible repeat (first | apply Kd.R_alloc | apply Kd.R_drewN | apply Kd.R_drew)); exact HO185.out) hb); have n4_ := Aside0.mk (Kd.R_below (by (with_reducible repeat (first | apply Kd.R_alloc | apply Kd.R_drewN | apply Kd.R_drew)); exact HO188.out) hb); have n5_ := Aside0.mk (Kd.R_below (by (with_reducible repeat (first | apply Kd.R_alloc | apply Kd.R_drewN | apply Kd.R_drew)); exact HO195.out) hb); have n6_ := Aside0.mk (Kd.R_below (by (with_reducible repeat (first | apply Kd.R_alloc | apply Kd.R_drewN | apply Kd.R_drew)); exact HO198.out) hb); have n7_ := Aside0.mk (blk_below (g := gb168) (o := .cells #[.int .i64 a3_0, .int .i64 a3_1, .slice A3_2 l3_2.length c3_2] 24 (0, 0)) (by (with_reducible repeat (first | refine blk_drewN ?_ _ | refine blk_drew ?_ | refine blk_alloc ?_ _)); exact BK168.out) hb); have n8_ := Aside0.mk (blk_below (g := gb190) (o := .cells #[.int .i64 t181, .int .i64 t182, .slice Ao29 t183.length co29] 24 (0, 0)) (by (with_reducible repeat (first | refine blk_drewN ?_ _ | refine blk_drew ?_ | refine blk_alloc ?_ _)); exact BK190.out) hb); have n9_ := Aside0.mk (blk_below (g := gb200) (o := .cells #[.int .i64 t191, .int .i64 t192, .slice Ao35 t193.length co35] 24 (0, 0)) (by (with_reducible repeat (first | refine blk_drewN ?_ _ | refine blk_drew ?_ | refine blk_alloc ?_ _)); exact BK200.out) hb); have n10_ := Aside0.mk (below_step (by repeat (first | (with_reducible first | exact HB.out | apply below_alloc | apply pw_below_drewN | apply below_drew1 | refine below_set ?_ GE168.out | refine below_set ?_ GE190.out | refine below_set ?_ GE200.out) | exact HB.out)) hb); clear HO172; clear HO176; clear HO180; clear HO185; clear HO188; clear HO195; clear HO198; clear BK168; clear BK190; clear BK200; clear HB; have HO172 := n0_; have HO176 := n1_; have HO180 := n2_; have HO185 := n3_; have HO188 := n4_; have HO195 := n5_; have HO198 := n6_; have BK168 := n7_; have BK190 := n8_; have BK200 := n9_; have HB := n10_; clear n0_ n1_ n2_ n3_ n4_ n5_ n6_ n7_ n8_ n9_ n10_; (try clear hb); (try clear hb2); (try clear hk); (try clear hi)))
                go_meet
                case rel => exact ⟨_, (false), (by first | rfl | (simp; done) | (simp [*]; done)), H', ⟨by have := HJ5.out; first | omega | exact Nat.le_refl _⟩, ⟨by (with_reducible repeat (first | apply Kd.R_alloc | apply Kd.R_drewN | apply Kd.R_drew)); exact Kd.R_mono HO172.out (fun _ hk => trivial)⟩, ⟨by (with_reducible repeat (first | apply Kd.R_alloc | apply Kd.R_drewN | apply Kd.R_drew)); exact Kd.R_mono HO185.out (fun _ hk => hk.2)⟩, ⟨by (with_reducible repeat (first | apply Kd.R_alloc | apply Kd.R_drewN | apply Kd.R_drew)); exact Kd.R_mono HO195.out (fun _ hk => hk.2)⟩, ⟨by (with_reducible repeat (first | refine blk_drewN ?_ _ | refine blk_drew ?_ | refine blk_alloc ?_ _)); exact BK168.out⟩, ⟨by (with_reducible repeat (first | refine blk_drewN ?_ _ | refine blk_drew ?_ | refine blk_alloc ?_ _)); exact BK190.out⟩, ⟨by (with_reducible repeat (first | refine blk_drewN ?_ _ | refine blk_drew ?_ | refine blk_alloc ?_ _)); exact BK200.out⟩, ⟨by repeat (first | (with_reducible first | exact HB.out | apply below_alloc | apply pw_below_drewN | apply below_drew1 | refine below_set ?_ GE168.out | refine below_set ?_ GE190.out | refine below_set ?_ GE200.out) | exact HB.out)⟩⟩
            · rw [if_neg c43] at H
              have c43b0 : (t174 == t178) = false := beq_eq_false_iff_ne.mpr c43
              have c43b1 : (t174 != t178) = true := bne_iff_ne.mpr c43
              (first | rw [c43b0] | (simp only [i64_w, i32_w]; rw [c43b0]) | skip)
              have H' := Aside0.mk H
              clear H
              obtain ⟨Ao98, co98, eo98⟩ := Kd.R_slice HO176.out
              subst eo98
              obtain ⟨Ao99, co99, eo99⟩ := Kd.R_slice HO180.out
              subst eo99
              go_wp2_with (first | ((with_reducible refine gate_callee (f := 34) rfl ?_); refine goesL_ (some 84) rfl rfl Try.func34 (by kernel_rfl) rfl #[.slice Ao98 t173.length co98, .slice Ao99 t177.length co99] rfl (by (try simp only [List.map_toArray, List.map_cons, List.map_nil]); first | done | rfl | (simp only [List.length_drop, List.length_take]; rfl)) ?_; (with_reducible refine (sextonref01_Texts.calls kj5 _ _ t173 _ _ t177 true _ ?side1 ?side2 ?side3 ?side4 A41.out).mono ?_); (case side1 => repeat (first | exact (Kd.R_reads' HO176.out).2.2 | (with_reducible refine Kd.C_alloc ?_ _) | (with_reducible refine Kd.C_drewN ?_ _) | (with_reducible refine Kd.C_drew ?_))); (case side2 => exact (Kd.R_reads' HO176.out).2.1); (case side3 => repeat (first | exact (Kd.R_reads' HO180.out).2.2 | (with_reducible refine Kd.C_alloc ?_ _) | (with_reducible refine Kd.C_drewN ?_ _) | (with_reducible refine Kd.C_drew ?_))); (case side4 => exact (Kd.R_reads' HO180.out).2.1); rintro e w' ⟨rfl, ⟨nd, rfl⟩⟩; refine ⟨_, rfl, ?_⟩))
              go_meet
              case rel => exact ⟨_, (false), (by first | rfl | (simp; done) | (simp [*]; done)), H', ⟨by have := HJ5.out; first | omega | exact Nat.le_refl _⟩, ⟨by (with_reducible repeat (first | apply Kd.R_alloc | apply Kd.R_drewN | apply Kd.R_drew)); exact Kd.R_mono HO172.out (fun _ hk => trivial)⟩, ⟨by (with_reducible repeat (first | apply Kd.R_alloc | apply Kd.R_drewN | apply Kd.R_drew)); exact Kd.R_mono HO185.out (fun _ hk => hk.2)⟩, ⟨by (with_reducible repeat (first | apply Kd.R_alloc | apply Kd.R_drewN | apply Kd.R_drew)); exact Kd.R_mono HO195.out (fun _ hk => hk.2)⟩, ⟨by (with_reducible repeat (first | refine blk_drewN ?_ _ | refine blk_drew ?_ | refine blk_alloc ?_ _)); exact BK168.out⟩, ⟨by (with_reducible repeat (first | refine blk_drewN ?_ _ | refine blk_drew ?_ | refine blk_alloc ?_ _)); exact BK190.out⟩, ⟨by (with_reducible repeat (first | refine blk_drewN ?_ _ | refine blk_drew ?_ | refine blk_alloc ?_ _)); exact BK200.out⟩, ⟨by repeat (first | (with_reducible first | exact HB.out | apply below_alloc | apply pw_below_drewN | apply below_drew1 | refine below_set ?_ GE168.out | refine below_set ?_ GE190.out | refine below_set ?_ GE200.out) | exact HB.out)⟩⟩
          · replace c42 := Bool.eq_false_iff.mpr c42
            subst c42
            have H1 : (sextonlaw13_ChainDoes.j1 kj5 l4 t170 false a3_0 a3_1 l3_2) = some r := by rw [if_neg (show ¬ (false = true) by decide)] at H; exact H
            clear H
            have H := H1
            clear H1
            have H' := Aside0.mk H
            clear H
            obtain ⟨Ao100, co100, eo100⟩ := Kd.R_slice HO176.out
            subst eo100
            obtain ⟨Ao101, co101, eo101⟩ := Kd.R_slice HO180.out
            subst eo101
            go_wp2_with (first | ((with_reducible refine gate_callee (f := 34) rfl ?_); refine goesL_ (some 84) rfl rfl Try.func34 (by kernel_rfl) rfl #[.slice Ao100 t173.length co100, .slice Ao101 t177.length co101] rfl (by (try simp only [List.map_toArray, List.map_cons, List.map_nil]); first | done | rfl | (simp only [List.length_drop, List.length_take]; rfl)) ?_; (with_reducible refine (sextonref01_Texts.calls kj5 _ _ t173 _ _ t177 false _ ?side1 ?side2 ?side3 ?side4 A41.out).mono ?_); (case side1 => repeat (first | exact (Kd.R_reads' HO176.out).2.2 | (with_reducible refine Kd.C_alloc ?_ _) | (with_reducible refine Kd.C_drewN ?_ _) | (with_reducible refine Kd.C_drew ?_))); (case side2 => exact (Kd.R_reads' HO176.out).2.1); (case side3 => repeat (first | exact (Kd.R_reads' HO180.out).2.2 | (with_reducible refine Kd.C_alloc ?_ _) | (with_reducible refine Kd.C_drewN ?_ _) | (with_reducible refine Kd.C_drew ?_))); (case side4 => exact (Kd.R_reads' HO180.out).2.1); rintro e w' ⟨rfl, ⟨nd, rfl⟩⟩; refine ⟨_, rfl, ?_⟩))
            go_meet
            case rel => exact ⟨_, (false), (by first | rfl | (simp; done) | (simp [*]; done)), H', ⟨by have := HJ5.out; first | omega | exact Nat.le_refl _⟩, ⟨by (with_reducible repeat (first | apply Kd.R_alloc | apply Kd.R_drewN | apply Kd.R_drew)); exact Kd.R_mono HO172.out (fun _ hk => trivial)⟩, ⟨by (with_reducible repeat (first | apply Kd.R_alloc | apply Kd.R_drewN | apply Kd.R_drew)); exact Kd.R_mono HO185.out (fun _ hk => hk.2)⟩, ⟨by (with_reducible repeat (first | apply Kd.R_alloc | apply Kd.R_drewN | apply Kd.R_drew)); exact Kd.R_mono HO195.out (fun _ hk => hk.2)⟩, ⟨by (with_reducible repeat (first | refine blk_drewN ?_ _ | refine blk_drew ?_ | refine blk_alloc ?_ _)); exact BK168.out⟩, ⟨by (with_reducible repeat (first | refine blk_drewN ?_ _ | refine blk_drew ?_ | refine blk_alloc ?_ _)); exact BK190.out⟩, ⟨by (with_reducible repeat (first | refine blk_drewN ?_ _ | refine blk_drew ?_ | refine blk_alloc ?_ _)); exact BK200.out⟩, ⟨by repeat (first | (with_reducible first | exact HB.out | apply below_alloc | apply pw_below_drewN | apply below_drew1 | refine below_set ?_ GE168.out | refine below_set ?_ GE190.out | refine below_set ?_ GE200.out) | exact HB.out)⟩⟩
        case rest =>
          clear HC21
          try clear c1
          try clear c2
          try clear p2
          try clear c3
          try clear c4
          try clear c5
          try clear c6
          try clear c7
          try clear c8
          try clear c8b0
          try clear c8b1
          try clear c9
          try clear c9b0
          try clear c9b1
          try clear c13
          try clear c27
          try clear c28
          try clear c29
          try clear c30
          try clear c31
          try clear c32
          try clear c33
          try clear c34
          try clear c42
          try clear c43
          try clear c43b0
          try clear c43b1
          try clear c45
          try clear c47
          try clear c48
          try clear c48b0
          try clear c48b1
          try clear c49
          try clear c49b0
          try clear c49b1
          try clear c52
          try clear c53
          try clear c55
          try clear c62
          try clear c63
          try clear c65
          try clear c72
          try clear c73
          try clear c75
          try clear c82
          try clear c83
          try clear c85
          try clear c92
          try clear c93
          try clear c95
          try clear hcz10_0
          try clear hcz10_1
          try clear hcz10_2
          try clear hcz12_0
          try clear hcz12_1
          try clear hcz12_2
          try clear hcz28_0
          try clear hcz28_1
          try clear hcz28_2
          try clear hcz34_0
          try clear hcz34_1
          try clear hcz34_2
          try clear hcz36_0
          try clear hcz36_1
          try clear hcz36_2
          try clear hcz38_0
          try clear hcz38_1
          try clear hcz38_2
          try clear hcz54_0
          try clear hcz54_1
          try clear hcz54_2
          try clear hcz56_0
          try clear hcz56_1
          try clear hcz56_2
          try clear hcz64_0
          try clear hcz64_1
          try clear hcz64_2
          try clear hcz66_0
          try clear hcz66_1
          try clear hcz66_2
          try clear hcz74_0
          try clear hcz74_1
          try clear hcz74_2
          try clear hcz76_0
          try clear hcz76_1
          try clear hcz76_2
          try clear hcz84_0
          try clear hcz84_1
          try clear hcz84_2
          try clear hcz86_0
          try clear hcz86_1
          try clear hcz86_2
          try clear hcz94_0
          try clear hcz94_1
          try clear hcz94_2
          try clear hcz96_0
          try clear hcz96_1
          try clear hcz96_2
          try clear hfz10_0
          try clear hfz10_1
          try clear hfz10_2
          try clear hfz12_0
          try clear hfz12_1
          try clear hfz12_2
          try clear hfz28_0
          try clear hfz28_1
          try clear hfz28_2
          try clear hfz34_0
          try clear hfz34_1
          try clear hfz34_2
          try clear hfz36_0
          try clear hfz36_1
          try clear hfz36_2
          try clear hfz38_0
          try clear hfz38_1
          try clear hfz38_2
          try clear hfz54_0
          try clear hfz54_1
          try clear hfz54_2
          try clear hfz56_0
          try clear hfz56_1
          try clear hfz56_2
          try clear hfz64_0
          try clear hfz64_1
          try clear hfz64_2
          try clear hfz66_0
          try clear hfz66_1
          try clear hfz66_2
          try clear hfz74_0
          try clear hfz74_1
          try clear hfz74_2
          try clear hfz76_0
          try clear hfz76_1
          try clear hfz76_2
          try clear hfz84_0
          try clear hfz84_1
          try clear hfz84_2
          try clear hfz86_0
          try clear hfz86_1
          try clear hfz86_2
          try clear hfz94_0
          try clear hfz94_1
          try clear hfz94_2
          try clear hfz96_0
          try clear hfz96_1
          try clear hfz96_2
          try clear p2
          obtain ⟨kq, x26_20, rfl, HA, HJ20, HO_11, HO_191002, HO_201002, BK168, BK190, BK200, HB⟩ := hcut
          cases kq with
          | zero => exact absurd HA.out (by simp [sextonlaw13_ChainDoes.j1])
          | succ kj20 =>
            have H := HA.out
            clear HA
            simp only [sextonlaw13_ChainDoes.j1] at H
            replace H := Option.bind_eq_some_iff.mp H
            obtain ⟨t208, A1020, H⟩ := H
            replace H : (if t208 = true then (if x26_20 = true then ((chain_Sums.f l4).bind fun t209 => ((sextonref13_Sums.f kj20 t170).bind fun t212 => ((sextonref01_Ints.f kj20 t209 t212).bind fun t215 => (if t215 = true then ((chain_Have.f a3_0 a3_1 l3_2 l4).bind fun t216 => ((sextonref13_Have.f kj20 a3_0 a3_1 l3_2 t170).bind fun t219 => ((sextonref01_Ints.f kj20 t216 t219).bind fun t222 => (if t222 = true then ((sextonref01_Texts.f kj20 l4 t170).bind fun t223 => (some t223)) else (some false))))) else (some false))))) else (some false)) else (some false)) = some r := H
            have A102 := Aside0.mk A1020
            clear A1020
            by_cases c103 : t208 = true
            · subst c103
              have H1 : (if x26_20 = true then ((chain_Sums.f l4).bind fun t209 => ((sextonref13_Sums.f kj20 t170).bind fun t212 => ((sextonref01_Ints.f kj20 t209 t212).bind fun t215 => (if t215 = true then ((chain_Have.f a3_0 a3_1 l3_2 l4).bind fun t216 => ((sextonref13_Have.f kj20 a3_0 a3_1 l3_2 t170).bind fun t219 => ((sextonref01_Ints.f kj20 t216 t219).bind fun t222 => (if t222 = true then ((sextonref01_Texts.f kj20 l4 t170).bind fun t223 => (some t223)) else (some false))))) else (some false))))) else (some false)) = some r := by rw [if_pos rfl] at H; exact H
              clear H
              have H := H1
              clear H1
              by_cases c104 : x26_20 = true
              · subst c104
                have H1 : ((chain_Sums.f l4).bind fun t209 => ((sextonref13_Sums.f kj20 t170).bind fun t212 => ((sextonref01_Ints.f kj20 t209 t212).bind fun t215 => (if t215 = true then ((chain_Have.f a3_0 a3_1 l3_2 l4).bind fun t216 => ((sextonref13_Have.f kj20 a3_0 a3_1 l3_2 t170).bind fun t219 => ((sextonref01_Ints.f kj20 t216 t219).bind fun t222 => (if t222 = true then ((sextonref01_Texts.f kj20 l4 t170).bind fun t223 => (some t223)) else (some false))))) else (some false))))) = some r := by rw [if_pos rfl] at H; exact H
                clear H
                have H := H1
                clear H1
                replace H := Option.bind_eq_some_iff.mp H
                obtain ⟨t209, A1050, H⟩ := H
                replace H : ((sextonref13_Sums.f kj20 t170).bind fun t212 => ((sextonref01_Ints.f kj20 t209 t212).bind fun t215 => (if t215 = true then ((chain_Have.f a3_0 a3_1 l3_2 l4).bind fun t216 => ((sextonref13_Have.f kj20 a3_0 a3_1 l3_2 t170).bind fun t219 => ((sextonref01_Ints.f kj20 t216 t219).bind fun t222 => (if t222 = true then ((sextonref01_Texts.f kj20 l4 t170).bind fun t223 => (some t223)) else (some false))))) else (some false)))) = some r := H
                have A105 := Aside0.mk A1050
                clear A1050
                replace H := Option.bind_eq_some_iff.mp H
                obtain ⟨t212, A1060, H⟩ := H
                replace H : ((sextonref01_Ints.f kj20 t209 t212).bind fun t215 => (if t215 = true then ((chain_Have.f a3_0 a3_1 l3_2 l4).bind fun t216 => ((sextonref13_Have.f kj20 a3_0 a3_1 l3_2 t170).bind fun t219 => ((sextonref01_Ints.f kj20 t216 t219).bind fun t222 => (if t222 = true then ((sextonref01_Texts.f kj20 l4 t170).bind fun t223 => (some t223)) else (some false))))) else (some false))) = some r := H
                have A106 := Aside0.mk A1060
                clear A1060
                replace H := Option.bind_eq_some_iff.mp H
                obtain ⟨t215, A1070, H⟩ := H
                replace H : (if t215 = true then ((chain_Have.f a3_0 a3_1 l3_2 l4).bind fun t216 => ((sextonref13_Have.f kj20 a3_0 a3_1 l3_2 t170).bind fun t219 => ((sextonref01_Ints.f kj20 t216 t219).bind fun t222 => (if t222 = true then ((sextonref01_Texts.f kj20 l4 t170).bind fun t223 => (some t223)) else (some false))))) else (some false)) = some r := H
                have A107 := Aside0.mk A1070
                clear A1070
                by_cases c108 : t215 = true
                · subst c108
                  have H1 : ((chain_Have.f a3_0 a3_1 l3_2 l4).bind fun t216 => ((sextonref13_Have.f kj20 a3_0 a3_1 l3_2 t170).bind fun t219 => ((sextonref01_Ints.f kj20 t216 t219).bind fun t222 => (if t222 = true then ((sextonref01_Texts.f kj20 l4 t170).bind fun t223 => (some t223)) else (some false))))) = some r := by rw [if_pos rfl] at H; exact H
                  clear H
                  have H := H1
                  clear H1
                  replace H := Option.bind_eq_some_iff.mp H
                  obtain ⟨t216, A1090, H⟩ := H
                  replace H : ((sextonref13_Have.f kj20 a3_0 a3_1 l3_2 t170).bind fun t219 => ((sextonref01_Ints.f kj20 t216 t219).bind fun t222 => (if t222 = true then ((sextonref01_Texts.f kj20 l4 t170).bind fun t223 => (some t223)) else (some false)))) = some r := H
                  have A109 := Aside0.mk A1090
                  clear A1090
                  replace H := Option.bind_eq_some_iff.mp H
                  obtain ⟨t219, A1100, H⟩ := H
                  replace H : ((sextonref01_Ints.f kj20 t216 t219).bind fun t222 => (if t222 = true then ((sextonref01_Texts.f kj20 l4 t170).bind fun t223 => (some t223)) else (some false))) = some r := H
                  have A110 := Aside0.mk A1100
                  clear A1100
                  replace H := Option.bind_eq_some_iff.mp H
                  obtain ⟨t222, A1110, H⟩ := H
                  replace H : (if t222 = true then ((sextonref01_Texts.f kj20 l4 t170).bind fun t223 => (some t223)) else (some false)) = some r := H
                  have A111 := Aside0.mk A1110
                  clear A1110
                  by_cases c112 : t222 = true
                  · subst c112
                    have H1 : ((sextonref01_Texts.f kj20 l4 t170).bind fun t223 => (some t223)) = some r := by rw [if_pos rfl] at H; exact H
                    clear H
                    have H := H1
                    clear H1
                    replace H := Option.bind_eq_some_iff.mp H
                    obtain ⟨t223, A1130, H⟩ := H
                    replace H : (some t223) = some r := H
                    have A113 := Aside0.mk A1130
                    clear A1130
                    obtain rfl := Option.some.inj H
                    try go_wp2
                    have n0_ := Aside0.mk (Kd.R_drew HO_11.out)
                    have n1_ := Aside0.mk (Kd.R_drew HO_191002.out)
                    have n2_ := Aside0.mk (Kd.R_drew HO_201002.out)
                    have n3_ := Aside0.mk (blk_drew BK168.out)
                    have n4_ := Aside0.mk (blk_drew BK190.out)
                    have n5_ := Aside0.mk (blk_drew BK200.out)
                    have n6_ := Aside0.mk (below_drew1 HB.out)
                    clear HO_11
                    clear HO_191002
                    clear HO_201002
                    clear BK168
                    clear BK190
                    clear BK200
                    clear HB
                    have HO_11 := n0_
                    have HO_191002 := n1_
                    have HO_201002 := n2_
                    have BK168 := n3_
                    have BK190 := n4_
                    have BK200 := n5_
                    have HB := n6_
                    clear n0_ n1_ n2_ n3_ n4_ n5_ n6_
                    refine start_ (n := 26) (S := fun w' => w'.cell? ⟨gb168, 0, none⟩ = some (.int .i64 a3_0) ∧ w'.cell? ⟨gb168, 1, none⟩ = some (.int .i64 a3_1) ∧ w'.cell? ⟨gb168, 2, none⟩ = some (.slice A3_2 l3_2.length c3_2)) (ds := []) #[false, false, false, false, false, false, false, false, false, false, false, false, false, false, false, false, false, false, false, false, false, false, false, false, false, false] (by kernel_rfl) rfl rfl ⟨(blk_cell BK168.out 0).trans rfl, (blk_cell BK168.out 1).trans rfl, (blk_cell BK168.out 2).trans rfl⟩ (fun hHeld => ?_); refine with_tabW sextonlaw13_ChainDoes.tab11 sextonlaw13_ChainDoes.bits11 (fun HT_ HW_ => ?_)
                    generalize wc.drew = w114 at HO_11 HO_191002 HO_201002 BK168 BK190 BK200 HB hHeld ⊢
                    refine one_ (i := 0) (N := some 115) #[true, false, false, false, false, false, false, false, false, false, false, false, false, false, false, false, false, false, false, false, false, false, false, false, false, false] rfl rfl (one_of HT_.out (by kernel_rfl)) (by decide) (fun K hK => ?_)
                    refine goes_ Try.func35 (by kernel_rfl) rfl #[] (by rfl) rfl rfl (by (try simp only [List.map_toArray, List.map_cons, List.map_nil]); first | done | rfl | (simp only [List.length_drop, List.length_take]; rfl)) ?_
                    with_reducible refine (sextonlaw13_cut.calls  true _ A102.out).mono ?_
                    rintro e w115 ⟨rfl, hb⟩
                    refine ⟨_, rfl, ?_⟩
                    have n0_ := Aside0.mk (Kd.R_below (by (with_reducible repeat (first | apply Kd.R_alloc | apply Kd.R_drewN | apply Kd.R_drew)); exact HO_11.out) hb)
                    have n1_ := Aside0.mk (Kd.R_below (by (with_reducible repeat (first | apply Kd.R_alloc | apply Kd.R_drewN | apply Kd.R_drew)); exact HO_191002.out) hb)
                    have n2_ := Aside0.mk (Kd.R_below (by (with_reducible repeat (first | apply Kd.R_alloc | apply Kd.R_drewN | apply Kd.R_drew)); exact HO_201002.out) hb)
                    have n3_ := Aside0.mk (blk_below (g := gb168) (o := .cells #[.int .i64 a3_0, .int .i64 a3_1, .slice A3_2 l3_2.length c3_2] 24 (0, 0)) (by (with_reducible repeat (first | refine blk_drewN ?_ _ | refine blk_drew ?_ | refine blk_alloc ?_ _)); exact BK168.out) hb)
                    have n4_ := Aside0.mk (blk_below (g := gb190) (o := .cells #[.int .i64 t181, .int .i64 t182, .slice Ao29 t183.length co29] 24 (0, 0)) (by (with_reducible repeat (first | refine blk_drewN ?_ _ | refine blk_drew ?_ | refine blk_alloc ?_ _)); exact BK190.out) hb)
                    have n5_ := Aside0.mk (blk_below (g := gb200) (o := .cells #[.int .i64 t191, .int .i64 t192, .slice Ao35 t193.length co35] 24 (0, 0)) (by (with_reducible repeat (first | refine blk_drewN ?_ _ | refine blk_drew ?_ | refine blk_alloc ?_ _)); exact BK200.out) hb)
                    have n6_ := Aside0.mk (below_step (by repeat (first | (with_reducible first | exact HB.out | apply below_alloc | apply pw_below_drewN | apply below_drew1 | refine below_set ?_ GE168.out | refine below_set ?_ GE190.out | refine below_set ?_ GE200.out) | exact HB.out)) hb)
                    clear HO_11
                    clear HO_191002
                    clear HO_201002
                    clear BK168
                    clear BK190
                    clear BK200
                    clear HB
                    have HO_11 := n0_
                    have HO_191002 := n1_
                    have HO_201002 := n2_
                    have BK168 := n3_
                    have BK190 := n4_
                    have BK200 := n5_
                    have HB := n6_
                    clear n0_ n1_ n2_ n3_ n4_ n5_ n6_
                    (try clear hb)
                    (try clear hb2)
                    (try clear hk)
                    (try clear hi)
                    refine hK.out _ _ ⟨(blk_cell BK168.out 0).trans rfl, (blk_cell BK168.out 1).trans rfl, (blk_cell BK168.out 2).trans rfl⟩ (fun hHeld => ?_)
                    clear hK K
                    refine norm_ (a' := ?_) ?_ ?_
                    rotate_left
                    · show Act.put _ (some 115) _ = _
                      simp only [Act.put, List.setIfInBounds_toArray, List.set_cons_zero, List.set_cons_succ, i64_w, i32_w]
                      rfl
                    refine pure_ (i := 1) (N := some 116) (v := ?_) (a' := ?_) #[true, true, false, false, false, false, false, false, false, false, false, false, false, false, false, false, false, false, false, false, false, false, false, false, false, false] rfl rfl (any_of HT_.out (by kernel_rfl)) (fun _ _ _ h => h) (Or.inl ⟨by rfl, ?_⟩) ?_ ?_
                    rotate_left
                    · intro w'
                      go_simp
                      with_reducible rfl
                    rotate_left
                    · simp only [Act.put, List.setIfInBounds_toArray, List.set_cons_zero, List.set_cons_succ, i64_w, i32_w]
                      rfl
                    refine pure_ (i := 2) (N := some 117) (v := ?_) (a' := ?_) #[true, true, true, false, false, false, false, false, false, false, false, false, false, false, false, false, false, false, false, false, false, false, false, false, false, false] rfl rfl (any_of HT_.out (by kernel_rfl)) (fun _ _ _ h => h) (Or.inl ⟨by rfl, ?_⟩) ?_ ?_
                    rotate_left
                    · intro w'
                      go_simp
                      with_reducible rfl
                    rotate_left
                    · simp only [Act.put, List.setIfInBounds_toArray, List.set_cons_zero, List.set_cons_succ, i64_w, i32_w]
                      rfl
                    refine pure_ (i := 3) (N := some 118) (v := ?_) (a' := ?_) #[true, true, true, true, false, false, false, false, false, false, false, false, false, false, false, false, false, false, false, false, false, false, false, false, false, false] rfl rfl (any_of HT_.out (by kernel_rfl)) (fun _ _ _ h => h) (Or.inl ⟨by rfl, ?_⟩) ?_ ?_
                    rotate_left
                    · intro w'
                      go_simp
                      with_reducible rfl
                    rotate_left
                    · simp only [Act.put, List.setIfInBounds_toArray, List.set_cons_zero, List.set_cons_succ, i64_w, i32_w]
                      rfl
                    refine pure_ (i := 4) (N := some 119) (v := ?_) (a' := ?_) #[true, true, true, true, true, false, false, false, false, false, false, false, false, false, false, false, false, false, false, false, false, false, false, false, false, false] rfl rfl (any_of HT_.out (by kernel_rfl)) (fun _ _ _ h => h) (Or.inl ⟨by rfl, ?_⟩) ?_ ?_
                    rotate_left
                    · intro w'
                      go_simp
                      with_reducible rfl
                    rotate_left
                    · simp only [Act.put, List.setIfInBounds_toArray, List.set_cons_zero, List.set_cons_succ, i64_w, i32_w]
                      rfl
                    refine pure_ (i := 5) (N := some 120) (v := ?_) (a' := ?_) #[true, true, true, true, true, true, false, false, false, false, false, false, false, false, false, false, false, false, false, false, false, false, false, false, false, false] rfl rfl (any_of HT_.out (by kernel_rfl)) (fun _ _ _ h => h) (Or.inl ⟨by rfl, ?_⟩) ?_ ?_
                    rotate_left
                    · intro w'
                      go_simp
                      with_reducible rfl
                    rotate_left
                    · simp only [Act.put, List.setIfInBounds_toArray, List.set_cons_zero, List.set_cons_succ, i64_w, i32_w]
                      rfl
                    refine pure_ (i := 7) (N := some 122) (v := ?_) (a' := ?_) #[true, true, true, true, true, true, false, true, false, false, false, false, false, false, false, false, false, false, false, false, false, false, false, false, false, false] rfl rfl (any_of HT_.out (by kernel_rfl)) (fun _ _ _ h => h) (Or.inl ⟨by rfl, ?_⟩) ?_ ?_
                    rotate_left
                    · intro w'
                      go_simp
                      with_reducible rfl
                    rotate_left
                    · simp only [Act.put, List.setIfInBounds_toArray, List.set_cons_zero, List.set_cons_succ, i64_w, i32_w]
                      rfl
                    refine one_ (i := 6) (N := some 121) #[true, true, true, true, true, true, true, true, false, false, false, false, false, false, false, false, false, false, false, false, false, false, false, false, false, false] rfl rfl (one_of HT_.out (by kernel_rfl)) (by decide) (fun K hK => ?_)
                    refine goes_ Try.func37 (by kernel_rfl) rfl #[.slice A4 l4.length c4] (by rfl) rfl rfl (by (try simp only [List.map_toArray, List.map_cons, List.map_nil]); first | done | rfl | (simp only [List.length_drop, List.length_take]; rfl)) ?_
                    with_reducible refine (chain_Sums.calls _ _ l4 t209 _ ?side1 ?side2 A105.out).mono ?_
                    (case side1 => repeat (first | exact (Kd.C_below HR4.out HB.out) | (with_reducible refine Kd.C_alloc ?_ _) | (with_reducible refine Kd.C_drewN ?_ _) | (with_reducible refine Kd.C_drew ?_)))
                    (case side2 => exact HC4.out)
                    rintro e w116 ⟨v210, rfl, ho0, hb⟩
                    refine ⟨_, rfl, ?_⟩
                    have n0_ := Aside0.mk (Kd.R_below (by (with_reducible repeat (first | apply Kd.R_alloc | apply Kd.R_drewN | apply Kd.R_drew)); exact HO_11.out) hb)
                    have n1_ := Aside0.mk (Kd.R_elder' (by (with_reducible repeat (first | apply Kd.R_alloc | apply Kd.R_drewN | apply Kd.R_drew)); exact HO_191002.out) (Kd.R_base ho0) hb)
                    have n2_ := Aside0.mk (Kd.R_elder' (by (with_reducible repeat (first | apply Kd.R_alloc | apply Kd.R_drewN | apply Kd.R_drew)); exact HO_201002.out) (Kd.R_base ho0) hb)
                    have n3_ := Aside0.mk (Kd.R_lower (Kd.R_new' (Kd.R_new' ho0 (Kd.R_lt (by (with_reducible repeat (first | apply Kd.R_alloc | apply Kd.R_drewN | apply Kd.R_drew)); exact HO_191002.out))) (Kd.R_lt (by (with_reducible repeat (first | apply Kd.R_alloc | apply Kd.R_drewN | apply Kd.R_drew)); exact HO_201002.out))) (below_size (by repeat (first | (with_reducible first | exact HB.out | apply below_alloc | apply pw_below_drewN | apply below_drew1 | refine below_set ?_ GE168.out | refine below_set ?_ GE190.out | refine below_set ?_ GE200.out) | exact HB.out))))
                    have n4_ := Aside0.mk (blk_below (g := gb168) (o := .cells #[.int .i64 a3_0, .int .i64 a3_1, .slice A3_2 l3_2.length c3_2] 24 (0, 0)) (by (with_reducible repeat (first | refine blk_drewN ?_ _ | refine blk_drew ?_ | refine blk_alloc ?_ _)); exact BK168.out) hb)
                    have n5_ := Aside0.mk (blk_below (g := gb190) (o := .cells #[.int .i64 t181, .int .i64 t182, .slice Ao29 t183.length co29] 24 (0, 0)) (by (with_reducible repeat (first | refine blk_drewN ?_ _ | refine blk_drew ?_ | refine blk_alloc ?_ _)); exact BK190.out) hb)
                    have n6_ := Aside0.mk (blk_below (g := gb200) (o := .cells #[.int .i64 t191, .int .i64 t192, .slice Ao35 t193.length co35] 24 (0, 0)) (by (with_reducible repeat (first | refine blk_drewN ?_ _ | refine blk_drew ?_ | refine blk_alloc ?_ _)); exact BK200.out) hb)
                    have n7_ := Aside0.mk (below_step (by repeat (first | (with_reducible first | exact HB.out | apply below_alloc | apply pw_below_drewN | apply below_drew1 | refine below_set ?_ GE168.out | refine below_set ?_ GE190.out | refine below_set ?_ GE200.out) | exact HB.out)) hb)
                    clear HO_11
                    clear HO_191002
                    clear HO_201002
                    clear BK168
                    clear BK190
                    clear BK200
                    clear HB
                    have HO_11 := n0_
                    have HO_191002 := n1_
                    have HO_201002 := n2_
                    have HO211 := n3_
                    have BK168 := n4_
                    have BK190 := n5_
                    have BK200 := n6_
                    have HB := n7_
                    clear n0_ n1_ n2_ n3_ n4_ n5_ n6_ n7_
                    (try clear hb)
                    (try clear hb2)
                    (try clear hk)
                    (try clear hi)
                    (try clear ho0)
                    refine hK.out _ _ ⟨(blk_cell BK168.out 0).trans rfl, (blk_cell BK168.out 1).trans rfl, (blk_cell BK168.out 2).trans rfl⟩ (fun hHeld => ?_)
                    clear hK K
                    refine norm_ (a' := ?_) ?_ ?_
                    rotate_left
                    · show Act.put _ (some 121) _ = _
                      simp only [Act.put, List.setIfInBounds_toArray, List.set_cons_zero, List.set_cons_succ, i64_w, i32_w]
                      rfl
                    refine one_ (i := 8) (N := some 123) #[true, true, true, true, true, true, true, true, true, false, false, false, false, false, false, false, false, false, false, false, false, false, false, false, false, false] rfl rfl (one_of HT_.out (by kernel_rfl)) (by decide) (fun K hK => ?_)
                    refine goes_ Try.func38 (by kernel_rfl) rfl #[.slice Ao39 t170.length co39] (by rfl) rfl rfl (by (try simp only [List.map_toArray, List.map_cons, List.map_nil]); first | done | rfl | (simp only [List.length_drop, List.length_take]; rfl)) ?_
                    with_reducible refine (sextonref13_Sums.calls kj20 _ _ t170 t212 _ ?side1 ?side2 A106.out).mono ?_
                    (case side1 => repeat (first | exact (Kd.R_reads' HO_11.out).2.2 | (with_reducible refine Kd.C_alloc ?_ _) | (with_reducible refine Kd.C_drewN ?_ _) | (with_reducible refine Kd.C_drew ?_)))
                    (case side2 => exact (Kd.R_reads' HO_11.out).2.1)
                    rintro e w117 ⟨v213, rfl, ho0, hb⟩
                    refine ⟨_, rfl, ?_⟩
                    have n0_ := Aside0.mk (Kd.R_below (by (with_reducible repeat (first | apply Kd.R_alloc | apply Kd.R_drewN | apply Kd.R_drew)); exact HO_11.out) hb)
                    have n1_ := Aside0.mk (Kd.R_elder' (by (with_reducible repeat (first | apply Kd.R_alloc | apply Kd.R_drewN | apply Kd.R_drew)); exact HO_191002.out) (Kd.R_base ho0) hb)
                    have n2_ := Aside0.mk (Kd.R_elder' (by (with_reducible repeat (first | apply Kd.R_alloc | apply Kd.R_drewN | apply Kd.R_drew)); exact HO_201002.out) (Kd.R_base ho0) hb)
                    have n3_ := Aside0.mk (Kd.R_elder' (by (with_reducible repeat (first | apply Kd.R_alloc | apply Kd.R_drewN | apply Kd.R_drew)); exact HO211.out) (Kd.R_base ho0) hb)
                    have n4_ := Aside0.mk (Kd.R_lower (Kd.R_new' (Kd.R_new' (Kd.R_new' ho0 (Kd.R_lt (by (with_reducible repeat (first | apply Kd.R_alloc | apply Kd.R_drewN | apply Kd.R_drew)); exact HO_191002.out))) (Kd.R_lt (by (with_reducible repeat (first | apply Kd.R_alloc | apply Kd.R_drewN | apply Kd.R_drew)); exact HO_201002.out))) (Kd.R_lt (by (with_reducible repeat (first | apply Kd.R_alloc | apply Kd.R_drewN | apply Kd.R_drew)); exact HO211.out))) (below_size (by repeat (first | (with_reducible first | exact HB.out | apply below_alloc | apply pw_below_drewN | apply below_drew1 | refine below_set ?_ GE168.out | refine below_set ?_ GE190.out | refine below_set ?_ GE200.out) | exact HB.out))))
                    have n5_ := Aside0.mk (blk_below (g := gb168) (o := .cells #[.int .i64 a3_0, .int .i64 a3_1, .slice A3_2 l3_2.length c3_2] 24 (0, 0)) (by (with_reducible repeat (first | refine blk_drewN ?_ _ | refine blk_drew ?_ | refine blk_alloc ?_ _)); exact BK168.out) hb)
                    have n6_ := Aside0.mk (blk_below (g := gb190) (o := .cells #[.int .i64 t181, .int .i64 t182, .slice Ao29 t183.length co29] 24 (0, 0)) (by (with_reducible repeat (first | refine blk_drewN ?_ _ | refine blk_drew ?_ | refine blk_alloc ?_ _)); exact BK190.out) hb)
                    have n7_ := Aside0.mk (blk_below (g := gb200) (o := .cells #[.int .i64 t191, .int .i64 t192, .slice Ao35 t193.length co35] 24 (0, 0)) (by (with_reducible repeat (first | refine blk_drewN ?_ _ | refine blk_drew ?_ | refine blk_alloc ?_ _)); exact BK200.out) hb)
                    have n8_ := Aside0.mk (below_step (by repeat (first | (with_reducible first | exact HB.out | apply below_alloc | apply pw_below_drewN | apply below_drew1 | refine below_set ?_ GE168.out | refine below_set ?_ GE190.out | refine below_set ?_ GE200.out) | exact HB.out)) hb)
                    clear HO_11
                    clear HO_191002
                    clear HO_201002
                    clear HO211
                    clear BK168
                    clear BK190
                    clear BK200
                    clear HB
                    have HO_11 := n0_
                    have HO_191002 := n1_
                    have HO_201002 := n2_
                    have HO211 := n3_
                    have HO214 := n4_
                    have BK168 := n5_
                    have BK190 := n6_
                    have BK200 := n7_
                    have HB := n8_
                    clear n0_ n1_ n2_ n3_ n4_ n5_ n6_ n7_ n8_
                    (try clear hb)
                    (try clear hb2)
                    (try clear hk)
                    (try clear hi)
                    (try clear ho0)
                    obtain ⟨Ao118, co118, eo118⟩ := Kd.R_slice HO211.out
                    (first | subst eo118 | (injection eo118 with f1_ f2_ f3_; have f4_ := f1_.symm; have f5_ := f3_.symm; clear f1_ f2_ f3_; subst f4_; subst f5_))
                    obtain ⟨Ao119, co119, eo119⟩ := Kd.R_slice HO214.out
                    (first | subst eo119 | (injection eo119 with f1_ f2_ f3_; have f4_ := f1_.symm; have f5_ := f3_.symm; clear f1_ f2_ f3_; subst f4_; subst f5_))
                    refine hK.out _ _ ⟨(blk_cell BK168.out 0).trans rfl, (blk_cell BK168.out 1).trans rfl, (blk_cell BK168.out 2).trans rfl⟩ (fun hHeld => ?_)
                    clear hK K
                    refine norm_ (a' := ?_) ?_ ?_
                    rotate_left
                    · show Act.put _ (some 123) _ = _
                      simp only [Act.put, List.setIfInBounds_toArray, List.set_cons_zero, List.set_cons_succ, i64_w, i32_w]
                      rfl
                    refine one_ (i := 9) (N := some 124) #[true, true, true, true, true, true, true, true, true, true, false, false, false, false, false, false, false, false, false, false, false, false, false, false, false, false] rfl rfl (one_of HT_.out (by kernel_rfl)) (by decide) (fun K hK => ?_)
                    refine goes_ Try.func36 (by kernel_rfl) rfl #[.slice Ao118 t209.length co118, .slice Ao119 t212.length co119] (by rfl) rfl rfl (by (try simp only [List.map_toArray, List.map_cons, List.map_nil]); first | done | rfl | (simp only [List.length_drop, List.length_take]; rfl)) ?_
                    with_reducible refine (sextonref01_Ints.calls kj20 _ _ t209 _ _ t212 true _ ?side1 ?side2 ?side3 ?side4 A107.out).mono ?_
                    (case side1 => repeat (first | exact (Kd.R_reads' HO211.out).2.2 | (with_reducible refine Kd.C_alloc ?_ _) | (with_reducible refine Kd.C_drewN ?_ _) | (with_reducible refine Kd.C_drew ?_)))
                    (case side2 => exact (Kd.R_reads' HO211.out).2.1)
                    (case side3 => repeat (first | exact (Kd.R_reads' HO214.out).2.2 | (with_reducible refine Kd.C_alloc ?_ _) | (with_reducible refine Kd.C_drewN ?_ _) | (with_reducible refine Kd.C_drew ?_)))
                    (case side4 => exact (Kd.R_reads' HO214.out).2.1)
                    rintro e w' ⟨rfl, ⟨nd, rfl⟩⟩
                    refine ⟨_, rfl, ?_⟩
                    refine hK.out _ _ ⟨(blk_cell BK168.out 0).trans rfl, (blk_cell BK168.out 1).trans rfl, (blk_cell BK168.out 2).trans rfl⟩ (fun hHeld => ?_)
                    clear hK K
                    refine norm_ (a' := ?_) ?_ ?_
                    rotate_left
                    · show Act.put _ (some 124) _ = _
                      simp only [Act.put, List.setIfInBounds_toArray, List.set_cons_zero, List.set_cons_succ, i64_w, i32_w]
                      rfl
                    refine pure_ (i := 10) (N := some 125) (v := ?_) (a' := ?_) #[true, true, true, true, true, true, true, true, true, true, true, false, false, false, false, false, false, false, false, false, false, false, false, false, false, false] rfl rfl (any_of HT_.out (by kernel_rfl)) (fun _ _ _ h => h) (Or.inl ⟨by rfl, ?_⟩) ?_ ?_
                    rotate_left
                    · intro w'
                      go_simp
                      with_reducible rfl
                    rotate_left
                    · simp only [Act.put, List.setIfInBounds_toArray, List.set_cons_zero, List.set_cons_succ, i64_w, i32_w]
                      rfl
                    refine pure_ (i := 11) (N := some 126) (v := ?_) (a' := ?_) #[true, true, true, true, true, true, true, true, true, true, true, true, false, false, false, false, false, false, false, false, false, false, false, false, false, false] rfl rfl (any_of HT_.out (by kernel_rfl)) (fun _ _ _ h => h) (Or.inl ⟨by rfl, ?_⟩) ?_ ?_
                    rotate_left
                    · intro w'
                      go_simp
                      with_reducible rfl
                    rotate_left
                    · simp only [Act.put, List.setIfInBounds_toArray, List.set_cons_zero, List.set_cons_succ, i64_w, i32_w]
                      rfl
                    refine pure_ (i := 13) (N := some 128) (v := ?_) (a' := ?_) #[true, true, true, true, true, true, true, true, true, true, true, true, false, true, false, false, false, false, false, false, false, false, false, false, false, false] rfl rfl (any_of HT_.out (by kernel_rfl)) (fun _ _ _ h => h) (Or.inl ⟨by rfl, ?_⟩) ?_ ?_
                    rotate_left
                    · intro w'
                      go_simp
                      with_reducible rfl
                    rotate_left
                    · simp only [Act.put, List.setIfInBounds_toArray, List.set_cons_zero, List.set_cons_succ, i64_w, i32_w]
                      rfl
                    refine pure_ (i := 16) (N := some 131) (v := ?_) (a' := ?_) #[true, true, true, true, true, true, true, true, true, true, true, true, false, true, false, false, true, false, false, false, false, false, false, false, false, false] rfl rfl (any_of HT_.out (by kernel_rfl)) (fun _ _ _ h => h) (Or.inl ⟨by rfl, ?_⟩) ?_ ?_
                    rotate_left
                    · intro w'
                      go_simp
                      with_reducible rfl
                    rotate_left
                    · simp only [Act.put, List.setIfInBounds_toArray, List.set_cons_zero, List.set_cons_succ, i64_w, i32_w]
                      rfl
                    refine take_ (i := 12) (N := some 127) (v := ?_) (a' := ?_) #[true, true, true, true, true, true, true, true, true, true, true, true, true, true, false, false, true, false, false, false, false, false, false, false, false, false] rfl rfl (take_ofW HT_.out HW_.out (by kernel_rfl)) (fun _ _ _ h => h) (Or.inl ⟨by rfl, ?_⟩) hHeld ?_ ?_
                    rotate_left
                    · rintro w' ⟨s0, s1, s2⟩
                      go_simp
                      with_reducible rfl
                    rotate_left
                    · simp only [Act.put, List.setIfInBounds_toArray, List.set_cons_zero, List.set_cons_succ, i64_w, i32_w]
                      rfl
                    refine take_ (i := 15) (N := some 130) (v := ?_) (a' := ?_) #[true, true, true, true, true, true, true, true, true, true, true, true, true, true, false, true, true, false, false, false, false, false, false, false, false, false] rfl rfl (take_ofW HT_.out HW_.out (by kernel_rfl)) (fun _ _ _ h => h) (Or.inl ⟨by rfl, ?_⟩) hHeld ?_ ?_
                    rotate_left
                    · rintro w' ⟨s0, s1, s2⟩
                      go_simp
                      with_reducible rfl
                    rotate_left
                    · simp only [Act.put, List.setIfInBounds_toArray, List.set_cons_zero, List.set_cons_succ, i64_w, i32_w]
                      rfl
                    refine one_ (i := 14) (N := some 129) #[true, true, true, true, true, true, true, true, true, true, true, true, true, true, true, true, true, false, false, false, false, false, false, false, false, false] rfl rfl (one_of HT_.out (by kernel_rfl)) (by decide) (fun K hK => ?_)
                    refine goes_ Try.func39 (by kernel_rfl) rfl #[.agg #[.int .i64 a3_0, .int .i64 a3_1, .slice A3_2 l3_2.length c3_2], .slice A4 l4.length c4] (by rfl) rfl rfl (by (try simp only [List.map_toArray, List.map_cons, List.map_nil]); first | done | rfl | (simp only [List.length_drop, List.length_take]; rfl)) ?_
                    with_reducible refine (chain_Have.calls a3_0 a3_1 _ _ l3_2 _ _ l4 t216 _ ?side1 ?side2 ?side3 ?side4 A109.out).mono ?_
                    (case side1 => repeat (first | exact (Kd.C_below HR3_2.out (by repeat (first | (with_reducible first | exact HB.out | apply below_alloc | apply pw_below_drewN | apply below_drew1 | refine below_set ?_ GE168.out | refine below_set ?_ GE190.out | refine below_set ?_ GE200.out) | exact HB.out))) | (with_reducible refine Kd.C_alloc ?_ _) | (with_reducible refine Kd.C_drewN ?_ _) | (with_reducible refine Kd.C_drew ?_)))
                    (case side2 => exact HC3_2.out)
                    (case side3 => repeat (first | exact (Kd.C_below HR4.out (by repeat (first | (with_reducible first | exact HB.out | apply below_alloc | apply pw_below_drewN | apply below_drew1 | refine below_set ?_ GE168.out | refine below_set ?_ GE190.out | refine below_set ?_ GE200.out) | exact HB.out))) | (with_reducible refine Kd.C_alloc ?_ _) | (with_reducible refine Kd.C_drewN ?_ _) | (with_reducible refine Kd.C_drew ?_)))
                    (case side4 => exact HC4.out)
                    rintro e w120 ⟨v217, rfl, ho0, hb⟩
                    refine ⟨_, rfl, ?_⟩
                    have n0_ := Aside0.mk (Kd.R_below (by (with_reducible repeat (first | apply Kd.R_alloc | apply Kd.R_drewN | apply Kd.R_drew)); exact HO_11.out) hb)
                    have n1_ := Aside0.mk (Kd.R_elder' (by (with_reducible repeat (first | apply Kd.R_alloc | apply Kd.R_drewN | apply Kd.R_drew)); exact HO_191002.out) (Kd.R_base ho0) hb)
                    have n2_ := Aside0.mk (Kd.R_elder' (by (with_reducible repeat (first | apply Kd.R_alloc | apply Kd.R_drewN | apply Kd.R_drew)); exact HO_201002.out) (Kd.R_base ho0) hb)
                    have n3_ := Aside0.mk (Kd.R_elder' (by (with_reducible repeat (first | apply Kd.R_alloc | apply Kd.R_drewN | apply Kd.R_drew)); exact HO211.out) (Kd.R_base ho0) hb)
                    have n4_ := Aside0.mk (Kd.R_elder' (by (with_reducible repeat (first | apply Kd.R_alloc | apply Kd.R_drewN | apply Kd.R_drew)); exact HO214.out) (Kd.R_base ho0) hb)
                    have n5_ := Aside0.mk (Kd.R_lower (Kd.R_new' (Kd.R_new' (Kd.R_new' (Kd.R_new' ho0 (Kd.R_lt (by (with_reducible repeat (first | apply Kd.R_alloc | apply Kd.R_drewN | apply Kd.R_drew)); exact HO_191002.out))) (Kd.R_lt (by (with_reducible repeat (first | apply Kd.R_alloc | apply Kd.R_drewN | apply Kd.R_drew)); exact HO_201002.out))) (Kd.R_lt (by (with_reducible repeat (first | apply Kd.R_alloc | apply Kd.R_drewN | apply Kd.R_drew)); exact HO211.out))) (Kd.R_lt (by (with_reducible repeat (first | apply Kd.R_alloc | apply Kd.R_drewN | apply Kd.R_drew)); exact HO214.out))) (below_size (by repeat (first | (with_reducible first | exact HB.out | apply below_alloc | apply pw_below_drewN | apply below_drew1 | refine below_set ?_ GE168.out | refine below_set ?_ GE190.out | refine below_set ?_ GE200.out) | exact HB.out))))
                    have n6_ := Aside0.mk (blk_below (g := gb168) (o := .cells #[.int .i64 a3_0, .int .i64 a3_1, .slice A3_2 l3_2.length c3_2] 24 (0, 0)) (by (with_reducible repeat (first | refine blk_drewN ?_ _ | refine blk_drew ?_ | refine blk_alloc ?_ _)); exact BK168.out) hb)
                    have n7_ := Aside0.mk (blk_below (g := gb190) (o := .cells #[.int .i64 t181, .int .i64 t182, .slice Ao29 t183.length co29] 24 (0, 0)) (by (with_reducible repeat (first | refine blk_drewN ?_ _ | refine blk_drew ?_ | refine blk_alloc ?_ _)); exact BK190.out) hb)
                    have n8_ := Aside0.mk (blk_below (g := gb200) (o := .cells #[.int .i64 t191, .int .i64 t192, .slice Ao35 t193.length co35] 24 (0, 0)) (by (with_reducible repeat (first | refine blk_drewN ?_ _ | refine blk_drew ?_ | refine blk_alloc ?_ _)); exact BK200.out) hb)
                    have n9_ := Aside0.mk (below_step (by repeat (first | (with_reducible first | exact HB.out | apply below_alloc | apply pw_below_drewN | apply below_drew1 | refine below_set ?_ GE168.out | refine below_set ?_ GE190.out | refine below_set ?_ GE200.out) | exact HB.out)) hb)
                    clear HO_11
                    clear HO_191002
                    clear HO_201002
                    clear HO211
                    clear HO214
                    clear BK168
                    clear BK190
                    clear BK200
                    clear HB
                    have HO_11 := n0_
                    have HO_191002 := n1_
                    have HO_201002 := n2_
                    have HO211 := n3_
                    have HO214 := n4_
                    have HO218 := n5_
                    have BK168 := n6_
                    have BK190 := n7_
                    have BK200 := n8_
                    have HB := n9_
                    clear n0_ n1_ n2_ n3_ n4_ n5_ n6_ n7_ n8_ n9_
                    (try clear hb)
                    (try clear hb2)
                    (try clear hk)
                    (try clear hi)
                    (try clear ho0)
                    refine hK.out _ _ ⟨(blk_cell BK168.out 0).trans rfl, (blk_cell BK168.out 1).trans rfl, (blk_cell BK168.out 2).trans rfl⟩ (fun hHeld => ?_)
                    clear hK K
                    refine norm_ (a' := ?_) ?_ ?_
                    rotate_left
                    · show Act.put _ (some 129) _ = _
                      simp only [Act.put, List.setIfInBounds_toArray, List.set_cons_zero, List.set_cons_succ, i64_w, i32_w]
                      rfl
                    refine one_ (i := 17) (N := some 132) #[true, true, true, true, true, true, true, true, true, true, true, true, true, true, true, true, true, true, false, false, false, false, false, false, false, false] rfl rfl (one_of HT_.out (by kernel_rfl)) (by decide) (fun K hK => ?_)
                    refine goes_ Try.func40 (by kernel_rfl) rfl #[.agg #[.int .i64 a3_0, .int .i64 a3_1, .slice A3_2 l3_2.length c3_2], .slice Ao39 t170.length co39] (by rfl) rfl rfl (by (try simp only [List.map_toArray, List.map_cons, List.map_nil]); first | done | rfl | (simp only [List.length_drop, List.length_take]; rfl)) ?_
                    with_reducible refine (sextonref13_Have.calls kj20 a3_0 a3_1 _ _ l3_2 _ _ t170 t219 _ ?side1 ?side2 ?side3 ?side4 A110.out).mono ?_
                    (case side1 => repeat (first | exact (Kd.C_below HR3_2.out HB.out) | (with_reducible refine Kd.C_alloc ?_ _) | (with_reducible refine Kd.C_drewN ?_ _) | (with_reducible refine Kd.C_drew ?_)))
                    (case side2 => exact HC3_2.out)
                    (case side3 => repeat (first | exact (Kd.R_reads' HO_11.out).2.2 | (with_reducible refine Kd.C_alloc ?_ _) | (with_reducible refine Kd.C_drewN ?_ _) | (with_reducible refine Kd.C_drew ?_)))
                    (case side4 => exact (Kd.R_reads' HO_11.out).2.1)
                    rintro e w121 ⟨v220, rfl, ho0, hb⟩
                    refine ⟨_, rfl, ?_⟩
                    have n0_ := Aside0.mk (Kd.R_below (by (with_reducible repeat (first | apply Kd.R_alloc | apply Kd.R_drewN | apply Kd.R_drew)); exact HO_11.out) hb)
                    have n1_ := Aside0.mk (Kd.R_elder' (by (with_reducible repeat (first | apply Kd.R_alloc | apply Kd.R_drewN | apply Kd.R_drew)); exact HO_191002.out) (Kd.R_base ho0) hb)
                    have n2_ := Aside0.mk (Kd.R_elder' (by (with_reducible repeat (first | apply Kd.R_alloc | apply Kd.R_drewN | apply Kd.R_drew)); exact HO_201002.out) (Kd.R_base ho0) hb)
                    have n3_ := Aside0.mk (Kd.R_elder' (by (with_reducible repeat (first | apply Kd.R_alloc | apply Kd.R_drewN | apply Kd.R_drew)); exact HO211.out) (Kd.R_base ho0) hb)
                    have n4_ := Aside0.mk (Kd.R_elder' (by (with_reducible repeat (first | apply Kd.R_alloc | apply Kd.R_drewN | apply Kd.R_drew)); exact HO214.out) (Kd.R_base ho0) hb)
                    have n5_ := Aside0.mk (Kd.R_elder' (by (with_reducible repeat (first | apply Kd.R_alloc | apply Kd.R_drewN | apply Kd.R_drew)); exact HO218.out) (Kd.R_base ho0) hb)
                    have n6_ := Aside0.mk (Kd.R_lower (Kd.R_new' (Kd.R_new' (Kd.R_new' (Kd.R_new' (Kd.R_new' ho0 (Kd.R_lt (by (with_reducible repeat (first | apply Kd.R_alloc | apply Kd.R_drewN | apply Kd.R_drew)); exact HO_191002.out))) (Kd.R_lt (by (with_reducible repeat (first | apply Kd.R_alloc | apply Kd.R_drewN | apply Kd.R_drew)); exact HO_201002.out))) (Kd.R_lt (by (with_reducible repeat (first | apply Kd.R_alloc | apply Kd.R_drewN | apply Kd.R_drew)); exact HO211.out))) (Kd.R_lt (by (with_reducible repeat (first | apply Kd.R_alloc | apply Kd.R_drewN | apply Kd.R_drew)); exact HO214.out))) (Kd.R_lt (by (with_reducible repeat (first | apply Kd.R_alloc | apply Kd.R_drewN | apply Kd.R_drew)); exact HO218.out))) (below_size (by repeat (first | (with_reducible first | exact HB.out | apply below_alloc | apply pw_below_drewN | apply below_drew1 | refine below_set ?_ GE168.out | refine below_set ?_ GE190.out | refine below_set ?_ GE200.out) | exact HB.out))))
                    have n7_ := Aside0.mk (blk_below (g := gb168) (o := .cells #[.int .i64 a3_0, .int .i64 a3_1, .slice A3_2 l3_2.length c3_2] 24 (0, 0)) (by (with_reducible repeat (first | refine blk_drewN ?_ _ | refine blk_drew ?_ | refine blk_alloc ?_ _)); exact BK168.out) hb)
                    have n8_ := Aside0.mk (blk_below (g := gb190) (o := .cells #[.int .i64 t181, .int .i64 t182, .slice Ao29 t183.length co29] 24 (0, 0)) (by (with_reducible repeat (first | refine blk_drewN ?_ _ | refine blk_drew ?_ | refine blk_alloc ?_ _)); exact BK190.out) hb)
                    have n9_ := Aside0.mk (blk_below (g := gb200) (o := .cells #[.int .i64 t191, .int .i64 t192, .slice Ao35 t193.length co35] 24 (0, 0)) (by (with_reducible repeat (first | refine blk_drewN ?_ _ | refine blk_drew ?_ | refine blk_alloc ?_ _)); exact BK200.out) hb)
                    have n10_ := Aside0.mk (below_step (by repeat (first | (with_reducible first | exact HB.out | apply below_alloc | apply pw_below_drewN | apply below_drew1 | refine below_set ?_ GE168.out | refine below_set ?_ GE190.out | refine below_set ?_ GE200.out) | exact HB.out)) hb)
                    clear HO_11
                    clear HO_191002
                    clear HO_201002
                    clear HO211
                    clear HO214
                    clear HO218
                    clear BK168
                    clear BK190
                    clear BK200
                    clear HB
                    have HO_11 := n0_
                    have HO_191002 := n1_
                    have HO_201002 := n2_
                    have HO211 := n3_
                    have HO214 := n4_
                    have HO218 := n5_
                    have HO221 := n6_
                    have BK168 := n7_
                    have BK190 := n8_
                    have BK200 := n9_
                    have HB := n10_
                    clear n0_ n1_ n2_ n3_ n4_ n5_ n6_ n7_ n8_ n9_ n10_
                    (try clear hb)
                    (try clear hb2)
                    (try clear hk)
                    (try clear hi)
                    (try clear ho0)
                    obtain ⟨Ao122, co122, eo122⟩ := Kd.R_slice HO218.out
                    (first | subst eo122 | (injection eo122 with f1_ f2_ f3_; have f4_ := f1_.symm; have f5_ := f3_.symm; clear f1_ f2_ f3_; subst f4_; subst f5_))
                    obtain ⟨Ao123, co123, eo123⟩ := Kd.R_slice HO221.out
                    (first | subst eo123 | (injection eo123 with f1_ f2_ f3_; have f4_ := f1_.symm; have f5_ := f3_.symm; clear f1_ f2_ f3_; subst f4_; subst f5_))
                    refine hK.out _ _ ⟨(blk_cell BK168.out 0).trans rfl, (blk_cell BK168.out 1).trans rfl, (blk_cell BK168.out 2).trans rfl⟩ (fun hHeld => ?_)
                    clear hK K
                    refine norm_ (a' := ?_) ?_ ?_
                    rotate_left
                    · show Act.put _ (some 132) _ = _
                      simp only [Act.put, List.setIfInBounds_toArray, List.set_cons_zero, List.set_cons_succ, i64_w, i32_w]
                      rfl
                    refine one_ (i := 18) (N := some 133) #[true, true, true, true, true, true, true, true, true, true, true, true, true, true, true, true, true, true, true, false, false, false, false, false, false, false] rfl rfl (one_of HT_.out (by kernel_rfl)) (by decide) (fun K hK => ?_)
                    refine goes_ Try.func36 (by kernel_rfl) rfl #[.slice Ao122 t216.length co122, .slice Ao123 t219.length co123] (by rfl) rfl rfl (by (try simp only [List.map_toArray, List.map_cons, List.map_nil]); first | done | rfl | (simp only [List.length_drop, List.length_take]; rfl)) ?_
                    with_reducible refine (sextonref01_Ints.calls kj20 _ _ t216 _ _ t219 true _ ?side1 ?side2 ?side3 ?side4 A111.out).mono ?_
                    (case side1 => repeat (first | exact (Kd.R_reads' HO218.out).2.2 | (with_reducible refine Kd.C_alloc ?_ _) | (with_reducible refine Kd.C_drewN ?_ _) | (with_reducible refine Kd.C_drew ?_)))
                    (case side2 => exact (Kd.R_reads' HO218.out).2.1)
                    (case side3 => repeat (first | exact (Kd.R_reads' HO221.out).2.2 | (with_reducible refine Kd.C_alloc ?_ _) | (with_reducible refine Kd.C_drewN ?_ _) | (with_reducible refine Kd.C_drew ?_)))
                    (case side4 => exact (Kd.R_reads' HO221.out).2.1)
                    rintro e w' ⟨rfl, ⟨nd, rfl⟩⟩
                    refine ⟨_, rfl, ?_⟩
                    refine hK.out _ _ ⟨(blk_cell BK168.out 0).trans rfl, (blk_cell BK168.out 1).trans rfl, (blk_cell BK168.out 2).trans rfl⟩ (fun hHeld => ?_)
                    clear hK K
                    refine norm_ (a' := ?_) ?_ ?_
                    rotate_left
                    · show Act.put _ (some 133) _ = _
                      simp only [Act.put, List.setIfInBounds_toArray, List.set_cons_zero, List.set_cons_succ, i64_w, i32_w]
                      rfl
                    refine pure_ (i := 19) (N := some 134) (v := ?_) (a' := ?_) #[true, true, true, true, true, true, true, true, true, true, true, true, true, true, true, true, true, true, true, true, false, false, false, false, false, false] rfl rfl (any_of HT_.out (by kernel_rfl)) (fun _ _ _ h => h) (Or.inl ⟨by rfl, ?_⟩) ?_ ?_
                    rotate_left
                    · intro w'
                      go_simp
                      with_reducible rfl
                    rotate_left
                    · simp only [Act.put, List.setIfInBounds_toArray, List.set_cons_zero, List.set_cons_succ, i64_w, i32_w]
                      rfl
                    refine pure_ (i := 20) (N := some 135) (v := ?_) (a' := ?_) #[true, true, true, true, true, true, true, true, true, true, true, true, true, true, true, true, true, true, true, true, true, false, false, false, false, false] rfl rfl (any_of HT_.out (by kernel_rfl)) (fun _ _ _ h => h) (Or.inl ⟨by rfl, ?_⟩) ?_ ?_
                    rotate_left
                    · intro w'
                      go_simp
                      with_reducible rfl
                    rotate_left
                    · simp only [Act.put, List.setIfInBounds_toArray, List.set_cons_zero, List.set_cons_succ, i64_w, i32_w]
                      rfl
                    refine pure_ (i := 21) (N := some 136) (v := ?_) (a' := ?_) #[true, true, true, true, true, true, true, true, true, true, true, true, true, true, true, true, true, true, true, true, true, true, false, false, false, false] rfl rfl (any_of HT_.out (by kernel_rfl)) (fun _ _ _ h => h) (Or.inl ⟨by rfl, ?_⟩) ?_ ?_
                    rotate_left
                    · intro w'
                      go_simp
                      with_reducible rfl
                    rotate_left
                    · simp only [Act.put, List.setIfInBounds_toArray, List.set_cons_zero, List.set_cons_succ, i64_w, i32_w]
                      rfl
                    refine pure_ (i := 22) (N := some 137) (v := ?_) (a' := ?_) #[true, true, true, true, true, true, true, true, true, true, true, true, true, true, true, true, true, true, true, true, true, true, true, false, false, false] rfl rfl (any_of HT_.out (by kernel_rfl)) (fun _ _ _ h => h) (Or.inl ⟨by rfl, ?_⟩) ?_ ?_
                    rotate_left
                    · intro w'
                      go_simp
                      with_reducible rfl
                    rotate_left
                    · simp only [Act.put, List.setIfInBounds_toArray, List.set_cons_zero, List.set_cons_succ, i64_w, i32_w]
                      rfl
                    refine one_ (i := 23) (N := some 138) #[true, true, true, true, true, true, true, true, true, true, true, true, true, true, true, true, true, true, true, true, true, true, true, true, false, false] rfl rfl (one_of HT_.out (by kernel_rfl)) (by decide) (fun K hK => ?_)
                    refine goes_ Try.func34 (by kernel_rfl) rfl #[.slice A4 l4.length c4, .slice Ao39 t170.length co39] (by rfl) rfl rfl (by (try simp only [List.map_toArray, List.map_cons, List.map_nil]); first | done | rfl | (simp only [List.length_drop, List.length_take]; rfl)) ?_
                    with_reducible refine (sextonref01_Texts.calls kj20 _ _ l4 _ _ t170 t223 _ ?side1 ?side2 ?side3 ?side4 A113.out).mono ?_
                    (case side1 => repeat (first | exact (Kd.C_below HR4.out (by repeat (first | (with_reducible first | exact HB.out | apply below_alloc | apply pw_below_drewN | apply below_drew1 | refine below_set ?_ GE168.out | refine below_set ?_ GE190.out | refine below_set ?_ GE200.out) | exact HB.out))) | (with_reducible refine Kd.C_alloc ?_ _) | (with_reducible refine Kd.C_drewN ?_ _) | (with_reducible refine Kd.C_drew ?_)))
                    (case side2 => exact HC4.out)
                    (case side3 => repeat (first | exact (Kd.R_reads' HO_11.out).2.2 | (with_reducible refine Kd.C_alloc ?_ _) | (with_reducible refine Kd.C_drewN ?_ _) | (with_reducible refine Kd.C_drew ?_)))
                    (case side4 => exact (Kd.R_reads' HO_11.out).2.1)
                    rintro e w' ⟨rfl, ⟨nd, rfl⟩⟩
                    refine ⟨_, rfl, ?_⟩
                    refine hK.out _ _ ⟨(blk_cell BK168.out 0).trans rfl, (blk_cell BK168.out 1).trans rfl, (blk_cell BK168.out 2).trans rfl⟩ (fun hHeld => ?_)
                    clear hK K
                    refine norm_ (a' := ?_) ?_ ?_
                    rotate_left
                    · show Act.put _ (some 138) _ = _
                      simp only [Act.put, List.setIfInBounds_toArray, List.set_cons_zero, List.set_cons_succ, i64_w, i32_w]
                      rfl
                    refine pure_ (i := 24) (N := some 139) (v := ?_) (a' := ?_) #[true, true, true, true, true, true, true, true, true, true, true, true, true, true, true, true, true, true, true, true, true, true, true, true, true, false] rfl rfl (any_of HT_.out (by kernel_rfl)) (fun _ _ _ h => h) (Or.inl ⟨by rfl, ?_⟩) ?_ ?_
                    rotate_left
                    · intro w'
                      go_simp
                      with_reducible rfl
                    rotate_left
                    · simp only [Act.put, List.setIfInBounds_toArray, List.set_cons_zero, List.set_cons_succ, i64_w, i32_w]
                      rfl
                    refine pure_ (i := 25) (N := some 10) (v := ?_) (a' := ?_) #[true, true, true, true, true, true, true, true, true, true, true, true, true, true, true, true, true, true, true, true, true, true, true, true, true, true] rfl rfl (any_of HT_.out (by kernel_rfl)) (fun _ _ _ h => h) (Or.inl ⟨by rfl, ?_⟩) ?_ ?_
                    rotate_left
                    · intro w'
                      go_simp
                      with_reducible rfl
                    rotate_left
                    · simp only [Act.put, List.setIfInBounds_toArray, List.set_cons_zero, List.set_cons_succ, i64_w, i32_w]
                      rfl
                    refine done_ (done_of HT_.out (by kernel_rfl)) ?_
                    try go_wp2
                    go_ret
                    exact ⟨by first | rfl | (simp [errW_none, errW_some] <;> rfl) | (simp [*, errW_none, errW_some] <;> rfl), by repeat (first | (with_reducible first | exact HB.out | apply below_alloc | apply pw_below_drewN | apply below_drew1 | refine below_set ?_ GE168.out | refine below_set ?_ GE190.out | refine below_set ?_ GE200.out) | exact HB.out)⟩
                  · replace c112 := Bool.eq_false_iff.mpr c112
                    subst c112
                    have H1 : (some false) = some r := by rw [if_neg (show ¬ (false = true) by decide)] at H; exact H
                    exact absurd (H1.trans (congrArg some HRT.out)) (by decide)
                · replace c108 := Bool.eq_false_iff.mpr c108
                  subst c108
                  have H1 : (some false) = some r := by rw [if_neg (show ¬ (false = true) by decide)] at H; exact H
                  exact absurd (H1.trans (congrArg some HRT.out)) (by decide)
              · replace c104 := Bool.eq_false_iff.mpr c104
                subst c104
                have H1 : (some false) = some r := by rw [if_neg (show ¬ (false = true) by decide)] at H; exact H
                exact absurd (H1.trans (congrArg some HRT.out)) (by decide)
            · replace c103 := Bool.eq_false_iff.mpr c103
              subst c103
              have H1 : (some false) = some r := by rw [if_neg (show ¬ (false = true) by decide)] at H; exact H
              exact absurd (H1.trans (congrArg some HRT.out)) (by decide)

end Go.Proofs.Ytfdpebipnapelaa.P
/-
  The plain statement of ChainDoes: a text is cut and described just so; chunks are just this, or not whole.
-/
namespace Go.Proofs.Ytfdpebipnapelaa.Pure
open Go.RowKit Go.Proofs Go.Proofs.CodecPlain Go.Proofs.YtfdpebipnapelaaW.PrintWords Go.Proofs.YtfdpebipnapelaaW.PrintLast Go.Proofs.Ytfdpebipnapelaa.P Go.Proofs.Ytfdpebipnapelaa.Opens

theorem dfar_l0 (l : List ByteArray) (hl : l.length ≤ 9223372036854775807) (d : Nat) : ∀ i, i + d = l.length → ∃ b, Ev (fun k => sextonlaw13_far.l0 k l (i : Int)) b ∧ (b = false → (∀ j, i ≤ j → ∀ h : j < l.length, l[j].size ≤ 200) ∧ l.length ≤ 30) := by
  induction d with
  | zero =>
    intro i hi
    refine ⟨decide ((l.length : Int) > 30), Ev.step (f := fun _ => some _) (fun r => ?_) (Ev.now _), fun hb => ⟨fun j h1 h2 => by omega, ?_⟩⟩
    · simp only [sextonlaw13_far.l0]
      rw [if_neg (by omega)]
    · have := of_decide_eq_false hb; omega
  | succ d ih =>
    intro i hi
    have hlt : i < l.length := by omega
    have hrd : rdOf ByteArray.empty l (i : Int) = l[i] := by simp [rdOf, List.getD_eq_getElem?_getD, hlt]
    have hw : wrap64 ((i : Int) + 1) = ((i + 1 : Nat) : Int) := wrap_id (by omega) (by omega)
    by_cases hc : (l[i].size : Int) > 200
    · refine ⟨true, Ev.step (f := fun _ => some _) (fun r => ?_) (Ev.now _), fun hb => by cases hb⟩
      simp only [sextonlaw13_far.l0]
      rw [if_pos (by omega), if_pos (by omega), hrd, if_pos hc]
    · obtain ⟨b, hb1, hb2⟩ := ih (i + 1) (by omega)
      refine ⟨b, Ev.step (f := fun r => sextonlaw13_far.l0 r l ((i + 1 : Nat) : Int)) (fun r => ?_) hb1, fun hb => ⟨fun j h1 h2 => ?_, (hb2 hb).2⟩⟩
      · simp only [sextonlaw13_far.l0]
        rw [if_pos (by omega), if_pos (by omega), hrd, if_neg hc, hw]
      · rcases Nat.eq_or_lt_of_le h1 with rfl | h
        · omega
        · exact (hb2 hb).1 j (by omega) h2
theorem dfar_ev (l : List ByteArray) (hl : l.length ≤ 9223372036854775807) : ∃ b, Ev (fun k => sextonlaw13_far.f k l) b ∧ (b = false → (∀ s ∈ l, s.size ≤ 200) ∧ l.length ≤ 30) := by
  obtain ⟨b, h1, h2⟩ := dfar_l0 l hl l.length 0 (by omega)
  refine ⟨b, h1, fun hb => ⟨fun s hs => ?_, (h2 hb).2⟩⟩
  obtain ⟨j, hj, rfl⟩ := List.getElem_of_mem hs
  exact (h2 hb).1 j (by omega) hj
theorem does_j1 (l : List ByteArray) (a b : Int) (m : List Int) (hl : l.length ≤ 30) (hs : ∀ s ∈ l, s.size ≤ 200) (hm : m.length ≤ 40) (hi : m.all inI = true) : Ev (fun k => sextonlaw13_ChainDoes.j1 k l l true a b m) true := by
  have hs' : ∀ s ∈ l, s.size ≤ 1000000000 := fun s h => by have := hs s h; omega
  have hk := haveK_length l m m.length
  obtain ⟨K1, h1⟩ := refSums l (by omega) hs'
  obtain ⟨K2, h2⟩ := ints_ev (l.map sumV) (l.map sumV) (by rw [List.length_map]; omega)
  obtain ⟨K3, h3⟩ := refHave a b m l (by omega) (by omega) hs'
  obtain ⟨K4, h4⟩ := ints_ev (haveK l m m.length) (haveK l m m.length) (by omega)
  obtain ⟨K5, h5⟩ := refTexts l l (by omega)
  simp only at h1 h2 h3 h4 h5
  refine ⟨K1 + K2 + K3 + K4 + K5 + 1, fun k hk => ?_⟩
  obtain ⟨k, rfl⟩ : ∃ m, k = m + 1 := ⟨k - 1, by omega⟩
  simp only [sextonlaw13_ChainDoes.j1, sextonlaw13_cut.f]
  rw [Option.bind_some, if_pos rfl, if_pos trivial, sums_f (by omega) hs', Option.bind_some, h1 k (by omega), Option.bind_some, h2 k (by omega), Option.bind_some, if_pos (by simp), have_f a b (by omega) hs' (by omega) hi, Option.bind_some, h3 k (by omega), Option.bind_some, h4 k (by omega), Option.bind_some, if_pos (by simp), h5 k (by omega), Option.bind_some]
  simp
theorem ChainDoes (a0 : ByteArray) (a1 : Int) (a2 : Int) (a3_0 : Int) (a3_1 : Int) (l3_2 : (List Int)) (l4 : (List ByteArray)) {okp : Prop} (h0 : okp) {okq : Prop} (h1 : okq) {okr : Prop} (h2 : okr) {ok0 : Int → Prop} (h3 : (OkPair ok0 (OkPair ok0 (OkList (OkInt .i64)))) (a3_0, a3_1, l3_2)) {ok : ByteArray → Prop} (h4 : (OkList ok) l4) :
    ∃ k, sextonlaw13_ChainDoes.f k a0 a1 a2 a3_0 a3_1 l3_2 l4 = some true := by
  have out : ∀ k, sextonlaw13_ChainDoes.j0 (k + 1) a0 a1 a2 l4 true a3_0 a3_1 l3_2 = some true := fun k => by
    simp only [sextonlaw13_ChainDoes.j0]
    rw [if_pos trivial]
  by_cases hs : (a0.size : Int) > 200
  · refine ⟨1, ?_⟩
    unfold sextonlaw13_ChainDoes.f
    rw [if_pos hs]
    exact out 0
  by_cases hm : (l3_2.length : Int) > 40
  · refine ⟨1, ?_⟩
    unfold sextonlaw13_ChainDoes.f
    rw [if_neg hs, if_pos hm]
    exact out 0
  obtain ⟨b, ⟨K, hK⟩, hb⟩ := dfar_ev l4 h4.1
  simp only at hK
  cases b
  rotate_left
  · refine ⟨K + 1, ?_⟩
    unfold sextonlaw13_ChainDoes.f
    rw [if_neg hs, if_neg hm, hK _ (by omega), Option.bind_some]
    exact out K
  obtain ⟨hsz, hlen⟩ := hb rfl
  have hs' : ∀ s ∈ l4, s.size ≤ 1000000000 := fun s h => by have := hsz s h; omega
  have hin : l3_2.all inI = true := by
    rw [List.all_eq_true]
    intro n hn
    have := h3.2.2.2 n hn
    unfold OkInt at this
    simp only [Lit.wf, Bool.and_eq_true, decide_eq_true_eq] at this
    unfold inI
    rw [decide_eq_true (show -9223372036854775808 ≤ n from this.1), decide_eq_true (show n ≤ 9223372036854775807 from this.2)]
    rfl
  have hown : sextonref01_Own.f l4 = some l4 := by
    unfold sextonref01_Own.f
    rw [if_pos (by simp only [List.length_nil]; omega)]
    rfl
  obtain ⟨⟨c, e⟩, hc, ⟨K1, q1⟩, hc1, _⟩ := refCut a0 a1 (by omega)
  obtain ⟨⟨d0, d1, d2, d3, d4⟩, hd, ⟨K2, q2⟩, hd1, hd2⟩ := refDescribe a0 a1 a2 (by omega)
  have hw := whole_f a3_0 a3_1 (m := l3_2) (l := l4) (by omega) hs' (by omega)
  obtain ⟨K3, q3⟩ := refWhole a3_0 a3_1 l3_2 l4 (by omega) (by omega) hs'
  obtain ⟨⟨t, f⟩, hv⟩ : ∃ v, wholeV a3_0 a3_1 l3_2 l4 = v := ⟨_, rfl⟩
  rw [hv] at hw q3
  simp only at hc1 hd1 hd2
  obtain ⟨K4, q4⟩ := refTexts c c (by omega)
  obtain ⟨K5, q5⟩ := same12 d0 d1 d2 d0 d1 d2 (by omega)
  obtain ⟨K6, q6⟩ := refTexts d3 d3 (by omega)
  obtain ⟨K7, q7⟩ := does_j1 l4 a3_0 a3_1 l3_2 hlen hsz (by omega) hin
  simp only at q1 q2 q3 q4 q5 q6 q7
  refine ⟨K + K1 + K2 + K3 + K4 + K5 + K6 + K7 + 20 + 1, ?_⟩
  unfold sextonlaw13_ChainDoes.f
  rw [if_neg hs, if_neg hm, hK _ (by omega), Option.bind_some]
  simp only [sextonlaw13_ChainDoes.j0]
  rw [if_neg (by decide), hown, Option.bind_some, hc, Option.bind_some, q1 _ (by omega), Option.bind_some, hd _ (by omega), Option.bind_some, q2 _ (by omega), Option.bind_some, hw, Option.bind_some, q3 _ (by omega), Option.bind_some]
  rw [q4 _ (by omega), Option.bind_some, if_pos (by simp), if_pos rfl, q5 _ (by omega), Option.bind_some, if_pos (by simp), q6 _ (by omega), Option.bind_some, if_pos (by simp), if_pos rfl, if_pos rfl]
  rw [show ((f == f) = true) from by simp]
  exact q7 _ (by omega)
end Go.Proofs.Ytfdpebipnapelaa.Pure
