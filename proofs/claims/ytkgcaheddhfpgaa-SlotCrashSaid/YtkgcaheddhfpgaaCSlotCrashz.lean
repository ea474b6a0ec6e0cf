/-
  The walk and the plain statement of SlotCrash, joined.
-/
import Derived.Test.YtkgcaheddhfpgaaPx0
import Derived.Test.YtkgcaheddhfpgaaC06a
import Derived.Test.YtkgcaheddhfpgaaC06b
import Derived.Test.YtkgcaheddhfpgaaC06e
import Derived.Test.YtkgcaheddhfpgaaC06f
import Derived.Test.YtkgcaheddhfpgaaC06g
import Derived.Test.YtkgcaheddhfpgaaC06h
set_option linter.unusedVariables false
set_option linter.unusedSimpArgs false
/-
  The walk of SlotCrash, by the print; the ways that would answer false are closed.
-/
namespace Go.Proofs.Ytkgcaheddhfpgaa.P
open Go.RowKit Go.Proofs.YtkgcaheddhfpgaaW.PrintWords Go.Proofs.YtkgcaheddhfpgaaW.PrintLast Go.Proofs.YtkgcaheddhfpgaaW.PrintMore
attribute [local go_sem] max2_int min2_int max_two min_two max_three min_three max_four min_four   -- for this text's walks alone
set_option linter.unusedVariables false
set_option linter.unusedSimpArgs false

/-! ### sextonlaw06_SlotCrash: function 9 -/
mutual
def sextonlaw06_SlotCrash.j0 : Nat → List ByteArray → Int → List Bool → Bool → List ByteArray → List (S73) → Option (Bool)
  | 0, _, _, _, _, _, _ => none
  | k + 1, x1, x2, x3, x34, x258000, x258001 => if x34 = true then (some true) else ((slot_Load.f x258000 x258001).bind fun bt259 => ((slot_Save.f x258000 x258001 x1 x2).bind fun bt264 => (if bt259.2.2 = 0 then (sextonlaw06_SlotCrash.j1 k x1 x3 bt259.1 bt259.2.1 bt264.2.2.1 (bt264.2.2.2 != 0) bt264.1 bt264.2.1) else (sextonlaw06_SlotCrash.j1 k x1 x3 bt259.1 bt259.2.1 bt264.2.2.1 true bt264.1 bt264.2.1))))
def sextonlaw06_SlotCrash.j1 : Nat → List ByteArray → List Bool → List ByteArray → Int → Bool → Bool → List ByteArray → List (S73) → Option (Bool)
  | 0, _, _, _, _, _, _, _, _ => none
  | k + 1, x1, x3, x9, x10, x13, x54, x273000, x273001 => if x54 = true then ((sextonlaw06_shelved.f).bind fun t273 => (some t273)) else ((disk_Crash.f x273000 x273001 x3).bind fun bt274 => ((slot_Load.f bt274.1 bt274.2.1).bind fun bt282 => (if bt274.2.2 = 0 then (sextonlaw06_SlotCrash.j2 k x1 x9 x10 x13 bt282.1 bt282.2.1 (bt282.2.2 != 0)) else (sextonlaw06_SlotCrash.j2 k x1 x9 x10 x13 bt282.1 bt282.2.1 true))))
def sextonlaw06_SlotCrash.j2 : Nat → List ByteArray → List ByteArray → Int → Bool → List ByteArray → Int → Bool → Option (Bool)
  | 0, _, _, _, _, _, _, _ => none
  | k + 1, x1, x9, x10, x13, x17, x18, x73 => if x73 = true then (some false) else (if (wrap64 (x18 - 1)) = x10 then ((sextonref01_Texts.f k x17 x1).bind fun t287 => ((sextonlaw06_shelved.f).bind fun t288 => (if t288 = true then (if t287 = true then (some true) else (if x13 = true then (some false) else (if x18 = x10 then ((sextonref01_Texts.f k x17 x9).bind fun t289 => (some t289)) else (some false)))) else (some false)))) else ((sextonlaw06_shelved.f).bind fun t290 => (if t290 = true then (if x13 = true then (some false) else (if x18 = x10 then ((sextonref01_Texts.f k x17 x9).bind fun t291 => (some t291)) else (some false))) else (some false))))
end
def sextonlaw06_SlotCrash.f (k : Nat) (l0_0 : List ByteArray) (l0_1 : List (S73)) (l1 : List ByteArray) (a2 : Int) (l3 : List Bool) : Option (Bool) := (sextonlaw06_far.f k l0_0 l0_1 l1).bind fun t258 => (if t258 = true then (sextonlaw06_SlotCrash.j0 k l1 a2 l3 true l0_0 l0_1) else (if (l0_1.length : Int) > 0 then (sextonlaw06_SlotCrash.j0 k l1 a2 l3 true l0_0 l0_1) else (sextonlaw06_SlotCrash.j0 k l1 a2 l3 (decide ((l3.length : Int) > 200)) l0_0 l0_1)))
set_option maxHeartbeats 8000000 in
set_option maxRecDepth 100000 in
theorem sextonlaw06_SlotCrash.calls (k : Nat) (A0_0 : Option Addr) (c0_0 : Nat) (l0_0 : List ByteArray) (A0_1 : Option Addr) (c0_1 : Nat) (l0_1 : List (S73)) (A1 : Option Addr) (c1 : Nat) (l1 : List ByteArray) (a2 : Int) (A3 : Option Addr) (c3 : Nat) (l3 : List Bool) (r : Bool) (hrt : r = true := by rfl) (w : World) (hr0_0 : Kd.C Kd.string w A0_0 l0_0.length l0_0) (hc0_0 : l0_0.length ≤ c0_0) (hr0_1 : Kd.C k73 w A0_1 l0_1.length l0_1) (hc0_1 : l0_1.length ≤ c0_1) (hr1 : Kd.C Kd.string w A1 l1.length l1) (hc1 : l1.length ≤ c1) (hr3 : Kd.C Kd.bool w A3 l3.length l3) (hc3 : l3.length ≤ c3) (h : sextonlaw06_SlotCrash.f k l0_0 l0_1 l1 a2 l3 = some r) :
    Calls Try.prog 9 #[.agg #[.slice A0_0 l0_0.length c0_0, .slice A0_1 l0_1.length c0_1], .slice A1 l1.length c1, .int .i64 a2, .slice A3 l3.length c3] w fun e w' => e = .returned (.bool r) ∧ Below w.heap.size w w' := by
  have HRT := Aside0.mk hrt
  have hu25 := Try.underlying25
  have HR0_0 := Aside0.mk hr0_0
  have HC0_0 := Aside0.mk hc0_0
  clear hr0_0 hc0_0
  have HR0_1 := Aside0.mk hr0_1
  have HC0_1 := Aside0.mk hc0_1
  clear hr0_1 hc0_1
  have HR1 := Aside0.mk hr1
  have HC1 := Aside0.mk hc1
  clear hr1 hc1
  have HR3 := Aside0.mk hr3
  have HC3 := Aside0.mk hc3
  clear hr3 hc3
  have HB := Aside0.mk (Below.refl w.heap.size w)
  have H : ((sextonlaw06_far.f k l0_0 l0_1 l1).bind fun t258 => (if t258 = true then (sextonlaw06_SlotCrash.j0 k l1 a2 l3 true l0_0 l0_1) else (if (l0_1.length : Int) > 0 then (sextonlaw06_SlotCrash.j0 k l1 a2 l3 true l0_0 l0_1) else (sextonlaw06_SlotCrash.j0 k l1 a2 l3 (decide ((l3.length : Int) > 200)) l0_0 l0_1)))) = some r := h
  clear h
  have HC5 := Aside0.mk H
  clear H
  go_enter Try.func9, Try.ntmps9
  go_upto_region 1 with (first | ((with_reducible refine gate_dst (N := 4) rfl ?_); (try (refine gate_guard (by rfl) ?_; dsimp only)); refine box_event ?hg (N := 4) ?hd (cs := #[.slice A0_0 l0_0.length c0_0, .slice A0_1 l0_1.length c0_1]) (t := 25) ?hr ?_; (case hd => rfl); (case hg => rfl); (case hr => first | (go_simp; done) | (go_simp; rfl)); intro gb257 hg w6 hbox hb; have n0_ := Aside0.mk (below_step (by repeat (first | (with_reducible first | exact HB.out | apply below_alloc | apply pw_below_drewN | apply below_drew1) | exact HB.out)) hb); have n1_ := Aside0.mk (hbox); have n2_ := Aside0.mk ((by rw [hg]; exact (below_size (by repeat (first | (with_reducible first | exact HB.out | apply below_alloc | apply pw_below_drewN | apply below_drew1) | exact HB.out))) : w.heap.size ≤ gb257)); have n3_ := Aside0.mk ((by rw [hg]; exact (below_size (by repeat (first | (with_reducible first | exact HB.out | apply below_alloc | apply pw_below_drewN | apply below_drew1) | exact HB.out))) : w.heap.size ≤ gb257)); clear HB; have HB := n0_; have BK257 := n1_; have GW257 := n2_; have GE257 := n3_; clear n0_ n1_ n2_ n3_; clear hb hbox hg))
  (try simp only [Act.put, List.setIfInBounds_toArray, List.set_cons_zero, List.set_cons_succ])
  go_cut [34] (fun v34 wc => ∃ (kq : Nat) (x34_4 : Bool), v34 = .bool x34_4 ∧ Aside0 (sextonlaw06_SlotCrash.j0 kq l1 a2 l3 x34_4 l0_0 l0_1 = some r) ∧ Aside0 (kq ≤ k) ∧ Aside0 (wc.heap[gb257]? = some (.cells #[(.slice A0_0 l0_0.length c0_0), (.slice A0_1 l0_1.length c0_1)] 25 (0, 0))) ∧ Aside0 (Below w.heap.size w wc))
  case first =>
    have H := HC5.out
    clear HC5
    replace H := Option.bind_eq_some_iff.mp H
    obtain ⟨t258, A70, H⟩ := H
    replace H : (if t258 = true then (sextonlaw06_SlotCrash.j0 k l1 a2 l3 true l0_0 l0_1) else (if (l0_1.length : Int) > 0 then (sextonlaw06_SlotCrash.j0 k l1 a2 l3 true l0_0 l0_1) else (sextonlaw06_SlotCrash.j0 k l1 a2 l3 (decide ((l3.length : Int) > 200)) l0_0 l0_1))) = some r := H
    have A7 := Aside0.mk A70
    clear A70
    by_cases c8 : t258 = true
    · subst c8
      have H1 : (sextonlaw06_SlotCrash.j0 k l1 a2 l3 true l0_0 l0_1) = some r := by rw [if_pos rfl] at H; exact H
      clear H
      have H := H1
      clear H1
      have H' := Aside0.mk H
      clear H
      have hcz9_0 : w6.cell? ⟨gb257, 0, none⟩ = some (.slice A0_0 l0_0.length c0_0) := (blk_cell BK257.out 0).trans rfl
      have hcz9_1 : w6.cell? ⟨gb257, 1, none⟩ = some (.slice A0_1 l0_1.length c0_1) := (blk_cell BK257.out 1).trans rfl
      have hfz9_0 := blk_frozen BK257.out 0
      have hfz9_1 := blk_frozen BK257.out 1
      go_wp2_with (first | ((with_reducible refine gate_callee (f := 19) rfl ?_); refine goesL_ (some 23) rfl rfl Try.func19 (by kernel_rfl) rfl #[.agg #[.slice A0_0 l0_0.length c0_0, .slice A0_1 l0_1.length c0_1], .slice A1 l1.length c1] rfl (by (try simp only [List.map_toArray, List.map_cons, List.map_nil]); first | done | rfl | (simp only [List.length_drop, List.length_take]; rfl)) ?_; (with_reducible refine (sextonlaw06_far.calls k _ _ l0_0 _ _ l0_1 _ _ l1 true _ ?side1 ?side2 ?side3 ?side4 ?side5 ?side6 A7.out).mono ?_); (case side1 => repeat (first | exact (Kd.C_below HR0_0.out HB.out) | (with_reducible refine Kd.C_alloc ?_ _) | (with_reducible refine Kd.C_drewN ?_ _) | (with_reducible refine Kd.C_drew ?_))); (case side2 => exact HC0_0.out); (case side3 => repeat (first | exact (Kd.C_below HR0_1.out HB.out) | (with_reducible refine Kd.C_alloc ?_ _) | (with_reducible refine Kd.C_drewN ?_ _) | (with_reducible refine Kd.C_drew ?_))); (case side4 => exact HC0_1.out); (case side5 => repeat (first | exact (Kd.C_below HR1.out HB.out) | (with_reducible refine Kd.C_alloc ?_ _) | (with_reducible refine Kd.C_drewN ?_ _) | (with_reducible refine Kd.C_drew ?_))); (case side6 => exact HC1.out); rintro e w10 ⟨rfl, hb⟩; refine ⟨_, rfl, ?_⟩; have n0_ := Aside0.mk (blk_below (g := gb257) (o := .cells #[.slice A0_0 l0_0.length c0_0, .slice A0_1 l0_1.length c0_1] 25 (0, 0)) (by (with_reducible repeat (first | refine blk_drewN ?_ _ | refine blk_drew ?_ | refine blk_alloc ?_ _)); exact BK257.out) hb); have n1_ := Aside0.mk (below_step (by repeat (first | (with_reducible first | exact HB.out | apply below_alloc | apply pw_below_drewN | apply below_drew1 | refine below_set ?_ GE257.out) | exact HB.out)) hb); clear BK257; clear HB; have BK257 := n0_; have HB := n1_; clear n0_ n1_; (try clear hb); (try clear hb2); (try clear hk); (try clear hi)))
      go_meet
      case rel => exact ⟨_, (true), (by first | rfl | (simp; done) | (simp [*]; done)), H', ⟨by first | omega | exact Nat.le_refl _⟩, ⟨by (with_reducible repeat (first | refine blk_drewN ?_ _ | refine blk_drew ?_ | refine blk_alloc ?_ _)); exact BK257.out⟩, ⟨by repeat (first | (with_reducible first | exact HB.out | apply below_alloc | apply pw_below_drewN | apply below_drew1 | refine below_set ?_ GE257.out) | exact HB.out)⟩⟩
    · replace c8 := Bool.eq_false_iff.mpr c8
      subst c8
      have H1 : (if (l0_1.length : Int) > 0 then (sextonlaw06_SlotCrash.j0 k l1 a2 l3 true l0_0 l0_1) else (sextonlaw06_SlotCrash.j0 k l1 a2 l3 (decide ((l3.length : Int) > 200)) l0_0 l0_1)) = some r := by rw [if_neg (show ¬ (false = true) by decide)] at H; exact H
      clear H
      have H := H1
      clear H1
      by_cases c11 : (l0_1.length : Int) > 0
      · rw [if_pos c11] at H
        have c11b0 : decide (0 < (l0_1.length : Int)) = true := decide_eq_true c11
        have c11b1 : decide (0 < l0_1.length) = true := decide_eq_true (by omega)
        clear c11
        (first | rw [c11b0] | (simp only [i64_w, i32_w]; rw [c11b0]) | skip)
        have H' := Aside0.mk H
        clear H
        have hcz12_0 : w6.cell? ⟨gb257, 0, none⟩ = some (.slice A0_0 l0_0.length c0_0) := (blk_cell BK257.out 0).trans rfl
        have hcz12_1 : w6.cell? ⟨gb257, 1, none⟩ = some (.slice A0_1 l0_1.length c0_1) := (blk_cell BK257.out 1).trans rfl
        have hfz12_0 := blk_frozen BK257.out 0
        have hfz12_1 := blk_frozen BK257.out 1
        go_wp2_with (first | ((with_reducible refine gate_callee (f := 19) rfl ?_); refine goesL_ (some 23) rfl rfl Try.func19 (by kernel_rfl) rfl #[.agg #[.slice A0_0 l0_0.length c0_0, .slice A0_1 l0_1.length c0_1], .slice A1 l1.length c1] rfl (by (try simp only [List.map_toArray, List.map_cons, List.map_nil]); first | done | rfl | (simp only [List.length_drop, List.length_take]; rfl)) ?_; (with_reducible refine (sextonlaw06_far.calls k _ _ l0_0 _ _ l0_1 _ _ l1 false _ ?side1 ?side2 ?side3 ?side4 ?side5 ?side6 A7.out).mono ?_); (case side1 => repeat (first | exact (Kd.C_below HR0_0.out HB.out) | (with_reducible refine Kd.C_alloc ?_ _) | (with_reducible refine Kd.C_drewN ?_ _) | (with_reducible refine Kd.C_drew ?_))); (case side2 => exact HC0_0.out); (case side3 => repeat (first | exact (Kd.C_below HR0_1.out HB.out) | (with_reducible refine Kd.C_alloc ?_ _) | (with_reducible refine Kd.C_drewN ?_ _) | (with_reducible refine Kd.C_drew ?_))); (case side4 => exact HC0_1.out); (case side5 => repeat (first | exact (Kd.C_below HR1.out HB.out) | (with_reducible refine Kd.C_alloc ?_ _) | (with_reducible refine Kd.C_drewN ?_ _) | (with_reducible refine Kd.C_drew ?_))); (case side6 => exact HC1.out); rintro e w13 ⟨rfl, hb⟩; refine ⟨_, rfl, ?_⟩; have n0_ := Aside0.mk (blk_below (g := gb257) (o := .cells #[.slice A0_0 l0_0.length c0_0, .slice A0_1 l0_1.length c0_1] 25 (0, 0)) (by (with_reducible repeat (first | refine blk_drewN ?_ _ | refine blk_drew ?_ | refine blk_alloc ?_ _)); exact BK257.out) hb); have n1_ := Aside0.mk (below_step (by repeat (first | (with_reducible first | exact HB.out | apply below_alloc | apply pw_below_drewN | apply below_drew1 | refine below_set ?_ GE257.out) | exact HB.out)) hb); clear BK257; clear HB; have BK257 := n0_; have HB := n1_; clear n0_ n1_; (try clear hb); (try clear hb2); (try clear hk); (try clear hi); have hcz14_0 : w13.cell? ⟨gb257, 0, none⟩ = some (.slice A0_0 l0_0.length c0_0) := (blk_cell BK257.out 0).trans rfl; have hcz14_1 : w13.cell? ⟨gb257, 1, none⟩ = some (.slice A0_1 l0_1.length c0_1) := (blk_cell BK257.out 1).trans rfl; have hfz14_0 := blk_frozen BK257.out 0; have hfz14_1 := blk_frozen BK257.out 1))
        go_meet
        case rel => exact ⟨_, (true), (by first | rfl | (simp; done) | (simp [*]; done)), H', ⟨by first | omega | exact Nat.le_refl _⟩, ⟨by (with_reducible repeat (first | refine blk_drewN ?_ _ | refine blk_drew ?_ | refine blk_alloc ?_ _)); exact BK257.out⟩, ⟨by repeat (first | (with_reducible first | exact HB.out | apply below_alloc | apply pw_below_drewN | apply below_drew1 | refine below_set ?_ GE257.out) | exact HB.out)⟩⟩
      · rw [if_neg c11] at H
        have c11b0 : decide (0 < (l0_1.length : Int)) = false := decide_eq_false c11
        have c11b1 : decide (0 < l0_1.length) = false := decide_eq_false (by omega)
        clear c11
        (first | rw [c11b0] | (simp only [i64_w, i32_w]; rw [c11b0]) | skip)
        have H' := Aside0.mk H
        clear H
        have hcz15_0 : w6.cell? ⟨gb257, 0, none⟩ = some (.slice A0_0 l0_0.length c0_0) := (blk_cell BK257.out 0).trans rfl
        have hcz15_1 : w6.cell? ⟨gb257, 1, none⟩ = some (.slice A0_1 l0_1.length c0_1) := (blk_cell BK257.out 1).trans rfl
        have hfz15_0 := blk_frozen BK257.out 0
        have hfz15_1 := blk_frozen BK257.out 1
        go_wp2_with (first | ((with_reducible refine gate_callee (f := 19) rfl ?_); refine goesL_ (some 23) rfl rfl Try.func19 (by kernel_rfl) rfl #[.agg #[.slice A0_0 l0_0.length c0_0, .slice A0_1 l0_1.length c0_1], .slice A1 l1.length c1] rfl (by (try simp only [List.map_toArray, List.map_cons, List.map_nil]); first | done | rfl | (simp only [List.length_drop, List.length_take]; rfl)) ?_; (with_reducible refine (sextonlaw06_far.calls k _ _ l0_0 _ _ l0_1 _ _ l1 false _ ?side1 ?side2 ?side3 ?side4 ?side5 ?side6 A7.out).mono ?_); (case side1 => repeat (first | exact (Kd.C_below HR0_0.out HB.out) | (with_reducible refine Kd.C_alloc ?_ _) | (with_reducible refine Kd.C_drewN ?_ _) | (with_reducible refine Kd.C_drew ?_))); (case side2 => exact HC0_0.out); (case side3 => repeat (first | exact (Kd.C_below HR0_1.out HB.out) | (with_reducible refine Kd.C_alloc ?_ _) | (with_reducible refine Kd.C_drewN ?_ _) | (with_reducible refine Kd.C_drew ?_))); (case side4 => exact HC0_1.out); (case side5 => repeat (first | exact (Kd.C_below HR1.out HB.out) | (with_reducible refine Kd.C_alloc ?_ _) | (with_reducible refine Kd.C_drewN ?_ _) | (with_reducible refine Kd.C_drew ?_))); (case side6 => exact HC1.out); rintro e w16 ⟨rfl, hb⟩; refine ⟨_, rfl, ?_⟩; have n0_ := Aside0.mk (blk_below (g := gb257) (o := .cells #[.slice A0_0 l0_0.length c0_0, .slice A0_1 l0_1.length c0_1] 25 (0, 0)) (by (with_reducible repeat (first | refine blk_drewN ?_ _ | refine blk_drew ?_ | refine blk_alloc ?_ _)); exact BK257.out) hb); have n1_ := Aside0.mk (below_step (by repeat (first | (with_reducible first | exact HB.out | apply below_alloc | apply pw_below_drewN | apply below_drew1 | refine below_set ?_ GE257.out) | exact HB.out)) hb); clear BK257; clear HB; have BK257 := n0_; have HB := n1_; clear n0_ n1_; (try clear hb); (try clear hb2); (try clear hk); (try clear hi); have hcz17_0 : w16.cell? ⟨gb257, 0, none⟩ = some (.slice A0_0 l0_0.length c0_0) := (blk_cell BK257.out 0).trans rfl; have hcz17_1 : w16.cell? ⟨gb257, 1, none⟩ = some (.slice A0_1 l0_1.length c0_1) := (blk_cell BK257.out 1).trans rfl; have hfz17_0 := blk_frozen BK257.out 0; have hfz17_1 := blk_frozen BK257.out 1))
        go_meet
        case rel => exact ⟨_, (decide ((l3.length : Int) > 200)), (by first | rfl | (simp; done) | (simp [*]; done)), H', ⟨by first | omega | exact Nat.le_refl _⟩, ⟨by (with_reducible repeat (first | refine blk_drewN ?_ _ | refine blk_drew ?_ | refine blk_alloc ?_ _)); exact BK257.out⟩, ⟨by repeat (first | (with_reducible first | exact HB.out | apply below_alloc | apply pw_below_drewN | apply below_drew1 | refine below_set ?_ GE257.out) | exact HB.out)⟩⟩
  case rest =>
    clear HC5
    try clear c1
    try clear p2
    try clear c3
    try clear c8
    try clear c9
    try clear c11
    try clear c11b0
    try clear c11b1
    try clear hcz12_0
    try clear hcz12_1
    try clear hcz14_0
    try clear hcz14_1
    try clear hcz15_0
    try clear hcz15_1
    try clear hcz17_0
    try clear hcz17_1
    try clear hcz9_0
    try clear hcz9_1
    try clear hfz12_0
    try clear hfz12_1
    try clear hfz14_0
    try clear hfz14_1
    try clear hfz15_0
    try clear hfz15_1
    try clear hfz17_0
    try clear hfz17_1
    try clear hfz9_0
    try clear hfz9_1
    obtain ⟨kq, x34_4, rfl, HA, HJ4, BK257, HB⟩ := hcut
    cases kq with
    | zero => exact absurd HA.out (by simp [sextonlaw06_SlotCrash.j0])
    | succ kj4 =>
      have H := HA.out
      clear HA
      simp only [sextonlaw06_SlotCrash.j0] at H
      by_cases c18 : x34_4 = true
      · subst c18
        have H1 : (some true) = some r := by rw [if_pos rfl] at H; exact H
        clear H
        have H := H1
        clear H1
        obtain rfl := Option.some.inj H
        go_wp2
        go_ret
        exact ⟨by first | rfl | (simp [errW_none, errW_some] <;> rfl) | (simp [*, errW_none, errW_some] <;> rfl), by repeat (first | (with_reducible first | exact HB.out | apply below_alloc | apply pw_below_drewN | apply below_drew1 | refine below_set ?_ GE257.out) | exact HB.out)⟩
      · replace c18 := Bool.eq_false_iff.mpr c18
        subst c18
        have H1 : ((slot_Load.f l0_0 l0_1).bind fun bt259 => ((slot_Save.f l0_0 l0_1 l1 a2).bind fun bt264 => (if bt259.2.2 = 0 then (sextonlaw06_SlotCrash.j1 kj4 l1 l3 bt259.1 bt259.2.1 bt264.2.2.1 (bt264.2.2.2 != 0) bt264.1 bt264.2.1) else (sextonlaw06_SlotCrash.j1 kj4 l1 l3 bt259.1 bt259.2.1 bt264.2.2.1 true bt264.1 bt264.2.1)))) = some r := by rw [if_neg (show ¬ (false = true) by decide)] at H; exact H
        clear H
        have H := H1
        clear H1
        replace H := Option.bind_eq_some_iff.mp H
        obtain ⟨⟨t259, t262, t263⟩, A190, H⟩ := H
        replace H : ((slot_Save.f l0_0 l0_1 l1 a2).bind fun bt264 => (if t263 = 0 then (sextonlaw06_SlotCrash.j1 kj4 l1 l3 t259 t262 bt264.2.2.1 (bt264.2.2.2 != 0) bt264.1 bt264.2.1) else (sextonlaw06_SlotCrash.j1 kj4 l1 l3 t259 t262 bt264.2.2.1 true bt264.1 bt264.2.1))) = some r := H
        have A19 := Aside0.mk A190
        clear A190
        replace H := Option.bind_eq_some_iff.mp H
        obtain ⟨⟨t264, t267, t270, t271⟩, A200, H⟩ := H
        replace H : (if t263 = 0 then (sextonlaw06_SlotCrash.j1 kj4 l1 l3 t259 t262 t270 (t271 != 0) t264 t267) else (sextonlaw06_SlotCrash.j1 kj4 l1 l3 t259 t262 t270 true t264 t267)) = some r := H
        have A20 := Aside0.mk A200
        clear A200
        have HC21 := Aside0.mk H
        clear H
        have hcz22_0 : wc.cell? ⟨gb257, 0, none⟩ = some (.slice A0_0 l0_0.length c0_0) := (blk_cell BK257.out 0).trans rfl
        have hcz22_1 : wc.cell? ⟨gb257, 1, none⟩ = some (.slice A0_1 l0_1.length c0_1) := (blk_cell BK257.out 1).trans rfl
        have hfz22_0 := blk_frozen BK257.out 0
        have hfz22_1 := blk_frozen BK257.out 1
        go_upto_region 5 with (first | ((with_reducible refine gate_callee (f := 20) rfl ?_); refine goesL_ (some 37) rfl rfl Try.func20 (by kernel_rfl) rfl #[.agg #[.slice A0_0 l0_0.length c0_0, .slice A0_1 l0_1.length c0_1]] rfl (by (try simp only [List.map_toArray, List.map_cons, List.map_nil]); first | done | rfl | (simp only [List.length_drop, List.length_take]; rfl)) ?_; (with_reducible refine (slot_Load.calls _ _ l0_0 _ _ l0_1 t259 t262 t263 _ ?side1 ?side2 ?side3 ?side4 A19.out).mono ?_); (case side1 => repeat (first | exact (Kd.C_below HR0_0.out HB.out) | (with_reducible refine Kd.C_alloc ?_ _) | (with_reducible refine Kd.C_drewN ?_ _) | (with_reducible refine Kd.C_drew ?_))); (case side2 => exact HC0_0.out); (case side3 => repeat (first | exact (Kd.C_below HR0_1.out HB.out) | (with_reducible refine Kd.C_alloc ?_ _) | (with_reducible refine Kd.C_drewN ?_ _) | (with_reducible refine Kd.C_drew ?_))); (case side4 => exact HC0_1.out); rintro e w23 ⟨v260, rfl, ho0, hb⟩; refine ⟨_, rfl, ?_⟩; have n0_ := Aside0.mk (Kd.R_lower ho0 (below_size (by repeat (first | (with_reducible first | exact HB.out | apply below_alloc | apply pw_below_drewN | apply below_drew1 | refine below_set ?_ GE257.out) | exact HB.out)))); have n1_ := Aside0.mk (blk_below (g := gb257) (o := .cells #[.slice A0_0 l0_0.length c0_0, .slice A0_1 l0_1.length c0_1] 25 (0, 0)) (by (with_reducible repeat (first | refine blk_drewN ?_ _ | refine blk_drew ?_ | refine blk_alloc ?_ _)); exact BK257.out) hb); have n2_ := Aside0.mk (below_step (by repeat (first | (with_reducible first | exact HB.out | apply below_alloc | apply pw_below_drewN | apply below_drew1 | refine below_set ?_ GE257.out) | exact HB.out)) hb); clear BK257; clear HB; have HO261 := n0_; have BK257 := n1_; have HB := n2_; clear n0_ n1_ n2_; (try clear hb); (try clear hb2); (try clear hk); (try clear hi); (try clear ho0); have hcz24_0 : w23.cell? ⟨gb257, 0, none⟩ = some (.slice A0_0 l0_0.length c0_0) := (blk_cell BK257.out 0).trans rfl; have hcz24_1 : w23.cell? ⟨gb257, 1, none⟩ = some (.slice A0_1 l0_1.length c0_1) := (blk_cell BK257.out 1).trans rfl; have hfz24_0 := blk_frozen BK257.out 0; have hfz24_1 := blk_frozen BK257.out 1) | ((with_reducible refine gate_callee (f := 21) rfl ?_); refine goesL_ (some 45) rfl rfl Try.func21 (by kernel_rfl) rfl #[.agg #[.slice A0_0 l0_0.length c0_0, .slice A0_1 l0_1.length c0_1], .slice A1 l1.length c1, .int .i64 a2] rfl (by (try simp only [List.map_toArray, List.map_cons, List.map_nil]); first | done | rfl | (simp only [List.length_drop, List.length_take]; rfl)) ?_; (with_reducible refine (slot_Save.calls _ _ l0_0 _ _ l0_1 _ _ l1 a2 t264 t267 t270 t271 _ ?side1 ?side2 ?side3 ?side4 ?side5 ?side6 A20.out).mono ?_); (case side1 => repeat (first | exact (Kd.C_below HR0_0.out HB.out) | (with_reducible refine Kd.C_alloc ?_ _) | (with_reducible refine Kd.C_drewN ?_ _) | (with_reducible refine Kd.C_drew ?_))); (case side2 => exact HC0_0.out); (case side3 => repeat (first | exact (Kd.C_below HR0_1.out HB.out) | (with_reducible refine Kd.C_alloc ?_ _) | (with_reducible refine Kd.C_drewN ?_ _) | (with_reducible refine Kd.C_drew ?_))); (case side4 => exact HC0_1.out); (case side5 => repeat (first | exact (Kd.C_below HR1.out HB.out) | (with_reducible refine Kd.C_alloc ?_ _) | (with_reducible refine Kd.C_drewN ?_ _) | (with_reducible refine Kd.C_drew ?_))); (case side6 => exact HC1.out); rintro e w25 ⟨v265, v268, rfl, ho0, ho1, hb⟩; refine ⟨_, rfl, ?_⟩; have n0_ := Aside0.mk (Kd.R_elder' (by (with_reducible repeat (first | apply Kd.R_alloc | apply Kd.R_drewN | apply Kd.R_drew)); exact HO261.out) (Kd.R_base ho0) hb); have n1_ := Aside0.mk (Kd.R_lower (Kd.R_new' ho0 (Kd.R_lt (by (with_reducible repeat (first | apply Kd.R_alloc | apply Kd.R_drewN | apply Kd.R_drew)); exact HO261.out))) (below_size (by repeat (first | (with_reducible first | exact HB.out | apply below_alloc | apply pw_below_drewN | apply below_drew1 | refine below_set ?_ GE257.out) | exact HB.out)))); have n2_ := Aside0.mk (Kd.R_lower ho1 (below_size (by repeat (first | (with_reducible first | exact HB.out | apply below_alloc | apply pw_below_drewN | apply below_drew1 | refine below_set ?_ GE257.out) | exact HB.out)))); have n3_ := Aside0.mk (blk_below (g := gb257) (o := .cells #[.slice A0_0 l0_0.length c0_0, .slice A0_1 l0_1.length c0_1] 25 (0, 0)) (by (with_reducible repeat (first | refine blk_drewN ?_ _ | refine blk_drew ?_ | refine blk_alloc ?_ _)); exact BK257.out) hb); have n4_ := Aside0.mk (below_step (by repeat (first | (with_reducible first | exact HB.out | apply below_alloc | apply pw_below_drewN | apply below_drew1 | refine below_set ?_ GE257.out) | exact HB.out)) hb); clear HO261; clear BK257; clear HB; have HO261 := n0_; have HO266 := n1_; have HO269 := n2_; have BK257 := n3_; have HB := n4_; clear n0_ n1_ n2_ n3_ n4_; (try clear hb); (try clear hb2); (try clear hk); (try clear hi); (try clear ho0); (try clear ho1)) | ((with_reducible refine gate_dst (N := 12) rfl ?_); (try (refine gate_guard (by rfl) ?_; dsimp only)); refine box_event ?hg (N := 12) ?hd (cs := #[.slice none 0 0, .slice none 0 0]) (t := 25) ?hr ?_; (case hd => rfl); (case hg => rfl); (case hr => first | (go_simp; done) | (go_simp; rfl)); intro gb272 hg w26 hbox hb; have n0_ := Aside0.mk (Kd.R_below (by (with_reducible repeat (first | apply Kd.R_alloc | apply Kd.R_drewN | apply Kd.R_drew)); exact HO261.out) hb); have n1_ := Aside0.mk (Kd.R_below (by (with_reducible repeat (first | apply Kd.R_alloc | apply Kd.R_drewN | apply Kd.R_drew)); exact HO266.out) hb); have n2_ := Aside0.mk (Kd.R_below (by (with_reducible repeat (first | apply Kd.R_alloc | apply Kd.R_drewN | apply Kd.R_drew)); exact HO269.out) hb); have n3_ := Aside0.mk (blk_below (g := gb257) (o := .cells #[.slice A0_0 l0_0.length c0_0, .slice A0_1 l0_1.length c0_1] 25 (0, 0)) (by (with_reducible repeat (first | refine blk_drewN ?_ _ | refine blk_drew ?_ | refine blk_alloc ?_ _)); exact BK257.out) hb); have n4_ := Aside0.mk (below_step (by repeat (first | (with_reducible first | exact HB.out | apply below_alloc | apply pw_below_drewN | apply below_drew1 | refine below_set ?_ GE257.out) | exact HB.out)) hb); have n5_ := Aside0.mk (hbox); have n6_ := Aside0.mk ((by rw [hg]; exact (below_size (by repeat (first | (with_reducible first | exact HB.out | apply below_alloc | apply pw_below_drewN | apply below_drew1 | refine below_set ?_ GE257.out) | exact HB.out))) : w.heap.size ≤ gb272)); have n7_ := Aside0.mk ((by rw [hg]; exact (below_size (by repeat (first | (with_reducible first | exact HB.out | apply below_alloc | apply pw_below_drewN | apply below_drew1 | refine below_set ?_ GE257.out) | exact HB.out))) : w.heap.size ≤ gb272)); have n8_ := Aside0.mk ((by rw [hg]; exact Nat.ne_of_lt (blk_lt (g := gb257) (o := .cells #[.slice A0_0 l0_0.length c0_0, .slice A0_1 l0_1.length c0_1] 25 (0, 0)) (by (with_reducible repeat (first | refine blk_drewN ?_ _ | refine blk_drew ?_ | refine blk_alloc ?_ _)); exact BK257.out)) : gb257 ≠ gb272)); have n9_ := Aside0.mk ((by rw [hg]; exact Nat.ne_of_gt (blk_lt (g := gb257) (o := .cells #[.slice A0_0 l0_0.length c0_0, .slice A0_1 l0_1.length c0_1] 25 (0, 0)) (by (with_reducible repeat (first | refine blk_drewN ?_ _ | refine blk_drew ?_ | refine blk_alloc ?_ _)); exact BK257.out)) : gb272 ≠ gb257)); clear HO261; clear HO266; clear HO269; clear BK257; clear HB; have HO261 := n0_; have HO266 := n1_; have HO269 := n2_; have BK257 := n3_; have HB := n4_; have BK272 := n5_; have GW272 := n6_; have GE272 := n7_; have NB257_272 := n8_; have NB272_257 := n9_; clear n0_ n1_ n2_ n3_ n4_ n5_ n6_ n7_ n8_ n9_; clear hb hbox hg; obtain ⟨Ao27, co27, eo27⟩ := Kd.R_slice HO266.out; subst eo27; have hnb28 := NB272_257.out; have hnc28 := NB257_272.out; have hcz29_0 : w26.cell? ⟨gb272, 0, none⟩ = some (.slice none 0 0) := (blk_cell BK272.out 0).trans rfl; have hcz29_1 : w26.cell? ⟨gb272, 1, none⟩ = some (.slice none 0 0) := (blk_cell BK272.out 1).trans rfl; have hfz29_0 := blk_frozen BK272.out 0; have hfz29_1 := blk_frozen BK272.out 1; obtain ⟨Ao30, co30, eo30⟩ := Kd.R_slice HO269.out; subst eo30))
        (try simp only [Act.put, List.setIfInBounds_toArray, List.set_cons_zero, List.set_cons_succ])
        go_cut [54] (fun v54 wc => ∃ (kq : Nat) (x54_20 : Bool), v54 = .bool x54_20 ∧ Aside0 (sextonlaw06_SlotCrash.j1 kq l1 l3 t259 t262 t270 x54_20 t264 t267 = some r) ∧ Aside0 (kq ≤ kj4) ∧ Aside0 (Kd.R Kd.string 9 wc w.heap.size (fun k_ => some k_ ≠ ((.slice Ao27 t264.length co27) : Value).ownBlock) v260 t259) ∧ Aside0 (Kd.R Kd.string 9 wc w.heap.size (fun k_ => some k_ ≠ (v260 : Value).ownBlock) (.slice Ao27 t264.length co27) t264) ∧ Aside0 (Kd.R k73 73 wc w.heap.size (fun _ => True) (.slice Ao30 t267.length co30) t267) ∧ Aside0 (wc.heap[gb257]? = some (.cells #[(.slice A0_0 l0_0.length c0_0), (.slice A0_1 l0_1.length c0_1)] 25 (0, 0))) ∧ Aside0 (wc.heap[gb272]? = some (.cells #[(.slice Ao27 t264.length co27), (.slice Ao30 t267.length co30)] 25 (0, 0))) ∧ Aside0 (Below w.heap.size w wc))
        case first =>
          have H := HC21.out
          clear HC21
          by_cases c31 : t263 = 0
          · rw [if_pos c31] at H
            have c31b0 : (t263 == 0) = true := beq_iff_eq.mpr c31
            have c31b1 : (t263 != 0) = false := bne_eq_false_iff_eq.mpr c31
            clear c31
            (first | rw [c31b0] | (simp only [i64_w, i32_w]; rw [c31b0]) | skip)
            have H' := Aside0.mk H
            clear H
            go_wp2
            go_meet
            case rel => exact ⟨_, ((t271 != 0)), (by first | rfl | (simp; done) | (simp [*]; done)), H', ⟨by have := HJ4.out; first | omega | exact Nat.le_refl _⟩, ⟨by (with_reducible repeat (first | apply Kd.R_alloc | apply Kd.R_drewN | apply Kd.R_drew)); exact Kd.R_mono (Kd.R_far (p := ⟨gb272, 1, none⟩) (Kd.R_far (p := ⟨gb272, 0, none⟩) (Kd.R_types HO261.out BK272.out (by decide)) (fun _ hk => hk.2) (.slice Ao27 t264.length co27)) (fun _ hk => hk.2) (.slice Ao30 t267.length co30)) (fun _ hk => hk.1.2)⟩, ⟨by (with_reducible repeat (first | apply Kd.R_alloc | apply Kd.R_drewN | apply Kd.R_drew)); exact Kd.R_mono (Kd.R_far (p := ⟨gb272, 1, none⟩) (Kd.R_far (p := ⟨gb272, 0, none⟩) (Kd.R_types HO266.out BK272.out (by decide)) (fun _ hk => hk.2) (.slice Ao27 t264.length co27)) (fun _ hk => hk.2) (.slice Ao30 t267.length co30)) (fun _ hk => hk.1.2)⟩, ⟨by (with_reducible repeat (first | apply Kd.R_alloc | apply Kd.R_drewN | apply Kd.R_drew)); exact Kd.R_mono (Kd.R_far (p := ⟨gb272, 1, none⟩) (Kd.R_far (p := ⟨gb272, 0, none⟩) (Kd.R_types HO269.out BK272.out (by decide)) (fun _ hk => hk.2) (.slice Ao27 t264.length co27)) (fun _ hk => hk.2) (.slice Ao30 t267.length co30)) (fun _ hk => trivial)⟩, ⟨by (with_reducible repeat (first | refine blk_drewN ?_ _ | refine blk_drew ?_ | refine blk_alloc ?_ _)); refine blk_far ?_ NB257_272.out _; (with_reducible repeat (first | refine blk_drewN ?_ _ | refine blk_drew ?_ | refine blk_alloc ?_ _)); refine blk_far ?_ NB257_272.out _; (with_reducible repeat (first | refine blk_drewN ?_ _ | refine blk_drew ?_ | refine blk_alloc ?_ _)); exact BK257.out⟩, ⟨by (with_reducible repeat (first | refine blk_drewN ?_ _ | refine blk_drew ?_ | refine blk_alloc ?_ _)); refine blk_put (cs := #[.slice Ao27 t264.length co27, .slice none 0 0]) ?_ 1 _ rfl; (with_reducible repeat (first | refine blk_drewN ?_ _ | refine blk_drew ?_ | refine blk_alloc ?_ _)); refine blk_put (cs := #[.slice none 0 0, .slice none 0 0]) ?_ 0 _ rfl; (with_reducible repeat (first | refine blk_drewN ?_ _ | refine blk_drew ?_ | refine blk_alloc ?_ _)); exact BK272.out⟩, ⟨by repeat (first | (with_reducible first | exact HB.out | apply below_alloc | apply pw_below_drewN | apply below_drew1 | refine below_set ?_ GE257.out | refine below_set ?_ GE272.out) | exact HB.out)⟩⟩
          · rw [if_neg c31] at H
            have c31b0 : (t263 == 0) = false := beq_eq_false_iff_ne.mpr c31
            have c31b1 : (t263 != 0) = true := bne_iff_ne.mpr c31
            (first | rw [c31b0] | (simp only [i64_w, i32_w]; rw [c31b0]) | skip)
            have H' := Aside0.mk H
            clear H
            go_wp2
            go_meet
            case rel => exact ⟨_, (true), (by first | rfl | (simp; done) | (simp [*]; done)), H', ⟨by have := HJ4.out; first | omega | exact Nat.le_refl _⟩, ⟨by (with_reducible repeat (first | apply Kd.R_alloc | apply Kd.R_drewN | apply Kd.R_drew)); exact Kd.R_mono (Kd.R_far (p := ⟨gb272, 1, none⟩) (Kd.R_far (p := ⟨gb272, 0, none⟩) (Kd.R_types HO261.out BK272.out (by decide)) (fun _ hk => hk.2) (.slice Ao27 t264.length co27)) (fun _ hk => hk.2) (.slice Ao30 t267.length co30)) (fun _ hk => hk.1.2)⟩, ⟨by (with_reducible repeat (first | apply Kd.R_alloc | apply Kd.R_drewN | apply Kd.R_drew)); exact Kd.R_mono (Kd.R_far (p := ⟨gb272, 1, none⟩) (Kd.R_far (p := ⟨gb272, 0, none⟩) (Kd.R_types HO266.out BK272.out (by decide)) (fun _ hk => hk.2) (.slice Ao27 t264.length co27)) (fun _ hk => hk.2) (.slice Ao30 t267.length co30)) (fun _ hk => hk.1.2)⟩, ⟨by (with_reducible repeat (first | apply Kd.R_alloc | apply Kd.R_drewN | apply Kd.R_drew)); exact Kd.R_mono (Kd.R_far (p := ⟨gb272, 1, none⟩) (Kd.R_far (p := ⟨gb272, 0, none⟩) (Kd.R_types HO269.out BK272.out (by decide)) (fun _ hk => hk.2) (.slice Ao27 t264.length co27)) (fun _ hk => hk.2) (.slice Ao30 t267.length co30)) (fun _ hk => trivial)⟩, ⟨by (with_reducible repeat (first | refine blk_drewN ?_ _ | refine blk_drew ?_ | refine blk_alloc ?_ _)); refine blk_far ?_ NB257_272.out _; (with_reducible repeat (first | refine blk_drewN ?_ _ | refine blk_drew ?_ | refine blk_alloc ?_ _)); refine blk_far ?_ NB257_272.out _; (with_reducible repeat (first | refine blk_drewN ?_ _ | refine blk_drew ?_ | refine blk_alloc ?_ _)); exact BK257.out⟩, ⟨by (with_reducible repeat (first | refine blk_drewN ?_ _ | refine blk_drew ?_ | refine blk_alloc ?_ _)); refine blk_put (cs := #[.slice Ao27 t264.length co27, .slice none 0 0]) ?_ 1 _ rfl; (with_reducible repeat (first | refine blk_drewN ?_ _ | refine blk_drew ?_ | refine blk_alloc ?_ _)); refine blk_put (cs := #[.slice none 0 0, .slice none 0 0]) ?_ 0 _ rfl; (with_reducible repeat (first | refine blk_drewN ?_ _ | refine blk_drew ?_ | refine blk_alloc ?_ _)); exact BK272.out⟩, ⟨by repeat (first | (with_reducible first | exact HB.out | apply below_alloc | apply pw_below_drewN | apply below_drew1 | refine below_set ?_ GE257.out | refine below_set ?_ GE272.out) | exact HB.out)⟩⟩
        case rest =>
          clear HC21
          try clear c1
          try clear c2
          try clear p2
          try clear c3
          try clear c8
          try clear c9
          try clear c11
          try clear c11b0
          try clear c11b1
          try clear c18
          try clear c19
          try clear c20
          try clear c21
          try clear c28
          try clear c31
          try clear c31b0
          try clear c31b1
          try clear hcz12_0
          try clear hcz12_1
          try clear hcz14_0
          try clear hcz14_1
          try clear hcz15_0
          try clear hcz15_1
          try clear hcz17_0
          try clear hcz17_1
          try clear hcz22_0
          try clear hcz22_1
          try clear hcz24_0
          try clear hcz24_1
          try clear hcz29_0
          try clear hcz29_1
          try clear hcz9_0
          try clear hcz9_1
          try clear hfz12_0
          try clear hfz12_1
          try clear hfz14_0
          try clear hfz14_1
          try clear hfz15_0
          try clear hfz15_1
          try clear hfz17_0
          try clear hfz17_1
          try clear hfz22_0
          try clear hfz22_1
          try clear hfz24_0
          try clear hfz24_1
          try clear hfz29_0
          try clear hfz29_1
          try clear hfz9_0
          try clear hfz9_1
          try clear p2
          obtain ⟨kq, x54_20, rfl, HA, HJ20, HO_9, HO_273000, HO_273001, BK257, BK272, HB⟩ := hcut
          cases kq with
          | zero => exact absurd HA.out (by simp [sextonlaw06_SlotCrash.j1])
          | succ kj20 =>
            have H := HA.out
            clear HA
            simp only [sextonlaw06_SlotCrash.j1] at H
            by_cases c32 : x54_20 = true
            · subst c32
              have H1 : ((sextonlaw06_shelved.f).bind fun t273 => (some t273)) = some r := by rw [if_pos rfl] at H; exact H
              clear H
              have H := H1
              clear H1
              replace H := Option.bind_eq_some_iff.mp H
              obtain ⟨t273, A330, H⟩ := H
              replace H : (some t273) = some r := H
              have A33 := Aside0.mk A330
              clear A330
              obtain rfl := Option.some.inj H
              go_wp2_with (first | ((with_reducible refine gate_callee (f := 22) rfl ?_); refine goesL_ (some 55) rfl rfl Try.func22 (by kernel_rfl) rfl #[] rfl (by (try simp only [List.map_toArray, List.map_cons, List.map_nil]); first | done | rfl | (simp only [List.length_drop, List.length_take]; rfl)) ?_; (with_reducible refine (sextonlaw06_shelved.calls  t273 _ A33.out).mono ?_); rintro e w34 ⟨rfl, hb⟩; refine ⟨_, rfl, ?_⟩; have n0_ := Aside0.mk (Kd.R_below (by (with_reducible repeat (first | apply Kd.R_alloc | apply Kd.R_drewN | apply Kd.R_drew)); exact HO_9.out) hb); have n1_ := Aside0.mk (Kd.R_below (by (with_reducible repeat (first | apply Kd.R_alloc | apply Kd.R_drewN | apply Kd.R_drew)); exact HO_273000.out) hb); have n2_ := Aside0.mk (Kd.R_below (by (with_reducible repeat (first | apply Kd.R_alloc | apply Kd.R_drewN | apply Kd.R_drew)); exact HO_273001.out) hb); have n3_ := Aside0.mk (blk_below (g := gb257) (o := .cells #[.slice A0_0 l0_0.length c0_0, .slice A0_1 l0_1.length c0_1] 25 (0, 0)) (by (with_reducible repeat (first | refine blk_drewN ?_ _ | refine blk_drew ?_ | refine blk_alloc ?_ _)); exact BK257.out) hb); have n4_ := Aside0.mk (blk_below (g := gb272) (o := .cells #[.slice Ao27 t264.length co27, .slice Ao30 t267.length co30] 25 (0, 0)) (by (with_reducible repeat (first | refine blk_drewN ?_ _ | refine blk_drew ?_ | refine blk_alloc ?_ _)); exact BK272.out) hb); have n5_ := Aside0.mk (below_step (by repeat (first | (with_reducible first | exact HB.out | apply below_alloc | apply pw_below_drewN | apply below_drew1 | refine below_set ?_ GE257.out | refine below_set ?_ GE272.out) | exact HB.out)) hb); clear HO_9; clear HO_273000; clear HO_273001; clear BK257; clear BK272; clear HB; have HO_9 := n0_; have HO_273000 := n1_; have HO_273001 := n2_; have BK257 := n3_; have BK272 := n4_; have HB := n5_; clear n0_ n1_ n2_ n3_ n4_ n5_; (try clear hb); (try clear hb2); (try clear hk); (try clear hi)))
              go_ret
              exact ⟨by first | rfl | (simp [errW_none, errW_some] <;> rfl) | (simp [*, errW_none, errW_some] <;> rfl), by repeat (first | (with_reducible first | exact HB.out | apply below_alloc | apply pw_below_drewN | apply below_drew1 | refine below_set ?_ GE257.out | refine below_set ?_ GE272.out) | exact HB.out)⟩
            · replace c32 := Bool.eq_false_iff.mpr c32
              subst c32
              have H1 : ((disk_Crash.f t264 t267 l3).bind fun bt274 => ((slot_Load.f bt274.1 bt274.2.1).bind fun bt282 => (if bt274.2.2 = 0 then (sextonlaw06_SlotCrash.j2 kj20 l1 t259 t262 t270 bt282.1 bt282.2.1 (bt282.2.2 != 0)) else (sextonlaw06_SlotCrash.j2 kj20 l1 t259 t262 t270 bt282.1 bt282.2.1 true)))) = some r := by rw [if_neg (show ¬ (false = true) by decide)] at H; exact H
              clear H
              have H := H1
              clear H1
              replace H := Option.bind_eq_some_iff.mp H
              obtain ⟨⟨t274, t277, t280⟩, A350, H⟩ := H
              replace H : ((slot_Load.f t274 t277).bind fun bt282 => (if t280 = 0 then (sextonlaw06_SlotCrash.j2 kj20 l1 t259 t262 t270 bt282.1 bt282.2.1 (bt282.2.2 != 0)) else (sextonlaw06_SlotCrash.j2 kj20 l1 t259 t262 t270 bt282.1 bt282.2.1 true))) = some r := H
              have A35 := Aside0.mk A350
              clear A350
              replace H := Option.bind_eq_some_iff.mp H
              obtain ⟨⟨t282, t285, t286⟩, A360, H⟩ := H
              replace H : (if t280 = 0 then (sextonlaw06_SlotCrash.j2 kj20 l1 t259 t262 t270 t282 t285 (t286 != 0)) else (sextonlaw06_SlotCrash.j2 kj20 l1 t259 t262 t270 t282 t285 true)) = some r := H
              have A36 := Aside0.mk A360
              clear A360
              have HC37 := Aside0.mk H
              clear H
              have hnb38 := NB272_257.out
              have hnc38 := NB257_272.out
              have hcz39_0 : wc.cell? ⟨gb272, 0, none⟩ = some (.slice Ao27 t264.length co27) := (blk_cell BK272.out 0).trans rfl
              have hcz39_1 : wc.cell? ⟨gb272, 1, none⟩ = some (.slice Ao30 t267.length co30) := (blk_cell BK272.out 1).trans rfl
              have hfz39_0 := blk_frozen BK272.out 0
              have hfz39_1 := blk_frozen BK272.out 1
              go_upto_region 9 with (first | ((with_reducible refine gate_callee (f := 16) rfl ?_); refine goesL_ (some 59) rfl rfl Try.func16 (by kernel_rfl) rfl #[.agg #[.slice Ao27 t264.length co27, .slice Ao30 t267.length co30], .slice A3 l3.length c3] rfl (by (try simp only [List.map_toArray, List.map_cons, List.map_nil]); first | done | rfl | (simp only [List.length_drop, List.length_take]; rfl)) ?_; (with_reducible refine (disk_Crash.calls _ _ t264 _ _ t267 _ _ l3 t274 t277 t280 _ ?side1 ?side2 ?side3 ?side4 ?side5 ?side6 A35.out).mono ?_); (case side1 => repeat (first | exact (Kd.R_reads' HO_273000.out).2.2 | (with_reducible refine Kd.C_alloc ?_ _) | (with_reducible refine Kd.C_drewN ?_ _) | (with_reducible refine Kd.C_drew ?_))); (case side2 => exact (Kd.R_reads' HO_273000.out).2.1); (case side3 => repeat (first | exact (Kd.R_reads' HO_273001.out).2.2 | (with_reducible refine Kd.C_alloc ?_ _) | (with_reducible refine Kd.C_drewN ?_ _) | (with_reducible refine Kd.C_drew ?_))); (case side4 => exact (Kd.R_reads' HO_273001.out).2.1); (case side5 => repeat (first | exact (Kd.C_below HR3.out HB.out) | (with_reducible refine Kd.C_alloc ?_ _) | (with_reducible refine Kd.C_drewN ?_ _) | (with_reducible refine Kd.C_drew ?_))); (case side6 => exact HC3.out); rintro e w40 ⟨v275, v278, rfl, ho0, ho1, hb⟩; refine ⟨_, rfl, ?_⟩; have n0_ := Aside0.mk (Kd.R_elder' (by (with_reducible repeat (first | apply Kd.R_alloc | apply Kd.R_drewN | apply Kd.R_drew)); exact HO_9.out) (Kd.R_base ho0) hb); have n1_ := Aside0.mk (Kd.R_elder' (by (with_reducible repeat (first | apply Kd.R_alloc | apply Kd.R_drewN | apply Kd.R_drew)); exact HO_273000.out) (Kd.R_base ho0) hb); have n2_ := Aside0.mk (Kd.R_elder' (by (with_reducible repeat (first | apply Kd.R_alloc | apply Kd.R_drewN | apply Kd.R_drew)); exact HO_273001.out) (Kd.R_base ho1) hb); have n3_ := Aside0.mk (Kd.R_lower (Kd.R_new' (Kd.R_new' ho0 (Kd.R_lt (by (with_reducible repeat (first | apply Kd.R_alloc | apply Kd.R_drewN | apply Kd.R_drew)); exact HO_9.out))) (Kd.R_lt (by (with_reducible repeat (first | apply Kd.R_alloc | apply Kd.R_drewN | apply Kd.R_drew)); exact HO_273000.out))) (below_size (by repeat (first | (with_reducible first | exact HB.out | apply below_alloc | apply pw_below_drewN | apply below_drew1 | refine below_set ?_ GE257.out | refine below_set ?_ GE272.out) | exact HB.out)))); have n4_ := Aside0.mk (Kd.R_lower (Kd.R_new' ho1 (Kd.R_lt (by (with_reducible repeat (first | apply Kd.R_alloc | apply Kd.R_drewN | apply Kd.R_drew)); exact HO_273001.out))) (below_size (by repeat (first | (with_reducible first | exact HB.out | apply below_alloc | apply pw_below_drewN | apply below_drew1 | refine below_set ?_ GE257.out | refine below_set ?_ GE272.out) | exact HB.out)))); have n5_ := Aside0.mk (blk_below (g := gb257) (o := .cells #[.slice A0_0 l0_0.length c0_0, .slice A0_1 l0_1.length c0_1] 25 (0, 0)) (by (with_reducible repeat (first | refine blk_drewN ?_ _ | refine blk_drew ?_ | refine blk_alloc ?_ _)); exact BK257.out) hb); have n6_ := Aside0.mk (blk_below (g := gb272) (o := .cells #[.slice Ao27 t264.length co27, .slice Ao30 t267.length co30] 25 (0, 0)) (by (with_reducible repeat (first | refine blk_drewN ?_ _ | refine blk_drew ?_ | refine blk_alloc ?_ _)); exact BK272.out) hb); have n7_ := Aside0.mk (below_step (by repeat (first | (with_reducible first | exact HB.out | apply below_alloc | apply pw_below_drewN | apply below_drew1 | refine below_set ?_ GE257.out | refine below_set ?_ GE272.out) | exact HB.out)) hb); clear HO_9; clear HO_273000; clear HO_273001; clear BK257; clear BK272; clear HB; have HO_9 := n0_; have HO_273000 := n1_; have HO_273001 := n2_; have HO276 := n3_; have HO279 := n4_; have BK257 := n5_; have BK272 := n6_; have HB := n7_; clear n0_ n1_ n2_ n3_ n4_ n5_ n6_ n7_; (try clear hb); (try clear hb2); (try clear hk); (try clear hi); (try clear ho0); (try clear ho1)) | ((with_reducible refine gate_dst (N := 15) rfl ?_); (try (refine gate_guard (by rfl) ?_; dsimp only)); refine box_event ?hg (N := 15) ?hd (cs := #[.slice none 0 0, .slice none 0 0]) (t := 25) ?hr ?_; (case hd => rfl); (case hg => rfl); (case hr => first | (go_simp; done) | (go_simp; rfl)); intro gb281 hg w41 hbox hb; have n0_ := Aside0.mk (Kd.R_below (by (with_reducible repeat (first | apply Kd.R_alloc | apply Kd.R_drewN | apply Kd.R_drew)); exact HO_9.out) hb); have n1_ := Aside0.mk (Kd.R_below (by (with_reducible repeat (first | apply Kd.R_alloc | apply Kd.R_drewN | apply Kd.R_drew)); exact HO_273000.out) hb); have n2_ := Aside0.mk (Kd.R_below (by (with_reducible repeat (first | apply Kd.R_alloc | apply Kd.R_drewN | apply Kd.R_drew)); exact HO_273001.out) hb); have n3_ := Aside0.mk (Kd.R_below (by (with_reducible repeat (first | apply Kd.R_alloc | apply Kd.R_drewN | apply Kd.R_drew)); exact HO276.out) hb); have n4_ := Aside0.mk (Kd.R_below (by (with_reducible repeat (first | apply Kd.R_alloc | apply Kd.R_drewN | apply Kd.R_drew)); exact HO279.out) hb); have n5_ := Aside0.mk (blk_below (g := gb257) (o := .cells #[.slice A0_0 l0_0.length c0_0, .slice A0_1 l0_1.length c0_1] 25 (0, 0)) (by (with_reducible repeat (first | refine blk_drewN ?_ _ | refine blk_drew ?_ | refine blk_alloc ?_ _)); exact BK257.out) hb); have n6_ := Aside0.mk (blk_below (g := gb272) (o := .cells #[.slice Ao27 t264.length co27, .slice Ao30 t267.length co30] 25 (0, 0)) (by (with_reducible repeat (first | refine blk_drewN ?_ _ | refine blk_drew ?_ | refine blk_alloc ?_ _)); exact BK272.out) hb); have n7_ := Aside0.mk (below_step (by repeat (first | (with_reducible first | exact HB.out | apply below_alloc | apply pw_below_drewN | apply below_drew1 | refine below_set ?_ GE257.out | refine below_set ?_ GE272.out) | exact HB.out)) hb); have n8_ := Aside0.mk (hbox); have n9_ := Aside0.mk ((by rw [hg]; exact (below_size (by repeat (first | (with_reducible first | exact HB.out | apply below_alloc | apply pw_below_drewN | apply below_drew1 | refine below_set ?_ GE257.out | refine below_set ?_ GE272.out) | exact HB.out))) : w.heap.size ≤ gb281)); have n10_ := Aside0.mk ((by rw [hg]; exact (below_size (by repeat (first | (with_reducible first | exact HB.out | apply below_alloc | apply pw_below_drewN | apply below_drew1 | refine below_set ?_ GE257.out | refine below_set ?_ GE272.out) | exact HB.out))) : w.heap.size ≤ gb281)); have n11_ := Aside0.mk ((by rw [hg]; exact Nat.ne_of_lt (blk_lt (g := gb257) (o := .cells #[.slice A0_0 l0_0.length c0_0, .slice A0_1 l0_1.length c0_1] 25 (0, 0)) (by (with_reducible repeat (first | refine blk_drewN ?_ _ | refine blk_drew ?_ | refine blk_alloc ?_ _)); exact BK257.out)) : gb257 ≠ gb281)); have n12_ := Aside0.mk ((by rw [hg]; exact Nat.ne_of_gt (blk_lt (g := gb257) (o := .cells #[.slice A0_0 l0_0.length c0_0, .slice A0_1 l0_1.length c0_1] 25 (0, 0)) (by (with_reducible repeat (first | refine blk_drewN ?_ _ | refine blk_drew ?_ | refine blk_alloc ?_ _)); exact BK257.out)) : gb281 ≠ gb257)); have n13_ := Aside0.mk ((by rw [hg]; exact Nat.ne_of_lt (blk_lt (g := gb272) (o := .cells #[.slice Ao27 t264.length co27, .slice Ao30 t267.length co30] 25 (0, 0)) (by (with_reducible repeat (first | refine blk_drewN ?_ _ | refine blk_drew ?_ | refine blk_alloc ?_ _)); exact BK272.out)) : gb272 ≠ gb281)); have n14_ := Aside0.mk ((by rw [hg]; exact Nat.ne_of_gt (blk_lt (g := gb272) (o := .cells #[.slice Ao27 t264.length co27, .slice Ao30 t267.length co30] 25 (0, 0)) (by (with_reducible repeat (first | refine blk_drewN ?_ _ | refine blk_drew ?_ | refine blk_alloc ?_ _)); exact BK272.out)) : gb281 ≠ gb272)); clear HO_9; clear HO_273000; clear HO_273001; clear HO276; clear HO279; clear BK257; clear BK272; clear HB; have HO_9 := n0_; have HO_273000 := n1_; have HO_273001 := n2_; have HO276 := n3_; have HO279 := n4_; have BK257 := n5_; have BK272 := n6_; have HB := n7_; have BK281 := n8_; have GW281 := n9_; have GE281 := n10_; have NB257_281 := n11_; have NB281_257 := n12_; have NB272_281 := n13_; have NB281_272 := n14_; clear n0_ n1_ n2_ n3_ n4_ n5_ n6_ n7_ n8_ n9_ n10_ n11_ n12_ n13_ n14_; clear hb hbox hg; obtain ⟨Ao42, co42, eo42⟩ := Kd.R_slice HO276.out; subst eo42; have hnb43 := NB281_257.out; have hnc43 := NB257_281.out; have hnb44 := NB281_272.out; have hnc44 := NB272_281.out; have hcz45_0 : w41.cell? ⟨gb281, 0, none⟩ = some (.slice none 0 0) := (blk_cell BK281.out 0).trans rfl; have hcz45_1 : w41.cell? ⟨gb281, 1, none⟩ = some (.slice none 0 0) := (blk_cell BK281.out 1).trans rfl; have hfz45_0 := blk_frozen BK281.out 0; have hfz45_1 := blk_frozen BK281.out 1; obtain ⟨Ao46, co46, eo46⟩ := Kd.R_slice HO279.out; subst eo46) | ((with_reducible refine gate_callee (f := 20) rfl ?_); refine goesL_ (some 64) rfl rfl Try.func20 (by kernel_rfl) rfl #[.agg #[.slice Ao42 t274.length co42, .slice Ao46 t277.length co46]] rfl (by (try simp only [List.map_toArray, List.map_cons, List.map_nil]); first | done | rfl | (simp only [List.length_drop, List.length_take]; rfl)) ?_; (with_reducible refine (slot_Load.calls _ _ t274 _ _ t277 t282 t285 t286 _ ?side1 ?side2 ?side3 ?side4 A36.out).mono ?_); (case side1 => refine (Kd.R_reads' (e := 9) (base := w.heap.size) (ok := fun k_ => ((True ∧ some k_ ≠ (v260 : Value).ownBlock) ∧ some k_ ≠ (.slice Ao27 t264.length co27 : Value).ownBlock)) (n := t274.length) (c := co42) ?_).2.2; exact (by (with_reducible repeat (first | apply Kd.R_alloc | apply Kd.R_drewN | apply Kd.R_drew)); exact (Kd.R_mono (Kd.R_far (p := ⟨gb281, 1, none⟩) (Kd.R_far (p := ⟨gb281, 0, none⟩) (Kd.R_types HO276.out BK281.out (by decide)) (fun _ hk => hk.2) (.slice Ao42 t274.length co42)) (fun _ hk => hk.2) (.slice Ao46 t277.length co46)) (fun _ h_ => h_.1)))); (case side2 => exact (Kd.R_reads' HO276.out).2.1); (case side3 => refine (Kd.R_reads' (e := 73) (base := w.heap.size) (ok := fun k_ => (True ∧ some k_ ≠ (.slice Ao30 t267.length co30 : Value).ownBlock)) (n := t277.length) (c := co46) ?_).2.2; exact (by (with_reducible repeat (first | apply Kd.R_alloc | apply Kd.R_drewN | apply Kd.R_drew)); exact (Kd.R_mono (Kd.R_far (p := ⟨gb281, 1, none⟩) (Kd.R_far (p := ⟨gb281, 0, none⟩) (Kd.R_types HO279.out BK281.out (by decide)) (fun _ hk => hk.2) (.slice Ao42 t274.length co42)) (fun _ hk => hk.2) (.slice Ao46 t277.length co46)) (fun _ h_ => h_.1)))); (case side4 => exact (Kd.R_reads' HO279.out).2.1); rintro e w47 ⟨v283, rfl, ho0, hb⟩; refine ⟨_, rfl, ?_⟩; have n0_ := Aside0.mk (Kd.R_elder' (by (with_reducible repeat (first | apply Kd.R_alloc | apply Kd.R_drewN | apply Kd.R_drew)); exact (Kd.R_mono (Kd.R_far (p := ⟨gb281, 1, none⟩) (Kd.R_far (p := ⟨gb281, 0, none⟩) (Kd.R_types HO_9.out BK281.out (by decide)) (fun _ hk => hk.2) (.slice Ao42 t274.length co42)) (fun _ hk => hk.2) (.slice Ao46 t277.length co46)) (fun _ h_ => h_.1))) (Kd.R_base ho0) hb); have n1_ := Aside0.mk (Kd.R_elder' (by (with_reducible repeat (first | apply Kd.R_alloc | apply Kd.R_drewN | apply Kd.R_drew)); exact (Kd.R_mono (Kd.R_far (p := ⟨gb281, 1, none⟩) (Kd.R_far (p := ⟨gb281, 0, none⟩) (Kd.R_types HO_273000.out BK281.out (by decide)) (fun _ hk => hk.2) (.slice Ao42 t274.length co42)) (fun _ hk => hk.2) (.slice Ao46 t277.length co46)) (fun _ h_ => h_.1))) (Kd.R_base ho0) hb); have n2_ := Aside0.mk (Kd.R_below (by (with_reducible repeat (first | apply Kd.R_alloc | apply Kd.R_drewN | apply Kd.R_drew)); exact (Kd.R_mono (Kd.R_far (p := ⟨gb281, 1, none⟩) (Kd.R_far (p := ⟨gb281, 0, none⟩) (Kd.R_types HO_273001.out BK281.out (by decide)) (fun _ hk => hk.2) (.slice Ao42 t274.length co42)) (fun _ hk => hk.2) (.slice Ao46 t277.length co46)) (fun _ h_ => h_.1))) hb); have n3_ := Aside0.mk (Kd.R_elder' (by (with_reducible repeat (first | apply Kd.R_alloc | apply Kd.R_drewN | apply Kd.R_drew)); exact (Kd.R_mono (Kd.R_far (p := ⟨gb281, 1, none⟩) (Kd.R_far (p := ⟨gb281, 0, none⟩) (Kd.R_types HO276.out BK281.out (by decide)) (fun _ hk => hk.2) (.slice Ao42 t274.length co42)) (fun _ hk => hk.2) (.slice Ao46 t277.length co46)) (fun _ h_ => h_.1))) (Kd.R_base ho0) hb); have n4_ := Aside0.mk (Kd.R_below (by (with_reducible repeat (first | apply Kd.R_alloc | apply Kd.R_drewN | apply Kd.R_drew)); exact (Kd.R_mono (Kd.R_far (p := ⟨gb281, 1, none⟩) (Kd.R_far (p := ⟨gb281, 0, none⟩) (Kd.R_types HO279.out BK281.out (by decide)) (fun _ hk => hk.2) (.slice Ao42 t274.length co42)) (fun _ hk => hk.2) (.slice Ao46 t277.length co46)) (fun _ h_ => h_.1))) hb); have n5_ := Aside0.mk (Kd.R_lower (Kd.R_new' (Kd.R_new' (Kd.R_new' ho0 (Kd.R_lt (by (with_reducible repeat (first | apply Kd.R_alloc | apply Kd.R_drewN | apply Kd.R_drew)); exact (Kd.R_mono (Kd.R_far (p := ⟨gb281, 1, none⟩) (Kd.R_far (p := ⟨gb281, 0, none⟩) (Kd.R_types HO_9.out BK281.out (by decide)) (fun _ hk => hk.2) (.slice Ao42 t274.length co42)) (fun _ hk => hk.2) (.slice Ao46 t277.length co46)) (fun _ h_ => h_.1))))) (Kd.R_lt (by (with_reducible repeat (first | apply Kd.R_alloc | apply Kd.R_drewN | apply Kd.R_drew)); exact (Kd.R_mono (Kd.R_far (p := ⟨gb281, 1, none⟩) (Kd.R_far (p := ⟨gb281, 0, none⟩) (Kd.R_types HO_273000.out BK281.out (by decide)) (fun _ hk => hk.2) (.slice Ao42 t274.length co42)) (fun _ hk => hk.2) (.slice Ao46 t277.length co46)) (fun _ h_ => h_.1))))) (Kd.R_lt (by (with_reducible repeat (first | apply Kd.R_alloc | apply Kd.R_drewN | apply Kd.R_drew)); exact (Kd.R_mono (Kd.R_far (p := ⟨gb281, 1, none⟩) (Kd.R_far (p := ⟨gb281, 0, none⟩) (Kd.R_types HO276.out BK281.out (by decide)) (fun _ hk => hk.2) (.slice Ao42 t274.length co42)) (fun _ hk => hk.2) (.slice Ao46 t277.length co46)) (fun _ h_ => h_.1))))) (below_size (by repeat (first | (with_reducible first | exact HB.out | apply below_alloc | apply pw_below_drewN | apply below_drew1 | refine below_set ?_ GE257.out | refine below_set ?_ GE272.out | refine below_set ?_ GE281.out) | exact HB.out)))); have n6_ := Aside0.mk (blk_below (g := gb257) (o := .cells #[.slice A0_0 l0_0.length c0_0, .slice A0_1 l0_1.length c0_1] 25 (0, 0)) (by (with_reducible repeat (first | refine blk_drewN ?_ _ | refine blk_drew ?_ | refine blk_alloc ?_ _)); refine blk_far ?_ NB257_281.out _; (with_reducible repeat (first | refine blk_drewN ?_ _ | refine blk_drew ?_ | refine blk_alloc ?_ _)); refine blk_far ?_ NB257_281.out _; (with_reducible repeat (first | refine blk_drewN ?_ _ | refine blk_drew ?_ | refine blk_alloc ?_ _)); exact BK257.out) hb); have n7_ := Aside0.mk (blk_below (g := gb272) (o := .cells #[.slice Ao27 t264.length co27, .slice Ao30 t267.length co30] 25 (0, 0)) (by (with_reducible repeat (first | refine blk_drewN ?_ _ | refine blk_drew ?_ | refine blk_alloc ?_ _)); refine blk_far ?_ NB272_281.out _; (with_reducible repeat (first | refine blk_drewN ?_ _ | refine blk_drew ?_ | refine blk_alloc ?_ _)); refine blk_far ?_ NB272_281.out _; (with_reducible repeat (first | refine blk_drewN ?_ _ | refine blk_drew ?_ | refine blk_alloc ?_ _)); exact BK272.out) hb); have n8_ := Aside0.mk (blk_below (g := gb281) (o := .cells #[.slice Ao42 t274.length co42, .slice Ao46 t277.length co46] 25 (0, 0)) (by (with_reducible repeat (first | refine blk_drewN ?_ _ | refine blk_drew ?_ | refine blk_alloc ?_ _)); refine blk_put (cs := #[.slice Ao42 t274.length co42, .slice none 0 0]) ?_ 1 _ rfl; (with_reducible repeat (first | refine blk_drewN ?_ _ | refine blk_drew ?_ | refine blk_alloc ?_ _)); refine blk_put (cs := #[.slice none 0 0, .slice none 0 0]) ?_ 0 _ rfl; (with_reducible repeat (first | refine blk_drewN ?_ _ | refine blk_drew ?_ | refine blk_alloc ?_ _)); exact BK281.out) hb); have n9_ := Aside0.mk (below_step (by repeat (first | (with_reducible first | exact HB.out | apply below_alloc | apply pw_below_drewN | apply below_drew1 | refine below_set ?_ GE257.out | refine below_set ?_ GE272.out | refine below_set ?_ GE281.out) | exact HB.out)) hb); clear HO_9; clear HO_273000; clear HO_273001; clear HO276; clear HO279; clear BK257; clear BK272; clear BK281; clear HB; have HO_9 := n0_; have HO_273000 := n1_; have HO_273001 := n2_; have HO276 := n3_; have HO279 := n4_; have HO284 := n5_; have BK257 := n6_; have BK272 := n7_; have BK281 := n8_; have HB := n9_; clear n0_ n1_ n2_ n3_ n4_ n5_ n6_ n7_ n8_ n9_; (try clear hb); (try clear hb2); (try clear hk); (try clear hi); (try clear ho0)))
              (try simp only [Act.put, List.setIfInBounds_toArray, List.set_cons_zero, List.set_cons_succ])
              go_cut [73] (fun v73 wc => ∃ (kq : Nat) (x73_36 : Bool), v73 = .bool x73_36 ∧ Aside0 (sextonlaw06_SlotCrash.j2 kq l1 t259 t262 t270 t282 t285 x73_36 = some r) ∧ Aside0 (kq ≤ kj20) ∧ Aside0 (Kd.R Kd.string 9 wc w.heap.size (fun k_ => some k_ ≠ (v283 : Value).ownBlock ∧ some k_ ≠ ((.slice Ao27 t264.length co27) : Value).ownBlock ∧ some k_ ≠ ((.slice Ao42 t274.length co42) : Value).ownBlock) v260 t259) ∧ Aside0 (Kd.R Kd.string 9 wc w.heap.size (fun k_ => some k_ ≠ (v260 : Value).ownBlock ∧ some k_ ≠ ((.slice Ao27 t264.length co27) : Value).ownBlock ∧ some k_ ≠ ((.slice Ao42 t274.length co42) : Value).ownBlock) v283 t282) ∧ Aside0 (Kd.R Kd.string 9 wc w.heap.size (fun k_ => some k_ ≠ (v260 : Value).ownBlock ∧ some k_ ≠ (v283 : Value).ownBlock ∧ some k_ ≠ ((.slice Ao42 t274.length co42) : Value).ownBlock) (.slice Ao27 t264.length co27) t264) ∧ Aside0 (Kd.R k73 73 wc w.heap.size (fun k_ => some k_ ≠ ((.slice Ao46 t277.length co46) : Value).ownBlock) (.slice Ao30 t267.length co30) t267) ∧ Aside0 (Kd.R Kd.string 9 wc w.heap.size (fun k_ => some k_ ≠ (v260 : Value).ownBlock ∧ some k_ ≠ (v283 : Value).ownBlock ∧ some k_ ≠ ((.slice Ao27 t264.length co27) : Value).ownBlock) (.slice Ao42 t274.length co42) t274) ∧ Aside0 (Kd.R k73 73 wc w.heap.size (fun k_ => some k_ ≠ ((.slice Ao30 t267.length co30) : Value).ownBlock) (.slice Ao46 t277.length co46) t277) ∧ Aside0 (wc.heap[gb257]? = some (.cells #[(.slice A0_0 l0_0.length c0_0), (.slice A0_1 l0_1.length c0_1)] 25 (0, 0))) ∧ Aside0 (wc.heap[gb272]? = some (.cells #[(.slice Ao27 t264.length co27), (.slice Ao30 t267.length co30)] 25 (0, 0))) ∧ Aside0 (wc.heap[gb281]? = some (.cells #[(.slice Ao42 t274.length co42), (.slice Ao46 t277.length co46)] 25 (0, 0))) ∧ Aside0 (Below w.heap.size w wc))
              case first =>
                have H := HC37.out
                clear HC37
                by_cases c48 : t280 = 0
                · rw [if_pos c48] at H
                  have c48b0 : (t280 == 0) = true := beq_iff_eq.mpr c48
                  have c48b1 : (t280 != 0) = false := bne_eq_false_iff_eq.mpr c48
                  clear c48
                  (first | rw [c48b0] | (simp only [i64_w, i32_w]; rw [c48b0]) | skip)
                  have H' := Aside0.mk H
                  clear H
                  go_wp2
                  go_meet
                  case rel => exact ⟨_, ((t286 != 0)), (by first | rfl | (simp; done) | (simp [*]; done)), H', ⟨by have := HJ4.out; have := HJ20.out; first | omega | exact Nat.le_refl _⟩, ⟨by (with_reducible repeat (first | apply Kd.R_alloc | apply Kd.R_drewN | apply Kd.R_drew)); exact Kd.R_mono HO_9.out (fun _ hk => ⟨hk.2, ⟨hk.1.1, hk.1.2⟩⟩)⟩, ⟨by (with_reducible repeat (first | apply Kd.R_alloc | apply Kd.R_drewN | apply Kd.R_drew)); exact Kd.R_mono HO284.out (fun _ hk => ⟨hk.1.1.2, ⟨hk.1.2, hk.2⟩⟩)⟩, ⟨by (with_reducible repeat (first | apply Kd.R_alloc | apply Kd.R_drewN | apply Kd.R_drew)); exact Kd.R_mono HO_273000.out (fun _ hk => ⟨hk.1.1, ⟨hk.2, hk.1.2⟩⟩)⟩, ⟨by (with_reducible repeat (first | apply Kd.R_alloc | apply Kd.R_drewN | apply Kd.R_drew)); exact Kd.R_mono HO_273001.out (fun _ hk => hk.2)⟩, ⟨by (with_reducible repeat (first | apply Kd.R_alloc | apply Kd.R_drewN | apply Kd.R_drew)); exact Kd.R_mono HO276.out (fun _ hk => ⟨hk.1.1.2, ⟨hk.2, hk.1.2⟩⟩)⟩, ⟨by (with_reducible repeat (first | apply Kd.R_alloc | apply Kd.R_drewN | apply Kd.R_drew)); exact Kd.R_mono HO279.out (fun _ hk => hk.2)⟩, ⟨by (with_reducible repeat (first | refine blk_drewN ?_ _ | refine blk_drew ?_ | refine blk_alloc ?_ _)); exact BK257.out⟩, ⟨by (with_reducible repeat (first | refine blk_drewN ?_ _ | refine blk_drew ?_ | refine blk_alloc ?_ _)); exact BK272.out⟩, ⟨by (with_reducible repeat (first | refine blk_drewN ?_ _ | refine blk_drew ?_ | refine blk_alloc ?_ _)); exact BK281.out⟩, ⟨by repeat (first | (with_reducible first | exact HB.out | apply below_alloc | apply pw_below_drewN | apply below_drew1 | refine below_set ?_ GE257.out | refine below_set ?_ GE272.out | refine below_set ?_ GE281.out) | exact HB.out)⟩⟩
                · rw [if_neg c48] at H
                  have c48b0 : (t280 == 0) = false := beq_eq_false_iff_ne.mpr c48
                  have c48b1 : (t280 != 0) = true := bne_iff_ne.mpr c48
                  (first | rw [c48b0] | (simp only [i64_w, i32_w]; rw [c48b0]) | skip)
                  have H' := Aside0.mk H
                  clear H
                  go_wp2
                  go_meet
                  case rel => exact ⟨_, (true), (by first | rfl | (simp; done) | (simp [*]; done)), H', ⟨by have := HJ4.out; have := HJ20.out; first | omega | exact Nat.le_refl _⟩, ⟨by (with_reducible repeat (first | apply Kd.R_alloc | apply Kd.R_drewN | apply Kd.R_drew)); exact Kd.R_mono HO_9.out (fun _ hk => ⟨hk.2, ⟨hk.1.1, hk.1.2⟩⟩)⟩, ⟨by (with_reducible repeat (first | apply Kd.R_alloc | apply Kd.R_drewN | apply Kd.R_drew)); exact Kd.R_mono HO284.out (fun _ hk => ⟨hk.1.1.2, ⟨hk.1.2, hk.2⟩⟩)⟩, ⟨by (with_reducible repeat (first | apply Kd.R_alloc | apply Kd.R_drewN | apply Kd.R_drew)); exact Kd.R_mono HO_273000.out (fun _ hk => ⟨hk.1.1, ⟨hk.2, hk.1.2⟩⟩)⟩, ⟨by (with_reducible repeat (first | apply Kd.R_alloc | apply Kd.R_drewN | apply Kd.R_drew)); exact Kd.R_mono HO_273001.out (fun _ hk => hk.2)⟩, ⟨by (with_reducible repeat (first | apply Kd.R_alloc | apply Kd.R_drewN | apply Kd.R_drew)); exact Kd.R_mono HO276.out (fun _ hk => ⟨hk.1.1.2, ⟨hk.2, hk.1.2⟩⟩)⟩, ⟨by (with_reducible repeat (first | apply Kd.R_alloc | apply Kd.R_drewN | apply Kd.R_drew)); exact Kd.R_mono HO279.out (fun _ hk => hk.2)⟩, ⟨by (with_reducible repeat (first | refine blk_drewN ?_ _ | refine blk_drew ?_ | refine blk_alloc ?_ _)); exact BK257.out⟩, ⟨by (with_reducible repeat (first | refine blk_drewN ?_ _ | refine blk_drew ?_ | refine blk_alloc ?_ _)); exact BK272.out⟩, ⟨by (with_reducible repeat (first | refine blk_drewN ?_ _ | refine blk_drew ?_ | refine blk_alloc ?_ _)); exact BK281.out⟩, ⟨by repeat (first | (with_reducible first | exact HB.out | apply below_alloc | apply pw_below_drewN | apply below_drew1 | refine below_set ?_ GE257.out | refine below_set ?_ GE272.out | refine below_set ?_ GE281.out) | exact HB.out)⟩⟩
              case rest =>
                clear HC37
                try clear c1
                try clear c2
                try clear p2
                try clear c3
                try clear c4
                try clear c8
                try clear c9
                try clear c11
                try clear c11b0
                try clear c11b1
                try clear c16
                try clear c18
                try clear c19
                try clear c20
                try clear c21
                try clear c22
                try clear c28
                try clear c31
                try clear c31b0
                try clear c31b1
                try clear c32
                try clear c38
                try clear c43
                try clear c44
                try clear c48
                try clear c48b0
                try clear c48b1
                try clear hcz12_0
                try clear hcz12_1
                try clear hcz14_0
                try clear hcz14_1
                try clear hcz15_0
                try clear hcz15_1
                try clear hcz17_0
                try clear hcz17_1
                try clear hcz22_0
                try clear hcz22_1
                try clear hcz24_0
                try clear hcz24_1
                try clear hcz29_0
                try clear hcz29_1
                try clear hcz39_0
                try clear hcz39_1
                try clear hcz45_0
                try clear hcz45_1
                try clear hcz9_0
                try clear hcz9_1
                try clear hfz12_0
                try clear hfz12_1
                try clear hfz14_0
                try clear hfz14_1
                try clear hfz15_0
                try clear hfz15_1
                try clear hfz17_0
                try clear hfz17_1
                try clear hfz22_0
                try clear hfz22_1
                try clear hfz24_0
                try clear hfz24_1
                try clear hfz29_0
                try clear hfz29_1
                try clear hfz39_0
                try clear hfz39_1
                try clear hfz45_0
                try clear hfz45_1
                try clear hfz9_0
                try clear hfz9_1
                try clear p2
                obtain ⟨kq, x73_36, rfl, HA, HJ36, HO_9, HO_17, HO_273000, HO_273001, HO_282000, HO_282001, BK257, BK272, BK281, HB⟩ := hcut
                cases kq with
                | zero => exact absurd HA.out (by simp [sextonlaw06_SlotCrash.j2])
                | succ kj36 =>
                  have H := HA.out
                  clear HA
                  simp only [sextonlaw06_SlotCrash.j2] at H
                  by_cases c49 : x73_36 = true
                  · subst c49
                    have H1 : (some false) = some r := by rw [if_pos rfl] at H; exact H
                    exact absurd (H1.trans (congrArg some HRT.out)) (by decide)
                  · replace c49 := Bool.eq_false_iff.mpr c49
                    subst c49
                    have H1 : (if (wrap64 (t285 - 1)) = t262 then ((sextonref01_Texts.f kj36 t282 l1).bind fun t287 => ((sextonlaw06_shelved.f).bind fun t288 => (if t288 = true then (if t287 = true then (some true) else (if t270 = true then (some false) else (if t285 = t262 then ((sextonref01_Texts.f kj36 t282 t259).bind fun t289 => (some t289)) else (some false)))) else (some false)))) else ((sextonlaw06_shelved.f).bind fun t290 => (if t290 = true then (if t270 = true then (some false) else (if t285 = t262 then ((sextonref01_Texts.f kj36 t282 t259).bind fun t291 => (some t291)) else (some false))) else (some false)))) = some r := by rw [if_neg (show ¬ (false = true) by decide)] at H; exact H
                    clear H
                    have H := H1
                    clear H1
                    by_cases c50 : (wrap64 (t285 - 1)) = t262
                    · rw [if_pos c50] at H
                      have c50b0 : ((wrap64 (t285 - 1)) == t262) = true := beq_iff_eq.mpr c50
                      have c50b1 : ((wrap64 (t285 - 1)) != t262) = false := bne_eq_false_iff_eq.mpr c50
                      clear c50
                      replace H := Option.bind_eq_some_iff.mp H
                      obtain ⟨t287, A510, H⟩ := H
                      replace H : ((sextonlaw06_shelved.f).bind fun t288 => (if t288 = true then (if t287 = true then (some true) else (if t270 = true then (some false) else (if t285 = t262 then ((sextonref01_Texts.f kj36 t282 t259).bind fun t289 => (some t289)) else (some false)))) else (some false))) = some r := H
                      have A51 := Aside0.mk A510
                      clear A510
                      replace H := Option.bind_eq_some_iff.mp H
                      obtain ⟨t288, A520, H⟩ := H
                      replace H : (if t288 = true then (if t287 = true then (some true) else (if t270 = true then (some false) else (if t285 = t262 then ((sextonref01_Texts.f kj36 t282 t259).bind fun t289 => (some t289)) else (some false)))) else (some false)) = some r := H
                      have A52 := Aside0.mk A520
                      clear A520
                      by_cases c53 : t288 = true
                      · subst c53
                        have H1 : (if t287 = true then (some true) else (if t270 = true then (some false) else (if t285 = t262 then ((sextonref01_Texts.f kj36 t282 t259).bind fun t289 => (some t289)) else (some false)))) = some r := by rw [if_pos rfl] at H; exact H
                        clear H
                        have H := H1
                        clear H1
                        by_cases c54 : t287 = true
                        · subst c54
                          have H1 : (some true) = some r := by rw [if_pos rfl] at H; exact H
                          clear H
                          have H := H1
                          clear H1
                          obtain rfl := Option.some.inj H
                          obtain ⟨Ao55, co55, eo55⟩ := Kd.R_slice HO_17.out
                          subst eo55
                          go_wp2_with (first | (go_at_call 24; (with_reducible refine (sextonref01_Texts.calls kj36 _ _ t282 _ _ l1 true _ ?side1 ?side2 ?side3 ?side4 A51.out).mono ?_); (case side1 => repeat (first | exact (Kd.R_reads' HO_17.out).2.2 | (with_reducible refine Kd.C_alloc ?_ _) | (with_reducible refine Kd.C_drewN ?_ _) | (with_reducible refine Kd.C_drew ?_))); (case side2 => exact (Kd.R_reads' HO_17.out).2.1); (case side3 => repeat (first | exact (Kd.C_below HR1.out HB.out) | (with_reducible refine Kd.C_alloc ?_ _) | (with_reducible refine Kd.C_drewN ?_ _) | (with_reducible refine Kd.C_drew ?_))); (case side4 => exact HC1.out); rintro e w' ⟨rfl, ⟨nd, rfl⟩⟩) | ((with_reducible refine gate_callee (f := 22) rfl ?_); refine goesL_ (some 83) rfl rfl Try.func22 (by kernel_rfl) rfl #[] rfl (by (try simp only [List.map_toArray, List.map_cons, List.map_nil]); first | done | rfl | (simp only [List.length_drop, List.length_take]; rfl)) ?_; (with_reducible refine (sextonlaw06_shelved.calls  true _ A52.out).mono ?_); rintro e w56 ⟨rfl, hb⟩; refine ⟨_, rfl, ?_⟩; have n0_ := Aside0.mk (Kd.R_below (by (with_reducible repeat (first | apply Kd.R_alloc | apply Kd.R_drewN | apply Kd.R_drew)); exact HO_9.out) hb); have n1_ := Aside0.mk (Kd.R_below (by (with_reducible repeat (first | apply Kd.R_alloc | apply Kd.R_drewN | apply Kd.R_drew)); exact HO_17.out) hb); have n2_ := Aside0.mk (Kd.R_below (by (with_reducible repeat (first | apply Kd.R_alloc | apply Kd.R_drewN | apply Kd.R_drew)); exact HO_273000.out) hb); have n3_ := Aside0.mk (Kd.R_below (by (with_reducible repeat (first | apply Kd.R_alloc | apply Kd.R_drewN | apply Kd.R_drew)); exact HO_273001.out) hb); have n4_ := Aside0.mk (Kd.R_below (by (with_reducible repeat (first | apply Kd.R_alloc | apply Kd.R_drewN | apply Kd.R_drew)); exact HO_282000.out) hb); have n5_ := Aside0.mk (Kd.R_below (by (with_reducible repeat (first | apply Kd.R_alloc | apply Kd.R_drewN | apply Kd.R_drew)); exact HO_282001.out) hb); have n6_ := Aside0.mk (blk_below (g := gb257) (o := .cells #[.slice A0_0 l0_0.length c0_0, .slice A0_1 l0_1.length c0_1] 25 (0, 0)) (by (with_reducible repeat (first | refine blk_drewN ?_ _ | refine blk_drew ?_ | refine blk_alloc ?_ _)); exact BK257.out) hb); have n7_ := Aside0.mk (blk_below (g := gb272) (o := .cells #[.slice Ao27 t264.length co27, .slice Ao30 t267.length co30] 25 (0, 0)) (by (with_reducible repeat (first | refine blk_drewN ?_ _ | refine blk_drew ?_ | refine blk_alloc ?_ _)); exact BK272.out) hb); have n8_ := Aside0.mk (blk_below (g := gb281) (o := .cells #[.slice Ao42 t274.length co42, .slice Ao46 t277.length co46] 25 (0, 0)) (by (with_reducible repeat (first | refine blk_drewN ?_ _ | refine blk_drew ?_ | refine blk_alloc ?_ _)); exact BK281.out) hb); have n9_ := Aside0.mk (below_step (by repeat (first | (with_reducible first | exact HB.out | apply below_alloc | apply pw_below_drewN | apply below_drew1 | refine below_set ?_ GE257.out | refine below_set ?_ GE272.out | refine below_set ?_ GE281.out) | exact HB.out)) hb); clear HO_9; clear HO_17; clear HO_273000; clear HO_273001; clear HO_282000; clear HO_282001; clear BK257; clear BK272; clear BK281; clear HB; have HO_9 := n0_; have HO_17 := n1_; have HO_273000 := n2_; have HO_273001 := n3_; have HO_282000 := n4_; have HO_282001 := n5_; have BK257 := n6_; have BK272 := n7_; have BK281 := n8_; have HB := n9_; clear n0_ n1_ n2_ n3_ n4_ n5_ n6_ n7_ n8_ n9_; (try clear hb); (try clear hb2); (try clear hk); (try clear hi)))
                          go_ret
                          exact ⟨by first | rfl | (simp [errW_none, errW_some] <;> rfl) | (simp [*, errW_none, errW_some] <;> rfl), by repeat (first | (with_reducible first | exact HB.out | apply below_alloc | apply pw_below_drewN | apply below_drew1 | refine below_set ?_ GE257.out | refine below_set ?_ GE272.out | refine below_set ?_ GE281.out) | exact HB.out)⟩
                        · replace c54 := Bool.eq_false_iff.mpr c54
                          subst c54
                          have H1 : (if t270 = true then (some false) else (if t285 = t262 then ((sextonref01_Texts.f kj36 t282 t259).bind fun t289 => (some t289)) else (some false))) = some r := by rw [if_neg (show ¬ (false = true) by decide)] at H; exact H
                          clear H
                          have H := H1
                          clear H1
                          by_cases c57 : t270 = true
                          · subst c57
                            have H1 : (some false) = some r := by rw [if_pos rfl] at H; exact H
                            exact absurd (H1.trans (congrArg some HRT.out)) (by decide)
                          · replace c57 := Bool.eq_false_iff.mpr c57
                            subst c57
                            have H1 : (if t285 = t262 then ((sextonref01_Texts.f kj36 t282 t259).bind fun t289 => (some t289)) else (some false)) = some r := by rw [if_neg (show ¬ (false = true) by decide)] at H; exact H
                            clear H
                            have H := H1
                            clear H1
                            by_cases c60 : t285 = t262
                            · rw [if_pos c60] at H
                              have c60b0 : (t285 == t262) = true := beq_iff_eq.mpr c60
                              have c60b1 : (t285 != t262) = false := bne_eq_false_iff_eq.mpr c60
                              clear c60
                              replace H := Option.bind_eq_some_iff.mp H
                              obtain ⟨t289, A610, H⟩ := H
                              replace H : (some t289) = some r := H
                              have A61 := Aside0.mk A610
                              clear A610
                              obtain rfl := Option.some.inj H
                              obtain ⟨Ao62, co62, eo62⟩ := Kd.R_slice HO_17.out
                              subst eo62
                              go_wp2_with (first | (go_at_call 24; (with_reducible refine (sextonref01_Texts.calls kj36 _ _ t282 _ _ l1 false _ ?side1 ?side2 ?side3 ?side4 A51.out).mono ?_); (case side1 => repeat (first | exact (Kd.R_reads' HO_17.out).2.2 | (with_reducible refine Kd.C_alloc ?_ _) | (with_reducible refine Kd.C_drewN ?_ _) | (with_reducible refine Kd.C_drew ?_))); (case side2 => exact (Kd.R_reads' HO_17.out).2.1); (case side3 => repeat (first | exact (Kd.C_below HR1.out HB.out) | (with_reducible refine Kd.C_alloc ?_ _) | (with_reducible refine Kd.C_drewN ?_ _) | (with_reducible refine Kd.C_drew ?_))); (case side4 => exact HC1.out); rintro e w' ⟨rfl, ⟨nd, rfl⟩⟩) | ((with_reducible refine gate_callee (f := 22) rfl ?_); refine goesL_ (some 83) rfl rfl Try.func22 (by kernel_rfl) rfl #[] rfl (by (try simp only [List.map_toArray, List.map_cons, List.map_nil]); first | done | rfl | (simp only [List.length_drop, List.length_take]; rfl)) ?_; (with_reducible refine (sextonlaw06_shelved.calls  true _ A52.out).mono ?_); rintro e w63 ⟨rfl, hb⟩; refine ⟨_, rfl, ?_⟩; have n0_ := Aside0.mk (Kd.R_below (by (with_reducible repeat (first | apply Kd.R_alloc | apply Kd.R_drewN | apply Kd.R_drew)); exact HO_9.out) hb); have n1_ := Aside0.mk (Kd.R_below (by (with_reducible repeat (first | apply Kd.R_alloc | apply Kd.R_drewN | apply Kd.R_drew)); exact HO_17.out) hb); have n2_ := Aside0.mk (Kd.R_below (by (with_reducible repeat (first | apply Kd.R_alloc | apply Kd.R_drewN | apply Kd.R_drew)); exact HO_273000.out) hb); have n3_ := Aside0.mk (Kd.R_below (by (with_reducible repeat (first | apply Kd.R_alloc | apply Kd.R_drewN | apply Kd.R_drew)); exact HO_273001.out) hb); have n4_ := Aside0.mk (Kd.R_below (by (with_reducible repeat (first | apply Kd.R_alloc | apply Kd.R_drewN | apply Kd.R_drew)); exact HO_282000.out) hb); have n5_ := Aside0.mk (Kd.R_below (by (with_reducible repeat (first | apply Kd.R_alloc | apply Kd.R_drewN | apply Kd.R_drew)); exact HO_282001.out) hb); have n6_ := Aside0.mk (blk_below (g := gb257) (o := .cells #[.slice A0_0 l0_0.length c0_0, .slice A0_1 l0_1.length c0_1] 25 (0, 0)) (by (with_reducible repeat (first | refine blk_drewN ?_ _ | refine blk_drew ?_ | refine blk_alloc ?_ _)); exact BK257.out) hb); have n7_ := Aside0.mk (blk_below (g := gb272) (o := .cells #[.slice Ao27 t264.length co27, .slice Ao30 t267.length co30] 25 (0, 0)) (by (with_reducible repeat (first | refine blk_drewN ?_ _ | refine blk_drew ?_ | refine blk_alloc ?_ _)); exact BK272.out) hb); have n8_ := Aside0.mk (blk_below (g := gb281) (o := .cells #[.slice Ao42 t274.length co42, .slice Ao46 t277.length co46] 25 (0, 0)) (by (with_reducible repeat (first | refine blk_drewN ?_ _ | refine blk_drew ?_ | refine blk_alloc ?_ _)); exact BK281.out) hb); have n9_ := Aside0.mk (below_step (by repeat (first | (with_reducible first | exact HB.out | apply below_alloc | apply pw_below_drewN | apply below_drew1 | refine below_set ?_ GE257.out | refine below_set ?_ GE272.out | refine below_set ?_ GE281.out) | exact HB.out)) hb); clear HO_9; clear HO_17; clear HO_273000; clear HO_273001; clear HO_282000; clear HO_282001; clear BK257; clear BK272; clear BK281; clear HB; have HO_9 := n0_; have HO_17 := n1_; have HO_273000 := n2_; have HO_273001 := n3_; have HO_282000 := n4_; have HO_282001 := n5_; have BK257 := n6_; have BK272 := n7_; have BK281 := n8_; have HB := n9_; clear n0_ n1_ n2_ n3_ n4_ n5_ n6_ n7_ n8_ n9_; (try clear hb); (try clear hb2); (try clear hk); (try clear hi); obtain ⟨Ao64, co64, eo64⟩ := Kd.R_slice HO_9.out; subst eo64) | (go_at_call 24; (with_reducible refine (sextonref01_Texts.calls kj36 _ _ t282 _ _ t259 t289 _ ?side1 ?side2 ?side3 ?side4 A61.out).mono ?_); (case side1 => repeat (first | exact (Kd.R_reads' HO_17.out).2.2 | (with_reducible refine Kd.C_alloc ?_ _) | (with_reducible refine Kd.C_drewN ?_ _) | (with_reducible refine Kd.C_drew ?_))); (case side2 => exact (Kd.R_reads' HO_17.out).2.1); (case side3 => repeat (first | exact (Kd.R_reads' HO_9.out).2.2 | (with_reducible refine Kd.C_alloc ?_ _) | (with_reducible refine Kd.C_drewN ?_ _) | (with_reducible refine Kd.C_drew ?_))); (case side4 => exact (Kd.R_reads' HO_9.out).2.1); rintro e w' ⟨rfl, ⟨nd, rfl⟩⟩))
                              go_ret
                              exact ⟨by first | rfl | (simp [errW_none, errW_some] <;> rfl) | (simp [*, errW_none, errW_some] <;> rfl), by repeat (first | (with_reducible first | exact HB.out | apply below_alloc | apply pw_below_drewN | apply below_drew1 | refine below_set ?_ GE257.out | refine below_set ?_ GE272.out | refine below_set ?_ GE281.out) | exact HB.out)⟩
                            · rw [if_neg c60] at H
                              exact absurd (H.trans (congrArg some HRT.out)) (by decide)
                      · replace c53 := Bool.eq_false_iff.mpr c53
                        subst c53
                        have H1 : (some false) = some r := by rw [if_neg (show ¬ (false = true) by decide)] at H; exact H
                        exact absurd (H1.trans (congrArg some HRT.out)) (by decide)
                    · rw [if_neg c50] at H
                      have c50b0 : ((wrap64 (t285 - 1)) == t262) = false := beq_eq_false_iff_ne.mpr c50
                      have c50b1 : ((wrap64 (t285 - 1)) != t262) = true := bne_iff_ne.mpr c50
                      replace H := Option.bind_eq_some_iff.mp H
                      obtain ⟨t290, A690, H⟩ := H
                      replace H : (if t290 = true then (if t270 = true then (some false) else (if t285 = t262 then ((sextonref01_Texts.f kj36 t282 t259).bind fun t291 => (some t291)) else (some false))) else (some false)) = some r := H
                      have A69 := Aside0.mk A690
                      clear A690
                      by_cases c70 : t290 = true
                      · subst c70
                        have H1 : (if t270 = true then (some false) else (if t285 = t262 then ((sextonref01_Texts.f kj36 t282 t259).bind fun t291 => (some t291)) else (some false))) = some r := by rw [if_pos rfl] at H; exact H
                        clear H
                        have H := H1
                        clear H1
                        by_cases c71 : t270 = true
                        · subst c71
                          have H1 : (some false) = some r := by rw [if_pos rfl] at H; exact H
                          exact absurd (H1.trans (congrArg some HRT.out)) (by decide)
                        · replace c71 := Bool.eq_false_iff.mpr c71
                          subst c71
                          have H1 : (if t285 = t262 then ((sextonref01_Texts.f kj36 t282 t259).bind fun t291 => (some t291)) else (some false)) = some r := by rw [if_neg (show ¬ (false = true) by decide)] at H; exact H
                          clear H
                          have H := H1
                          clear H1
                          by_cases c73 : t285 = t262
                          · rw [if_pos c73] at H
                            have c73b0 : (t285 == t262) = true := beq_iff_eq.mpr c73
                            have c73b1 : (t285 != t262) = false := bne_eq_false_iff_eq.mpr c73
                            clear c73
                            replace H := Option.bind_eq_some_iff.mp H
                            obtain ⟨t291, A740, H⟩ := H
                            replace H : (some t291) = some r := H
                            have A74 := Aside0.mk A740
                            clear A740
                            obtain rfl := Option.some.inj H
                            go_wp2_with (first | ((with_reducible refine gate_callee (f := 22) rfl ?_); refine goesL_ (some 83) rfl rfl Try.func22 (by kernel_rfl) rfl #[] rfl (by (try simp only [List.map_toArray, List.map_cons, List.map_nil]); first | done | rfl | (simp only [List.length_drop, List.length_take]; rfl)) ?_; (with_reducible refine (sextonlaw06_shelved.calls  true _ A69.out).mono ?_); rintro e w75 ⟨rfl, hb⟩; refine ⟨_, rfl, ?_⟩; have n0_ := Aside0.mk (Kd.R_below (by (with_reducible repeat (first | apply Kd.R_alloc | apply Kd.R_drewN | apply Kd.R_drew)); exact HO_9.out) hb); have n1_ := Aside0.mk (Kd.R_below (by (with_reducible repeat (first | apply Kd.R_alloc | apply Kd.R_drewN | apply Kd.R_drew)); exact HO_17.out) hb); have n2_ := Aside0.mk (Kd.R_below (by (with_reducible repeat (first | apply Kd.R_alloc | apply Kd.R_drewN | apply Kd.R_drew)); exact HO_273000.out) hb); have n3_ := Aside0.mk (Kd.R_below (by (with_reducible repeat (first | apply Kd.R_alloc | apply Kd.R_drewN | apply Kd.R_drew)); exact HO_273001.out) hb); have n4_ := Aside0.mk (Kd.R_below (by (with_reducible repeat (first | apply Kd.R_alloc | apply Kd.R_drewN | apply Kd.R_drew)); exact HO_282000.out) hb); have n5_ := Aside0.mk (Kd.R_below (by (with_reducible repeat (first | apply Kd.R_alloc | apply Kd.R_drewN | apply Kd.R_drew)); exact HO_282001.out) hb); have n6_ := Aside0.mk (blk_below (g := gb257) (o := .cells #[.slice A0_0 l0_0.length c0_0, .slice A0_1 l0_1.length c0_1] 25 (0, 0)) (by (with_reducible repeat (first | refine blk_drewN ?_ _ | refine blk_drew ?_ | refine blk_alloc ?_ _)); exact BK257.out) hb); have n7_ := Aside0.mk (blk_below (g := gb272) (o := .cells #[.slice Ao27 t264.length co27, .slice Ao30 t267.length co30] 25 (0, 0)) (by (with_reducible repeat (first | refine blk_drewN ?_ _ | refine blk_drew ?_ | refine blk_alloc ?_ _)); exact BK272.out) hb); have n8_ := Aside0.mk (blk_below (g := gb281) (o := .cells #[.slice Ao42 t274.length co42, .slice Ao46 t277.length co46] 25 (0, 0)) (by (with_reducible repeat (first | refine blk_drewN ?_ _ | refine blk_drew ?_ | refine blk_alloc ?_ _)); exact BK281.out) hb); have n9_ := Aside0.mk (below_step (by repeat (first | (with_reducible first | exact HB.out | apply below_alloc | apply pw_below_drewN | apply below_drew1 | refine below_set ?_ GE257.out | refine below_set ?_ GE272.out | refine below_set ?_ GE281.out) | exact HB.out)) hb); clear HO_9; clear HO_17; clear HO_273000; clear HO_273001; clear HO_282000; clear HO_282001; clear BK257; clear BK272; clear BK281; clear HB; have HO_9 := n0_; have HO_17 := n1_; have HO_273000 := n2_; have HO_273001 := n3_; have HO_282000 := n4_; have HO_282001 := n5_; have BK257 := n6_; have BK272 := n7_; have BK281 := n8_; have HB := n9_; clear n0_ n1_ n2_ n3_ n4_ n5_ n6_ n7_ n8_ n9_; (try clear hb); (try clear hb2); (try clear hk); (try clear hi); obtain ⟨Ao76, co76, eo76⟩ := Kd.R_slice HO_17.out; subst eo76; obtain ⟨Ao77, co77, eo77⟩ := Kd.R_slice HO_9.out; subst eo77) | (go_at_call 24; (with_reducible refine (sextonref01_Texts.calls kj36 _ _ t282 _ _ t259 t291 _ ?side1 ?side2 ?side3 ?side4 A74.out).mono ?_); (case side1 => repeat (first | exact (Kd.R_reads' HO_17.out).2.2 | (with_reducible refine Kd.C_alloc ?_ _) | (with_reducible refine Kd.C_drewN ?_ _) | (with_reducible refine Kd.C_drew ?_))); (case side2 => exact (Kd.R_reads' HO_17.out).2.1); (case side3 => repeat (first | exact (Kd.R_reads' HO_9.out).2.2 | (with_reducible refine Kd.C_alloc ?_ _) | (with_reducible refine Kd.C_drewN ?_ _) | (with_reducible refine Kd.C_drew ?_))); (case side4 => exact (Kd.R_reads' HO_9.out).2.1); rintro e w' ⟨rfl, ⟨nd, rfl⟩⟩))
                            go_ret
                            exact ⟨by first | rfl | (simp [errW_none, errW_some] <;> rfl) | (simp [*, errW_none, errW_some] <;> rfl), by repeat (first | (with_reducible first | exact HB.out | apply below_alloc | apply pw_below_drewN | apply below_drew1 | refine below_set ?_ GE257.out | refine below_set ?_ GE272.out | refine below_set ?_ GE281.out) | exact HB.out)⟩
                          · rw [if_neg c73] at H
                            exact absurd (H.trans (congrArg some HRT.out)) (by decide)
                      · replace c70 := Bool.eq_false_iff.mpr c70
                        subst c70
                        have H1 : (some false) = some r := by rw [if_neg (show ¬ (false = true) by decide)] at H; exact H
                        exact absurd (H1.trans (congrArg some HRT.out)) (by decide)

end Go.Proofs.Ytkgcaheddhfpgaa.P
/-
  The plain statement of SlotCrash: behind a Save that was stopped at any deed, and any crash, the pages are loaded that there were, or the new ones.
-/
namespace Go.Proofs.Ytkgcaheddhfpgaa.Pure
open Go.RowKit Go.Proofs Go.Proofs.CodecPlain Go.Proofs.YtkgcaheddhfpgaaW.PrintWords Go.Proofs.YtkgcaheddhfpgaaW.PrintLast Go.Proofs.Plain Go.Proofs.Ytkgcaheddhfpgaa.P Go.Proofs.Ytkgcaheddhfpgaa.Opens

theorem SlotCrash (l0_0 : List ByteArray) (l0_1 : List S73) (l1 : List ByteArray) (a2 : Int) (l3 : List Bool) {okp : Prop} (h0 : okp) {okq : Prop} (h1 : okq) (h2 : OkInt .i64 a2) {okr : Prop} (h3 : okr) : ∃ k, sextonlaw06_SlotCrash.f k l0_0 l0_1 l1 a2 l3 = some true := by
  have ha : -9223372036854775808 ≤ a2 ∧ a2 ≤ 9223372036854775807 := by
    simp only [OkInt, Lit.wf, Bool.and_eq_true, decide_eq_true_eq] at h2
    exact h2
  obtain ⟨far, K, e⟩ := far6_ends l0_0 l0_1 l1
  have out : ∀ k, sextonlaw06_SlotCrash.j0 (k + 1) l1 a2 l3 true l0_0 l0_1 = some true := fun k => by
    simp only [sextonlaw06_SlotCrash.j0]
    rw [if_pos trivial]
  have out1 : ∀ k p q d B U, sextonlaw06_SlotCrash.j1 (k + 1) l1 l3 p q d true B U = some true := fun k p q d B U => by
    simp only [sextonlaw06_SlotCrash.j1, sextonlaw06_shelved.f]
    rw [if_pos trivial]
    rfl
  by_cases hk0 : (l0_1.length : Int) > 0 ∨ (l3.length : Int) > 200 ∨ far = true ∨ (loadV l0_0 l0_1).2.2.2 ≠ 0 ∨ (saveV l0_0 l0_1 l1 a2).2.2.2 ≠ 0
  · refine ⟨K + 2, ?_⟩
    unfold sextonlaw06_SlotCrash.f
    have e' := e (K + 2) (by omega)
    simp only at e'
    rw [e', Option.bind_some]
    cases far
    rotate_left
    · rw [if_pos rfl]; exact out (K + 1)
    rw [if_neg (by decide)]
    by_cases hw : (l0_1.length : Int) > 0
    · rw [if_pos hw]; exact out (K + 1)
    rw [if_neg hw]
    by_cases hk : (l3.length : Int) > 200
    · rw [decide_eq_true hk]; exact out (K + 1)
    rw [decide_eq_false hk]
    simp only [sextonlaw06_SlotCrash.j0, slot_Load.f, slot_Save.f, Option.bind_some]
    rw [if_neg (by decide)]
    by_cases hg : (loadV l0_0 l0_1).2.2.2 = 0
    rotate_left
    · rw [if_neg hg]; exact out1 K _ _ _ _ _
    rw [if_pos hg]
    have hsv : (saveV l0_0 l0_1 l1 a2).2.2.2 ≠ 0 := by
      rcases hk0 with q | q | q | q | q
      · exact absurd q hw
      · exact absurd q hk
      · cases q
      · exact absurd hg q
      · exact q
    rw [show ((saveV l0_0 l0_1 l1 a2).2.2.2 != 0) = true by rw [bne_iff_ne]; exact hsv]
    exact out1 K _ _ _ _ _
  obtain ⟨n1, n2, n3, n4, n5⟩ : ¬ (l0_1.length : Int) > 0 ∧ ¬ (l3.length : Int) > 200 ∧ ¬ far = true ∧ (loadV l0_0 l0_1).2.2.2 = 0 ∧ (saveV l0_0 l0_1 l1 a2).2.2.2 = 0 := by
    refine ⟨fun q => hk0 (.inl q), fun q => hk0 (.inr (.inl q)), fun q => hk0 (.inr (.inr (.inl q))), ?_, ?_⟩
    · exact Classical.byContradiction fun q => hk0 (.inr (.inr (.inr (.inl q))))
    · exact Classical.byContradiction fun q => hk0 (.inr (.inr (.inr (.inr q))))
  have hnil : l0_1 = [] := List.eq_nil_of_length_eq_zero (by omega)
  subst hnil
  have hf : far = false := by simpa using n3
  subst hf
  obtain ⟨n, tb, pg, hld⟩ := save_load n5
  obtain ⟨B, U, d, e9, hsv⟩ : ∃ B U d e9, saveV l0_0 [] l1 a2 = (B, U, d, e9) := ⟨_, _, _, _, rfl⟩
  rw [hsv] at n5
  simp only at n5
  subst n5
  obtain ⟨c, hc1, hc2, hc3⟩ := save_crash hld ha.1 ha.2 hsv (keepB l3)
  have hln := (check_len hld.chk).2.1
  have hfl := freeK_length tb l0_0.length
  have hm := (save_ok hld (by rw [hsv])).1.most
  have hpg : pg.length ≤ 1000 := by rw [hld.pages]; unfold pagesV; rw [List.length_map]; have := loadV_tb l0_0 []; rw [hld.load] at this; exact this
  have hn0 : 0 ≤ n := by
    obtain ⟨_, _, _, _, _, _, ht, hnn, _⟩ := hld.twin
    rw [← hnn]; exact ht.num.2.2
  have hn1 : n ≤ 4294967295 := by
    obtain ⟨n0, t0, k0, m1, t1, k1, ht, hnn, _⟩ := hld.twin
    have g0 := ver_hi (rdOf ByteArray.empty (contW l0_0 []) 0)
    have g1 := ver_hi (rdOf ByteArray.empty (contW l0_0 []) (0 + 1))
    rw [ht.v0] at g0
    rw [ht.v1] at g1
    simp only at g0 g1
    rw [← hnn]
    unfold newN
    split <;> omega
  obtain ⟨K2, e2⟩ := refTexts l1 l1 (by omega)
  obtain ⟨K3, e3⟩ := refTexts pg l1 (by omega)
  obtain ⟨K4, e4⟩ := refTexts pg pg (by omega)
  refine ⟨K + K2 + K3 + K4 + 3, ?_⟩
  unfold sextonlaw06_SlotCrash.f
  have e' := e (K + K2 + K3 + K4 + 3) (by omega)
  have e2' := e2 (K + K2 + K3 + K4) (by omega)
  have e3' := e3 (K + K2 + K3 + K4) (by omega)
  have e4' := e4 (K + K2 + K3 + K4) (by omega)
  simp only at e' e2' e3' e4'
  rw [e', Option.bind_some, if_neg (by decide), if_neg n1, decide_eq_false n2]
  simp only [sextonlaw06_SlotCrash.j0, slot_Load.f, slot_Save.f, Option.bind_some, hld.load, hsv]
  rw [if_neg (by decide), if_pos trivial]
  simp only [bne_self_eq_false, sextonlaw06_SlotCrash.j1, disk_Crash.f, hc1, Option.bind_some, slot_Load.f]
  rw [if_neg (by decide), if_pos trivial]
  rcases hc3 with hc3 | ⟨rfl, hc3⟩
  · simp only [hc3.load, bne_self_eq_false, sextonlaw06_SlotCrash.j2, sextonlaw06_shelved.f]
    rw [if_neg (by decide), wrap_at (x := n + 1 - 1) (by omega) (by omega), if_pos (by omega), e2', Option.bind_some, Option.bind_some, if_pos rfl, decide_eq_true trivial, if_pos rfl]
  · simp only [hc3.load, bne_self_eq_false, sextonlaw06_SlotCrash.j2, sextonlaw06_shelved.f]
    rw [if_neg (by decide), wrap_at (x := n - 1) (by omega) (by omega), if_neg (by omega), Option.bind_some, if_pos rfl, if_neg (by decide), if_pos trivial, e4', Option.bind_some, decide_eq_true trivial]
end Go.Proofs.Ytkgcaheddhfpgaa.Pure
