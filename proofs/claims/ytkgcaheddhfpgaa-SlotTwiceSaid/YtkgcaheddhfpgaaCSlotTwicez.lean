/-
  The walk and the plain statement of SlotTwice, joined.
-/
import Derived.Test.YtkgcaheddhfpgaaPx0
import Derived.Test.YtkgcaheddhfpgaaC06a
import Derived.Test.YtkgcaheddhfpgaaC06e
import Derived.Test.YtkgcaheddhfpgaaC06f
import Derived.Test.YtkgcaheddhfpgaaC06g
import Derived.Test.YtkgcaheddhfpgaaC06h
set_option linter.unusedVariables false
set_option linter.unusedSimpArgs false
/-
  The walk of SlotTwice, by the print; the ways that would answer false are closed.
-/
namespace Go.Proofs.Ytkgcaheddhfpgaa.P
open Go.RowKit Go.Proofs.YtkgcaheddhfpgaaW.PrintWords Go.Proofs.YtkgcaheddhfpgaaW.PrintLast Go.Proofs.YtkgcaheddhfpgaaW.PrintMore
attribute [local go_sem] max2_int min2_int max_two min_two max_three min_three max_four min_four   -- for this text's walks alone
set_option linter.unusedVariables false
set_option linter.unusedSimpArgs false

/-! ### sextonlaw06_SlotTwice: function 8 -/
def sextonlaw06_SlotTwice.j0 : Nat → Int → Int → Bool → List ByteArray → List (S73) → List ByteArray → List (S73) → Option (Bool)
  | 0, _, _, _, _, _, _, _ => none
  | k + 1, x7, x10, x39, x235000, x235001, x244000, x244001 => if x39 = true then ((sextonlaw06_shelved.f).bind fun t244 => (if t244 = true then (if x7 = 0 then (if x10 = 41 then (some true) else (some (x10 == 2))) else (some true)) else (some false))) else ((slot_Load.f x235000 x235001).bind fun bt245 => ((slot_Load.f x244000 x244001).bind fun bt250 => ((sextonlaw06_shelved.f).bind fun t255 => (if t255 = true then (if bt245.2.2 = 0 then (if bt250.2.2 = bt245.2.2 then ((sextonref01_Texts.f k bt245.1 bt250.1).bind fun t256 => (if t256 = true then (some ((wrap64 (bt250.2.1 - 1)) == bt245.2.1)) else (some false))) else (some false)) else (some false)) else (some false)))))
def sextonlaw06_SlotTwice.f (k : Nat) (l0_0 : List ByteArray) (l0_1 : List (S73)) (l1 : List ByteArray) : Option (Bool) := (sextonlaw06_far.f k l0_0 l0_1 l1).bind fun t225 => (if t225 = true then (some true) else ((slot_Save.f l0_0 l0_1 l1 (-1)).bind fun bt226 => ((slot_Save.f bt226.1 bt226.2.1 l1 (-1)).bind fun bt235 => (if bt226.2.2.2 = 0 then (sextonlaw06_SlotTwice.j0 k bt226.2.2.2 bt235.2.2.2 (bt235.2.2.2 != 0) bt226.1 bt226.2.1 bt235.1 bt235.2.1) else (sextonlaw06_SlotTwice.j0 k bt226.2.2.2 bt235.2.2.2 true bt226.1 bt226.2.1 bt235.1 bt235.2.1)))))
set_option maxHeartbeats 8000000 in
set_option maxRecDepth 100000 in
theorem sextonlaw06_SlotTwice.calls (k : Nat) (A0_0 : Option Addr) (c0_0 : Nat) (l0_0 : List ByteArray) (A0_1 : Option Addr) (c0_1 : Nat) (l0_1 : List (S73)) (A1 : Option Addr) (c1 : Nat) (l1 : List ByteArray) (r : Bool) (hrt : r = true := by rfl) (w : World) (hr0_0 : Kd.C Kd.string w A0_0 l0_0.length l0_0) (hc0_0 : l0_0.length ≤ c0_0) (hr0_1 : Kd.C k73 w A0_1 l0_1.length l0_1) (hc0_1 : l0_1.length ≤ c0_1) (hr1 : Kd.C Kd.string w A1 l1.length l1) (hc1 : l1.length ≤ c1) (h : sextonlaw06_SlotTwice.f k l0_0 l0_1 l1 = some r) :
    Calls Try.prog 8 #[.agg #[.slice A0_0 l0_0.length c0_0, .slice A0_1 l0_1.length c0_1], .slice A1 l1.length c1] w fun e w' => e = .returned (.bool r) ∧ Below w.heap.size w w' := by
  have HRT := Aside0.mk hrt
  have hu25 := Try.underlying25
  have HR0_0 := Aside0.mk hr0_0
  have HC0_0 := Aside0.mk hc0_0
  clear hr0_0 hc0_0
  have HR0_1 := Aside0.mk hr0_1
  have HC0_1 := Aside0.mk hc0_1
  clear hr0_1 hc0_1
  have HR1 := Aside0.mk hr1
  have HC1 := Aside0.mk hc1
  clear hr1 hc1
  have HB := Aside0.mk (Below.refl w.heap.size w)
  have H : ((sextonlaw06_far.f k l0_0 l0_1 l1).bind fun t225 => (if t225 = true then (some true) else ((slot_Save.f l0_0 l0_1 l1 (-1)).bind fun bt226 => ((slot_Save.f bt226.1 bt226.2.1 l1 (-1)).bind fun bt235 => (if bt226.2.2.2 = 0 then (sextonlaw06_SlotTwice.j0 k bt226.2.2.2 bt235.2.2.2 (bt235.2.2.2 != 0) bt226.1 bt226.2.1 bt235.1 bt235.2.1) else (sextonlaw06_SlotTwice.j0 k bt226.2.2.2 bt235.2.2.2 true bt226.1 bt226.2.1 bt235.1 bt235.2.1)))))) = some r := h
  clear h
  replace H := Option.bind_eq_some_iff.mp H
  obtain ⟨t225, A30, H⟩ := H
  replace H : (if t225 = true then (some true) else ((slot_Save.f l0_0 l0_1 l1 (-1)).bind fun bt226 => ((slot_Save.f bt226.1 bt226.2.1 l1 (-1)).bind fun bt235 => (if bt226.2.2.2 = 0 then (sextonlaw06_SlotTwice.j0 k bt226.2.2.2 bt235.2.2.2 (bt235.2.2.2 != 0) bt226.1 bt226.2.1 bt235.1 bt235.2.1) else (sextonlaw06_SlotTwice.j0 k bt226.2.2.2 bt235.2.2.2 true bt226.1 bt226.2.1 bt235.1 bt235.2.1))))) = some r := H
  have A3 := Aside0.mk A30
  clear A30
  by_cases c4 : t225 = true
  · subst c4
    have H1 : (some true) = some r := by rw [if_pos rfl] at H; exact H
    clear H
    have H := H1
    clear H1
    obtain rfl := Option.some.inj H
    go_enter Try.func8, Try.ntmps8
    go_wp2_with (first | ((with_reducible refine gate_dst (N := 2) rfl ?_); refine box_event ?hg (N := 2) ?hd (cs := #[.slice A0_0 l0_0.length c0_0, .slice A0_1 l0_1.length c0_1]) (t := 25) ?hr ?_; (case hd => rfl); (case hg => rfl); (case hr => first | (go_simp; done) | (go_simp; rfl)); intro gb224 hg w5 hbox hb; have n0_ := Aside0.mk (below_step (by repeat (first | (with_reducible first | exact HB.out | apply below_alloc | apply pw_below_drewN | apply below_drew1) | exact HB.out)) hb); have n1_ := Aside0.mk (hbox); have n2_ := Aside0.mk ((by rw [hg]; exact (below_size (by repeat (first | (with_reducible first | exact HB.out | apply below_alloc | apply pw_below_drewN | apply below_drew1) | exact HB.out))) : w.heap.size ≤ gb224)); have n3_ := Aside0.mk ((by rw [hg]; exact (below_size (by repeat (first | (with_reducible first | exact HB.out | apply below_alloc | apply pw_below_drewN | apply below_drew1) | exact HB.out))) : w.heap.size ≤ gb224)); clear HB; have HB := n0_; have BK224 := n1_; have GW224 := n2_; have GE224 := n3_; clear n0_ n1_ n2_ n3_; clear hb hbox hg; have hcz6_0 : w5.cell? ⟨gb224, 0, none⟩ = some (.slice A0_0 l0_0.length c0_0) := (blk_cell BK224.out 0).trans rfl; have hcz6_1 : w5.cell? ⟨gb224, 1, none⟩ = some (.slice A0_1 l0_1.length c0_1) := (blk_cell BK224.out 1).trans rfl; have hfz6_0 := blk_frozen BK224.out 0; have hfz6_1 := blk_frozen BK224.out 1) | ((with_reducible refine gate_callee (f := 19) rfl ?_); refine goesL_ (some 19) rfl rfl Try.func19 (by kernel_rfl) rfl #[.agg #[.slice A0_0 l0_0.length c0_0, .slice A0_1 l0_1.length c0_1], .slice A1 l1.length c1] rfl (by (try simp only [List.map_toArray, List.map_cons, List.map_nil]); first | done | rfl | (simp only [List.length_drop, List.length_take]; rfl)) ?_; (with_reducible refine (sextonlaw06_far.calls k _ _ l0_0 _ _ l0_1 _ _ l1 true _ ?side1 ?side2 ?side3 ?side4 ?side5 ?side6 A3.out).mono ?_); (case side1 => repeat (first | exact (Kd.C_below HR0_0.out HB.out) | (with_reducible refine Kd.C_alloc ?_ _) | (with_reducible refine Kd.C_drewN ?_ _) | (with_reducible refine Kd.C_drew ?_))); (case side2 => exact HC0_0.out); (case side3 => repeat (first | exact (Kd.C_below HR0_1.out HB.out) | (with_reducible refine Kd.C_alloc ?_ _) | (with_reducible refine Kd.C_drewN ?_ _) | (with_reducible refine Kd.C_drew ?_))); (case side4 => exact HC0_1.out); (case side5 => repeat (first | exact (Kd.C_below HR1.out HB.out) | (with_reducible refine Kd.C_alloc ?_ _) | (with_reducible refine Kd.C_drewN ?_ _) | (with_reducible refine Kd.C_drew ?_))); (case side6 => exact HC1.out); rintro e w7 ⟨rfl, hb⟩; refine ⟨_, rfl, ?_⟩; have n0_ := Aside0.mk (blk_below (g := gb224) (o := .cells #[.slice A0_0 l0_0.length c0_0, .slice A0_1 l0_1.length c0_1] 25 (0, 0)) (by (with_reducible repeat (first | refine blk_drewN ?_ _ | refine blk_drew ?_ | refine blk_alloc ?_ _)); exact BK224.out) hb); have n1_ := Aside0.mk (below_step (by repeat (first | (with_reducible first | exact HB.out | apply below_alloc | apply pw_below_drewN | apply below_drew1 | refine below_set ?_ GE224.out) | exact HB.out)) hb); clear BK224; clear HB; have BK224 := n0_; have HB := n1_; clear n0_ n1_; (try clear hb); (try clear hb2); (try clear hk); (try clear hi)))
    go_ret
    exact ⟨by first | rfl | (simp [errW_none, errW_some] <;> rfl) | (simp [*, errW_none, errW_some] <;> rfl), by repeat (first | (with_reducible first | exact HB.out | apply below_alloc | apply pw_below_drewN | apply below_drew1 | refine below_set ?_ GE224.out) | exact HB.out)⟩
  · replace c4 := Bool.eq_false_iff.mpr c4
    subst c4
    have H1 : ((slot_Save.f l0_0 l0_1 l1 (-1)).bind fun bt226 => ((slot_Save.f bt226.1 bt226.2.1 l1 (-1)).bind fun bt235 => (if bt226.2.2.2 = 0 then (sextonlaw06_SlotTwice.j0 k bt226.2.2.2 bt235.2.2.2 (bt235.2.2.2 != 0) bt226.1 bt226.2.1 bt235.1 bt235.2.1) else (sextonlaw06_SlotTwice.j0 k bt226.2.2.2 bt235.2.2.2 true bt226.1 bt226.2.1 bt235.1 bt235.2.1)))) = some r := by rw [if_neg (show ¬ (false = true) by decide)] at H; exact H
    clear H
    have H := H1
    clear H1
    replace H := Option.bind_eq_some_iff.mp H
    obtain ⟨⟨t226, t229, t232, t233⟩, A80, H⟩ := H
    replace H : ((slot_Save.f t226 t229 l1 (-1)).bind fun bt235 => (if t233 = 0 then (sextonlaw06_SlotTwice.j0 k t233 bt235.2.2.2 (bt235.2.2.2 != 0) t226 t229 bt235.1 bt235.2.1) else (sextonlaw06_SlotTwice.j0 k t233 bt235.2.2.2 true t226 t229 bt235.1 bt235.2.1))) = some r := H
    have A8 := Aside0.mk A80
    clear A80
    replace H := Option.bind_eq_some_iff.mp H
    obtain ⟨⟨t235, t238, t241, t242⟩, A90, H⟩ := H
    replace H : (if t233 = 0 then (sextonlaw06_SlotTwice.j0 k t233 t242 (t242 != 0) t226 t229 t235 t238) else (sextonlaw06_SlotTwice.j0 k t233 t242 true t226 t229 t235 t238)) = some r := H
    have A9 := Aside0.mk A90
    clear A90
    have HC10 := Aside0.mk H
    clear H
    go_enter Try.func8, Try.ntmps8
    go_upto_region 5 with (first | ((with_reducible refine gate_dst (N := 2) rfl ?_); refine box_event ?hg (N := 2) ?hd (cs := #[.slice A0_0 l0_0.length c0_0, .slice A0_1 l0_1.length c0_1]) (t := 25) ?hr ?_; (case hd => rfl); (case hg => rfl); (case hr => first | (go_simp; done) | (go_simp; rfl)); intro gb224 hg w11 hbox hb; have n0_ := Aside0.mk (below_step (by repeat (first | (with_reducible first | exact HB.out | apply below_alloc | apply pw_below_drewN | apply below_drew1) | exact HB.out)) hb); have n1_ := Aside0.mk (hbox); have n2_ := Aside0.mk ((by rw [hg]; exact (below_size (by repeat (first | (with_reducible first | exact HB.out | apply below_alloc | apply pw_below_drewN | apply below_drew1) | exact HB.out))) : w.heap.size ≤ gb224)); have n3_ := Aside0.mk ((by rw [hg]; exact (below_size (by repeat (first | (with_reducible first | exact HB.out | apply below_alloc | apply pw_below_drewN | apply below_drew1) | exact HB.out))) : w.heap.size ≤ gb224)); clear HB; have HB := n0_; have BK224 := n1_; have GW224 := n2_; have GE224 := n3_; clear n0_ n1_ n2_ n3_; clear hb hbox hg; have hcz12_0 : w11.cell? ⟨gb224, 0, none⟩ = some (.slice A0_0 l0_0.length c0_0) := (blk_cell BK224.out 0).trans rfl; have hcz12_1 : w11.cell? ⟨gb224, 1, none⟩ = some (.slice A0_1 l0_1.length c0_1) := (blk_cell BK224.out 1).trans rfl; have hfz12_0 := blk_frozen BK224.out 0; have hfz12_1 := blk_frozen BK224.out 1) | ((with_reducible refine gate_callee (f := 19) rfl ?_); refine goesL_ (some 19) rfl rfl Try.func19 (by kernel_rfl) rfl #[.agg #[.slice A0_0 l0_0.length c0_0, .slice A0_1 l0_1.length c0_1], .slice A1 l1.length c1] rfl (by (try simp only [List.map_toArray, List.map_cons, List.map_nil]); first | done | rfl | (simp only [List.length_drop, List.length_take]; rfl)) ?_; (with_reducible refine (sextonlaw06_far.calls k _ _ l0_0 _ _ l0_1 _ _ l1 false _ ?side1 ?side2 ?side3 ?side4 ?side5 ?side6 A3.out).mono ?_); (case side1 => repeat (first | exact (Kd.C_below HR0_0.out HB.out) | (with_reducible refine Kd.C_alloc ?_ _) | (with_reducible refine Kd.C_drewN ?_ _) | (with_reducible refine Kd.C_drew ?_))); (case side2 => exact HC0_0.out); (case side3 => repeat (first | exact (Kd.C_below HR0_1.out HB.out) | (with_reducible refine Kd.C_alloc ?_ _) | (with_reducible refine Kd.C_drewN ?_ _) | (with_reducible refine Kd.C_drew ?_))); (case side4 => exact HC0_1.out); (case side5 => repeat (first | exact (Kd.C_below HR1.out HB.out) | (with_reducible refine Kd.C_alloc ?_ _) | (with_reducible refine Kd.C_drewN ?_ _) | (with_reducible refine Kd.C_drew ?_))); (case side6 => exact HC1.out); rintro e w13 ⟨rfl, hb⟩; refine ⟨_, rfl, ?_⟩; have n0_ := Aside0.mk (blk_below (g := gb224) (o := .cells #[.slice A0_0 l0_0.length c0_0, .slice A0_1 l0_1.length c0_1] 25 (0, 0)) (by (with_reducible repeat (first | refine blk_drewN ?_ _ | refine blk_drew ?_ | refine blk_alloc ?_ _)); exact BK224.out) hb); have n1_ := Aside0.mk (below_step (by repeat (first | (with_reducible first | exact HB.out | apply below_alloc | apply pw_below_drewN | apply below_drew1 | refine below_set ?_ GE224.out) | exact HB.out)) hb); clear BK224; clear HB; have BK224 := n0_; have HB := n1_; clear n0_ n1_; (try clear hb); (try clear hb2); (try clear hk); (try clear hi); have hcz14_0 : w13.cell? ⟨gb224, 0, none⟩ = some (.slice A0_0 l0_0.length c0_0) := (blk_cell BK224.out 0).trans rfl; have hcz14_1 : w13.cell? ⟨gb224, 1, none⟩ = some (.slice A0_1 l0_1.length c0_1) := (blk_cell BK224.out 1).trans rfl; have hfz14_0 := blk_frozen BK224.out 0; have hfz14_1 := blk_frozen BK224.out 1) | ((with_reducible refine gate_callee (f := 21) rfl ?_); refine goesL_ (some 23) rfl rfl Try.func21 (by kernel_rfl) rfl #[.agg #[.slice A0_0 l0_0.length c0_0, .slice A0_1 l0_1.length c0_1], .slice A1 l1.length c1, .int .i64 (-1)] rfl (by (try simp only [List.map_toArray, List.map_cons, List.map_nil]); first | done | rfl | (simp only [List.length_drop, List.length_take]; rfl)) ?_; (with_reducible refine (slot_Save.calls _ _ l0_0 _ _ l0_1 _ _ l1 (-1) t226 t229 t232 t233 _ ?side1 ?side2 ?side3 ?side4 ?side5 ?side6 A8.out).mono ?_); (case side1 => repeat (first | exact (Kd.C_below HR0_0.out HB.out) | (with_reducible refine Kd.C_alloc ?_ _) | (with_reducible refine Kd.C_drewN ?_ _) | (with_reducible refine Kd.C_drew ?_))); (case side2 => exact HC0_0.out); (case side3 => repeat (first | exact (Kd.C_below HR0_1.out HB.out) | (with_reducible refine Kd.C_alloc ?_ _) | (with_reducible refine Kd.C_drewN ?_ _) | (with_reducible refine Kd.C_drew ?_))); (case side4 => exact HC0_1.out); (case side5 => repeat (first | exact (Kd.C_below HR1.out HB.out) | (with_reducible refine Kd.C_alloc ?_ _) | (with_reducible refine Kd.C_drewN ?_ _) | (with_reducible refine Kd.C_drew ?_))); (case side6 => exact HC1.out); rintro e w15 ⟨v227, v230, rfl, ho0, ho1, hb⟩; refine ⟨_, rfl, ?_⟩; have n0_ := Aside0.mk (Kd.R_lower ho0 (below_size (by repeat (first | (with_reducible first | exact HB.out | apply below_alloc | apply pw_below_drewN | apply below_drew1 | refine below_set ?_ GE224.out) | exact HB.out)))); have n1_ := Aside0.mk (Kd.R_lower ho1 (below_size (by repeat (first | (with_reducible first | exact HB.out | apply below_alloc | apply pw_below_drewN | apply below_drew1 | refine below_set ?_ GE224.out) | exact HB.out)))); have n2_ := Aside0.mk (blk_below (g := gb224) (o := .cells #[.slice A0_0 l0_0.length c0_0, .slice A0_1 l0_1.length c0_1] 25 (0, 0)) (by (with_reducible repeat (first | refine blk_drewN ?_ _ | refine blk_drew ?_ | refine blk_alloc ?_ _)); exact BK224.out) hb); have n3_ := Aside0.mk (below_step (by repeat (first | (with_reducible first | exact HB.out | apply below_alloc | apply pw_below_drewN | apply below_drew1 | refine below_set ?_ GE224.out) | exact HB.out)) hb); clear BK224; clear HB; have HO228 := n0_; have HO231 := n1_; have BK224 := n2_; have HB := n3_; clear n0_ n1_ n2_ n3_; (try clear hb); (try clear hb2); (try clear hk); (try clear hi); (try clear ho0); (try clear ho1)) | ((with_reducible refine gate_dst (N := 5) rfl ?_); refine box_event ?hg (N := 5) ?hd (cs := #[.slice none 0 0, .slice none 0 0]) (t := 25) ?hr ?_; (case hd => rfl); (case hg => rfl); (case hr => first | (go_simp; done) | (go_simp; rfl)); intro gb234 hg w16 hbox hb; have n0_ := Aside0.mk (Kd.R_below (by (with_reducible repeat (first | apply Kd.R_alloc | apply Kd.R_drewN | apply Kd.R_drew)); exact HO228.out) hb); have n1_ := Aside0.mk (Kd.R_below (by (with_reducible repeat (first | apply Kd.R_alloc | apply Kd.R_drewN | apply Kd.R_drew)); exact HO231.out) hb); have n2_ := Aside0.mk (blk_below (g := gb224) (o := .cells #[.slice A0_0 l0_0.length c0_0, .slice A0_1 l0_1.length c0_1] 25 (0, 0)) (by (with_reducible repeat (first | refine blk_drewN ?_ _ | refine blk_drew ?_ | refine blk_alloc ?_ _)); exact BK224.out) hb); have n3_ := Aside0.mk (below_step (by repeat (first | (with_reducible first | exact HB.out | apply below_alloc | apply pw_below_drewN | apply below_drew1 | refine below_set ?_ GE224.out) | exact HB.out)) hb); have n4_ := Aside0.mk (hbox); have n5_ := Aside0.mk ((by rw [hg]; exact (below_size (by repeat (first | (with_reducible first | exact HB.out | apply below_alloc | apply pw_below_drewN | apply below_drew1 | refine below_set ?_ GE224.out) | exact HB.out))) : w.heap.size ≤ gb234)); have n6_ := Aside0.mk ((by rw [hg]; exact (below_size (by repeat (first | (with_reducible first | exact HB.out | apply below_alloc | apply pw_below_drewN | apply below_drew1 | refine below_set ?_ GE224.out) | exact HB.out))) : w.heap.size ≤ gb234)); have n7_ := Aside0.mk ((by rw [hg]; exact Nat.ne_of_lt (blk_lt (g := gb224) (o := .cells #[.slice A0_0 l0_0.length c0_0, .slice A0_1 l0_1.length c0_1] 25 (0, 0)) (by (with_reducible repeat (first | refine blk_drewN ?_ _ | refine blk_drew ?_ | refine blk_alloc ?_ _)); exact BK224.out)) : gb224 ≠ gb234)); have n8_ := Aside0.mk ((by rw [hg]; exact Nat.ne_of_gt (blk_lt (g := gb224) (o := .cells #[.slice A0_0 l0_0.length c0_0, .slice A0_1 l0_1.length c0_1] 25 (0, 0)) (by (with_reducible repeat (first | refine blk_drewN ?_ _ | refine blk_drew ?_ | refine blk_alloc ?_ _)); exact BK224.out)) : gb234 ≠ gb224)); clear HO228; clear HO231; clear BK224; clear HB; have HO228 := n0_; have HO231 := n1_; have BK224 := n2_; have HB := n3_; have BK234 := n4_; have GW234 := n5_; have GE234 := n6_; have NB224_234 := n7_; have NB234_224 := n8_; clear n0_ n1_ n2_ n3_ n4_ n5_ n6_ n7_ n8_; clear hb hbox hg; obtain ⟨Ao17, co17, eo17⟩ := Kd.R_slice HO228.out; subst eo17; have hnb18 := NB234_224.out; have hnc18 := NB224_234.out; have hcz19_0 : w16.cell? ⟨gb234, 0, none⟩ = some (.slice none 0 0) := (blk_cell BK234.out 0).trans rfl; have hcz19_1 : w16.cell? ⟨gb234, 1, none⟩ = some (.slice none 0 0) := (blk_cell BK234.out 1).trans rfl; have hfz19_0 := blk_frozen BK234.out 0; have hfz19_1 := blk_frozen BK234.out 1; obtain ⟨Ao20, co20, eo20⟩ := Kd.R_slice HO231.out; subst eo20) | ((with_reducible refine gate_callee (f := 21) rfl ?_); refine goesL_ (some 30) rfl rfl Try.func21 (by kernel_rfl) rfl #[.agg #[.slice Ao17 t226.length co17, .slice Ao20 t229.length co20], .slice A1 l1.length c1, .int .i64 (-1)] rfl (by (try simp only [List.map_toArray, List.map_cons, List.map_nil]); first | done | rfl | (simp only [List.length_drop, List.length_take]; rfl)) ?_; (with_reducible refine (slot_Save.calls _ _ t226 _ _ t229 _ _ l1 (-1) t235 t238 t241 t242 _ ?side1 ?side2 ?side3 ?side4 ?side5 ?side6 A9.out).mono ?_); (case side1 => refine (Kd.R_reads' (e := 9) (base := w.heap.size) (ok := fun k_ => True) (n := t226.length) (c := co17) ?_).2.2; exact (by (with_reducible repeat (first | apply Kd.R_alloc | apply Kd.R_drewN | apply Kd.R_drew)); exact (Kd.R_mono (Kd.R_far (p := ⟨gb234, 1, none⟩) (Kd.R_far (p := ⟨gb234, 0, none⟩) (Kd.R_types HO228.out BK234.out (by decide)) (fun _ hk => hk.2) (.slice Ao17 t226.length co17)) (fun _ hk => hk.2) (.slice Ao20 t229.length co20)) (fun _ h_ => h_.1)))); (case side2 => exact (Kd.R_reads' HO228.out).2.1); (case side3 => refine (Kd.R_reads' (e := 73) (base := w.heap.size) (ok := fun k_ => True) (n := t229.length) (c := co20) ?_).2.2; exact (by (with_reducible repeat (first | apply Kd.R_alloc | apply Kd.R_drewN | apply Kd.R_drew)); exact (Kd.R_mono (Kd.R_far (p := ⟨gb234, 1, none⟩) (Kd.R_far (p := ⟨gb234, 0, none⟩) (Kd.R_types HO231.out BK234.out (by decide)) (fun _ hk => hk.2) (.slice Ao17 t226.length co17)) (fun _ hk => hk.2) (.slice Ao20 t229.length co20)) (fun _ h_ => h_.1)))); (case side4 => exact (Kd.R_reads' HO231.out).2.1); (case side5 => exact Kd.C_below HR1.out (by repeat (first | (with_reducible first | exact HB.out | apply below_alloc | apply pw_below_drewN | apply below_drew1 | refine below_set ?_ GE224.out | refine below_set ?_ GE234.out) | exact HB.out))); (case side6 => exact HC1.out); rintro e w21 ⟨v236, v239, rfl, ho0, ho1, hb⟩; refine ⟨_, rfl, ?_⟩; have n0_ := Aside0.mk (Kd.R_elder' (by (with_reducible repeat (first | apply Kd.R_alloc | apply Kd.R_drewN | apply Kd.R_drew)); exact (Kd.R_mono (Kd.R_far (p := ⟨gb234, 1, none⟩) (Kd.R_far (p := ⟨gb234, 0, none⟩) (Kd.R_types HO228.out BK234.out (by decide)) (fun _ hk => hk.2) (.slice Ao17 t226.length co17)) (fun _ hk => hk.2) (.slice Ao20 t229.length co20)) (fun _ h_ => h_.1))) (Kd.R_base ho0) hb); have n1_ := Aside0.mk (Kd.R_elder' (by (with_reducible repeat (first | apply Kd.R_alloc | apply Kd.R_drewN | apply Kd.R_drew)); exact (Kd.R_mono (Kd.R_far (p := ⟨gb234, 1, none⟩) (Kd.R_far (p := ⟨gb234, 0, none⟩) (Kd.R_types HO231.out BK234.out (by decide)) (fun _ hk => hk.2) (.slice Ao17 t226.length co17)) (fun _ hk => hk.2) (.slice Ao20 t229.length co20)) (fun _ h_ => h_.1))) (Kd.R_base ho1) hb); have n2_ := Aside0.mk (Kd.R_lower (Kd.R_new' ho0 (Kd.R_lt (by (with_reducible repeat (first | apply Kd.R_alloc | apply Kd.R_drewN | apply Kd.R_drew)); exact (Kd.R_mono (Kd.R_far (p := ⟨gb234, 1, none⟩) (Kd.R_far (p := ⟨gb234, 0, none⟩) (Kd.R_types HO228.out BK234.out (by decide)) (fun _ hk => hk.2) (.slice Ao17 t226.length co17)) (fun _ hk => hk.2) (.slice Ao20 t229.length co20)) (fun _ h_ => h_.1))))) (below_size (by repeat (first | (with_reducible first | exact HB.out | apply below_alloc | apply pw_below_drewN | apply below_drew1 | refine below_set ?_ GE224.out | refine below_set ?_ GE234.out) | exact HB.out)))); have n3_ := Aside0.mk (Kd.R_lower (Kd.R_new' ho1 (Kd.R_lt (by (with_reducible repeat (first | apply Kd.R_alloc | apply Kd.R_drewN | apply Kd.R_drew)); exact (Kd.R_mono (Kd.R_far (p := ⟨gb234, 1, none⟩) (Kd.R_far (p := ⟨gb234, 0, none⟩) (Kd.R_types HO231.out BK234.out (by decide)) (fun _ hk => hk.2) (.slice Ao17 t226.length co17)) (fun _ hk => hk.2) (.slice Ao20 t229.length co20)) (fun _ h_ => h_.1))))) (below_size (by repeat (first | (with_reducible first | exact HB.out | apply below_alloc | apply pw_below_drewN | apply below_drew1 | refine below_set ?_ GE224.out | refine below_set ?_ GE234.out) | exact HB.out)))); have n4_ := Aside0.mk (blk_below (g := gb224) (o := .cells #[.slice A0_0 l0_0.length c0_0, .slice A0_1 l0_1.length c0_1] 25 (0, 0)) (by (with_reducible repeat (first | refine blk_drewN ?_ _ | refine blk_drew ?_ | refine blk_alloc ?_ _)); refine blk_far ?_ NB224_234.out _; (with_reducible repeat (first | refine blk_drewN ?_ _ | refine blk_drew ?_ | refine blk_alloc ?_ _)); refine blk_far ?_ NB224_234.out _; (with_reducible repeat (first | refine blk_drewN ?_ _ | refine blk_drew ?_ | refine blk_alloc ?_ _)); exact BK224.out) hb); have n5_ := Aside0.mk (blk_below (g := gb234) (o := .cells #[.slice Ao17 t226.length co17, .slice Ao20 t229.length co20] 25 (0, 0)) (by (with_reducible repeat (first | refine blk_drewN ?_ _ | refine blk_drew ?_ | refine blk_alloc ?_ _)); refine blk_put (cs := #[.slice Ao17 t226.length co17, .slice none 0 0]) ?_ 1 _ rfl; (with_reducible repeat (first | refine blk_drewN ?_ _ | refine blk_drew ?_ | refine blk_alloc ?_ _)); refine blk_put (cs := #[.slice none 0 0, .slice none 0 0]) ?_ 0 _ rfl; (with_reducible repeat (first | refine blk_drewN ?_ _ | refine blk_drew ?_ | refine blk_alloc ?_ _)); exact BK234.out) hb); have n6_ := Aside0.mk (below_step (by repeat (first | (with_reducible first | exact HB.out | apply below_alloc | apply pw_below_drewN | apply below_drew1 | refine below_set ?_ GE224.out | refine below_set ?_ GE234.out) | exact HB.out)) hb); clear HO228; clear HO231; clear BK224; clear BK234; clear HB; have HO228 := n0_; have HO231 := n1_; have HO237 := n2_; have HO240 := n3_; have BK224 := n4_; have BK234 := n5_; have HB := n6_; clear n0_ n1_ n2_ n3_ n4_ n5_ n6_; (try clear hb); (try clear hb2); (try clear hk); (try clear hi); (try clear ho0); (try clear ho1)) | ((with_reducible refine gate_dst (N := 8) rfl ?_); refine box_event ?hg (N := 8) ?hd (cs := #[.slice none 0 0, .slice none 0 0]) (t := 25) ?hr ?_; (case hd => rfl); (case hg => rfl); (case hr => first | (go_simp; done) | (go_simp; rfl)); intro gb243 hg w22 hbox hb; have n0_ := Aside0.mk (Kd.R_below (by (with_reducible repeat (first | apply Kd.R_alloc | apply Kd.R_drewN | apply Kd.R_drew)); exact HO228.out) hb); have n1_ := Aside0.mk (Kd.R_below (by (with_reducible repeat (first | apply Kd.R_alloc | apply Kd.R_drewN | apply Kd.R_drew)); exact HO231.out) hb); have n2_ := Aside0.mk (Kd.R_below (by (with_reducible repeat (first | apply Kd.R_alloc | apply Kd.R_drewN | apply Kd.R_drew)); exact HO237.out) hb); have n3_ := Aside0.mk (Kd.R_below (by (with_reducible repeat (first | apply Kd.R_alloc | apply Kd.R_drewN | apply Kd.R_drew)); exact HO240.out) hb); have n4_ := Aside0.mk (blk_below (g := gb224) (o := .cells #[.slice A0_0 l0_0.length c0_0, .slice A0_1 l0_1.length c0_1] 25 (0, 0)) (by (with_reducible repeat (first | refine blk_drewN ?_ _ | refine blk_drew ?_ | refine blk_alloc ?_ _)); exact BK224.out) hb); have n5_ := Aside0.mk (blk_below (g := gb234) (o := .cells #[.slice Ao17 t226.length co17, .slice Ao20 t229.length co20] 25 (0, 0)) (by (with_reducible repeat (first | refine blk_drewN ?_ _ | refine blk_drew ?_ | refine blk_alloc ?_ _)); exact BK234.out) hb); have n6_ := Aside0.mk (below_step (by repeat (first | (with_reducible first | exact HB.out | apply below_alloc | apply pw_below_drewN | apply below_drew1 | refine below_set ?_ GE224.out | refine below_set ?_ GE234.out) | exact HB.out)) hb); have n7_ := Aside0.mk (hbox); have n8_ := Aside0.mk ((by rw [hg]; exact (below_size (by repeat (first | (with_reducible first | exact HB.out | apply below_alloc | apply pw_below_drewN | apply below_drew1 | refine below_set ?_ GE224.out | refine below_set ?_ GE234.out) | exact HB.out))) : w.heap.size ≤ gb243)); have n9_ := Aside0.mk ((by rw [hg]; exact (below_size (by repeat (first | (with_reducible first | exact HB.out | apply below_alloc | apply pw_below_drewN | apply below_drew1 | refine below_set ?_ GE224.out | refine below_set ?_ GE234.out) | exact HB.out))) : w.heap.size ≤ gb243)); have n10_ := Aside0.mk ((by rw [hg]; exact Nat.ne_of_lt (blk_lt (g := gb224) (o := .cells #[.slice A0_0 l0_0.length c0_0, .slice A0_1 l0_1.length c0_1] 25 (0, 0)) (by (with_reducible repeat (first | refine blk_drewN ?_ _ | refine blk_drew ?_ | refine blk_alloc ?_ _)); exact BK224.out)) : gb224 ≠ gb243)); have n11_ := Aside0.mk ((by rw [hg]; exact Nat.ne_of_gt (blk_lt (g := gb224) (o := .cells #[.slice A0_0 l0_0.length c0_0, .slice A0_1 l0_1.length c0_1] 25 (0, 0)) (by (with_reducible repeat (first | refine blk_drewN ?_ _ | refine blk_drew ?_ | refine blk_alloc ?_ _)); exact BK224.out)) : gb243 ≠ gb224)); have n12_ := Aside0.mk ((by rw [hg]; exact Nat.ne_of_lt (blk_lt (g := gb234) (o := .cells #[.slice Ao17 t226.length co17, .slice Ao20 t229.length co20] 25 (0, 0)) (by (with_reducible repeat (first | refine blk_drewN ?_ _ | refine blk_drew ?_ | refine blk_alloc ?_ _)); exact BK234.out)) : gb234 ≠ gb243)); have n13_ := Aside0.mk ((by rw [hg]; exact Nat.ne_of_gt (blk_lt (g := gb234) (o := .cells #[.slice Ao17 t226.length co17, .slice Ao20 t229.length co20] 25 (0, 0)) (by (with_reducible repeat (first | refine blk_drewN ?_ _ | refine blk_drew ?_ | refine blk_alloc ?_ _)); exact BK234.out)) : gb243 ≠ gb234)); clear HO228; clear HO231; clear HO237; clear HO240; clear BK224; clear BK234; clear HB; have HO228 := n0_; have HO231 := n1_; have HO237 := n2_; have HO240 := n3_; have BK224 := n4_; have BK234 := n5_; have HB := n6_; have BK243 := n7_; have GW243 := n8_; have GE243 := n9_; have NB224_243 := n10_; have NB243_224 := n11_; have NB234_243 := n12_; have NB243_234 := n13_; clear n0_ n1_ n2_ n3_ n4_ n5_ n6_ n7_ n8_ n9_ n10_ n11_ n12_ n13_; clear hb hbox hg; obtain ⟨Ao23, co23, eo23⟩ := Kd.R_slice HO237.out; subst eo23; have hnb24 := NB243_224.out; have hnc24 := NB224_243.out; have hnb25 := NB243_234.out; have hnc25 := NB234_243.out; have hcz26_0 : w22.cell? ⟨gb243, 0, none⟩ = some (.slice none 0 0) := (blk_cell BK243.out 0).trans rfl; have hcz26_1 : w22.cell? ⟨gb243, 1, none⟩ = some (.slice none 0 0) := (blk_cell BK243.out 1).trans rfl; have hfz26_0 := blk_frozen BK243.out 0; have hfz26_1 := blk_frozen BK243.out 1; obtain ⟨Ao27, co27, eo27⟩ := Kd.R_slice HO240.out; subst eo27))
    (try simp only [Act.put, List.setIfInBounds_toArray, List.set_cons_zero, List.set_cons_succ])
    go_cut [39] (fun v39 wc => ∃ (kq : Nat) (x39_9 : Bool), v39 = .bool x39_9 ∧ Aside0 (sextonlaw06_SlotTwice.j0 kq t233 t242 x39_9 t226 t229 t235 t238 = some r) ∧ Aside0 (kq ≤ k) ∧ Aside0 (Kd.R Kd.string 9 wc w.heap.size (fun k_ => some k_ ≠ ((.slice Ao23 t235.length co23) : Value).ownBlock) (.slice Ao17 t226.length co17) t226) ∧ Aside0 (Kd.R k73 73 wc w.heap.size (fun k_ => some k_ ≠ ((.slice Ao27 t238.length co27) : Value).ownBlock) (.slice Ao20 t229.length co20) t229) ∧ Aside0 (Kd.R Kd.string 9 wc w.heap.size (fun k_ => some k_ ≠ ((.slice Ao17 t226.length co17) : Value).ownBlock) (.slice Ao23 t235.length co23) t235) ∧ Aside0 (Kd.R k73 73 wc w.heap.size (fun k_ => some k_ ≠ ((.slice Ao20 t229.length co20) : Value).ownBlock) (.slice Ao27 t238.length co27) t238) ∧ Aside0 (wc.heap[gb224]? = some (.cells #[(.slice A0_0 l0_0.length c0_0), (.slice A0_1 l0_1.length c0_1)] 25 (0, 0))) ∧ Aside0 (wc.heap[gb234]? = some (.cells #[(.slice Ao17 t226.length co17), (.slice Ao20 t229.length co20)] 25 (0, 0))) ∧ Aside0 (wc.heap[gb243]? = some (.cells #[(.slice Ao23 t235.length co23), (.slice Ao27 t238.length co27)] 25 (0, 0))) ∧ Aside0 (Below w.heap.size w wc))
    case first =>
      have H := HC10.out
      clear HC10
      by_cases c28 : t233 = 0
      · rw [if_pos c28] at H
        have c28b0 : (t233 == 0) = true := beq_iff_eq.mpr c28
        have c28b1 : (t233 != 0) = false := bne_eq_false_iff_eq.mpr c28
        clear c28
        (first | rw [c28b0] | (simp only [i64_w, i32_w]; rw [c28b0]) | skip)
        have H' := Aside0.mk H
        clear H
        go_wp2
        go_meet
        case rel => exact ⟨_, ((t242 != 0)), (by first | rfl | (simp; done) | (simp [*]; done)), H', ⟨by first | omega | exact Nat.le_refl _⟩, ⟨by (with_reducible repeat (first | apply Kd.R_alloc | apply Kd.R_drewN | apply Kd.R_drew)); exact Kd.R_mono (Kd.R_far (p := ⟨gb243, 1, none⟩) (Kd.R_far (p := ⟨gb243, 0, none⟩) (Kd.R_types HO228.out BK243.out (by decide)) (fun _ hk => hk.2) (.slice Ao23 t235.length co23)) (fun _ hk => hk.2) (.slice Ao27 t238.length co27)) (fun _ hk => hk.1.2)⟩, ⟨by (with_reducible repeat (first | apply Kd.R_alloc | apply Kd.R_drewN | apply Kd.R_drew)); exact Kd.R_mono (Kd.R_far (p := ⟨gb243, 1, none⟩) (Kd.R_far (p := ⟨gb243, 0, none⟩) (Kd.R_types HO231.out BK243.out (by decide)) (fun _ hk => hk.2) (.slice Ao23 t235.length co23)) (fun _ hk => hk.2) (.slice Ao27 t238.length co27)) (fun _ hk => hk.1.2)⟩, ⟨by (with_reducible repeat (first | apply Kd.R_alloc | apply Kd.R_drewN | apply Kd.R_drew)); exact Kd.R_mono (Kd.R_far (p := ⟨gb243, 1, none⟩) (Kd.R_far (p := ⟨gb243, 0, none⟩) (Kd.R_types HO237.out BK243.out (by decide)) (fun _ hk => hk.2) (.slice Ao23 t235.length co23)) (fun _ hk => hk.2) (.slice Ao27 t238.length co27)) (fun _ hk => hk.1.2)⟩, ⟨by (with_reducible repeat (first | apply Kd.R_alloc | apply Kd.R_drewN | apply Kd.R_drew)); exact Kd.R_mono (Kd.R_far (p := ⟨gb243, 1, none⟩) (Kd.R_far (p := ⟨gb243, 0, none⟩) (Kd.R_types HO240.out BK243.out (by decide)) (fun _ hk => hk.2) (.slice Ao23 t235.length co23)) (fun _ hk => hk.2) (.slice Ao27 t238.length co27)) (fun _ hk => hk.1.2)⟩, ⟨by (with_reducible repeat (first | refine blk_drewN ?_ _ | refine blk_drew ?_ | refine blk_alloc ?_ _)); refine blk_far ?_ NB224_243.out _; (with_reducible repeat (first | refine blk_drewN ?_ _ | refine blk_drew ?_ | refine blk_alloc ?_ _)); refine blk_far ?_ NB224_243.out _; (with_reducible repeat (first | refine blk_drewN ?_ _ | refine blk_drew ?_ | refine blk_alloc ?_ _)); exact BK224.out⟩, ⟨by (with_reducible repeat (first | refine blk_drewN ?_ _ | refine blk_drew ?_ | refine blk_alloc ?_ _)); refine blk_far ?_ NB234_243.out _; (with_reducible repeat (first | refine blk_drewN ?_ _ | refine blk_drew ?_ | refine blk_alloc ?_ _)); refine blk_far ?_ NB234_243.out _; (with_reducible repeat (first | refine blk_drewN ?_ _ | refine blk_drew ?_ | refine blk_alloc ?_ _)); exact BK234.out⟩, ⟨by (with_reducible repeat (first | refine blk_drewN ?_ _ | refine blk_drew ?_ | refine blk_alloc ?_ _)); refine blk_put (cs := #[.slice Ao23 t235.length co23, .slice none 0 0]) ?_ 1 _ rfl; (with_reducible repeat (first | refine blk_drewN ?_ _ | refine blk_drew ?_ | refine blk_alloc ?_ _)); refine blk_put (cs := #[.slice none 0 0, .slice none 0 0]) ?_ 0 _ rfl; (with_reducible repeat (first | refine blk_drewN ?_ _ | refine blk_drew ?_ | refine blk_alloc ?_ _)); exact BK243.out⟩, ⟨by repeat (first | (with_reducible first | exact HB.out | apply below_alloc | apply pw_below_drewN | apply below_drew1 | refine below_set ?_ GE224.out | refine below_set ?_ GE234.out | refine below_set ?_ GE243.out) | exact HB.out)⟩⟩
      · rw [if_neg c28] at H
        have c28b0 : (t233 == 0) = false := beq_eq_false_iff_ne.mpr c28
        have c28b1 : (t233 != 0) = true := bne_iff_ne.mpr c28
        (first | rw [c28b0] | (simp only [i64_w, i32_w]; rw [c28b0]) | skip)
        have H' := Aside0.mk H
        clear H
        go_wp2
        go_meet
        case rel => exact ⟨_, (true), (by first | rfl | (simp; done) | (simp [*]; done)), H', ⟨by first | omega | exact Nat.le_refl _⟩, ⟨by (with_reducible repeat (first | apply Kd.R_alloc | apply Kd.R_drewN | apply Kd.R_drew)); exact Kd.R_mono (Kd.R_far (p := ⟨gb243, 1, none⟩) (Kd.R_far (p := ⟨gb243, 0, none⟩) (Kd.R_types HO228.out BK243.out (by decide)) (fun _ hk => hk.2) (.slice Ao23 t235.length co23)) (fun _ hk => hk.2) (.slice Ao27 t238.length co27)) (fun _ hk => hk.1.2)⟩, ⟨by (with_reducible repeat (first | apply Kd.R_alloc | apply Kd.R_drewN | apply Kd.R_drew)); exact Kd.R_mono (Kd.R_far (p := ⟨gb243, 1, none⟩) (Kd.R_far (p := ⟨gb243, 0, none⟩) (Kd.R_types HO231.out BK243.out (by decide)) (fun _ hk => hk.2) (.slice Ao23 t235.length co23)) (fun _ hk => hk.2) (.slice Ao27 t238.length co27)) (fun _ hk => hk.1.2)⟩, ⟨by (with_reducible repeat (first | apply Kd.R_alloc | apply Kd.R_drewN | apply Kd.R_drew)); exact Kd.R_mono (Kd.R_far (p := ⟨gb243, 1, none⟩) (Kd.R_far (p := ⟨gb243, 0, none⟩) (Kd.R_types HO237.out BK243.out (by decide)) (fun _ hk => hk.2) (.slice Ao23 t235.length co23)) (fun _ hk => hk.2) (.slice Ao27 t238.length co27)) (fun _ hk => hk.1.2)⟩, ⟨by (with_reducible repeat (first | apply Kd.R_alloc | apply Kd.R_drewN | apply Kd.R_drew)); exact Kd.R_mono (Kd.R_far (p := ⟨gb243, 1, none⟩) (Kd.R_far (p := ⟨gb243, 0, none⟩) (Kd.R_types HO240.out BK243.out (by decide)) (fun _ hk => hk.2) (.slice Ao23 t235.length co23)) (fun _ hk => hk.2) (.slice Ao27 t238.length co27)) (fun _ hk => hk.1.2)⟩, ⟨by (with_reducible repeat (first | refine blk_drewN ?_ _ | refine blk_drew ?_ | refine blk_alloc ?_ _)); refine blk_far ?_ NB224_243.out _; (with_reducible repeat (first | refine blk_drewN ?_ _ | refine blk_drew ?_ | refine blk_alloc ?_ _)); refine blk_far ?_ NB224_243.out _; (with_reducible repeat (first | refine blk_drewN ?_ _ | refine blk_drew ?_ | refine blk_alloc ?_ _)); exact BK224.out⟩, ⟨by (with_reducible repeat (first | refine blk_drewN ?_ _ | refine blk_drew ?_ | refine blk_alloc ?_ _)); refine blk_far ?_ NB234_243.out _; (with_reducible repeat (first | refine blk_drewN ?_ _ | refine blk_drew ?_ | refine blk_alloc ?_ _)); refine blk_far ?_ NB234_243.out _; (with_reducible repeat (first | refine blk_drewN ?_ _ | refine blk_drew ?_ | refine blk_alloc ?_ _)); exact BK234.out⟩, ⟨by (with_reducible repeat (first | refine blk_drewN ?_ _ | refine blk_drew ?_ | refine blk_alloc ?_ _)); refine blk_put (cs := #[.slice Ao23 t235.length co23, .slice none 0 0]) ?_ 1 _ rfl; (with_reducible repeat (first | refine blk_drewN ?_ _ | refine blk_drew ?_ | refine blk_alloc ?_ _)); refine blk_put (cs := #[.slice none 0 0, .slice none 0 0]) ?_ 0 _ rfl; (with_reducible repeat (first | refine blk_drewN ?_ _ | refine blk_drew ?_ | refine blk_alloc ?_ _)); exact BK243.out⟩, ⟨by repeat (first | (with_reducible first | exact HB.out | apply below_alloc | apply pw_below_drewN | apply below_drew1 | refine below_set ?_ GE224.out | refine below_set ?_ GE234.out | refine below_set ?_ GE243.out) | exact HB.out)⟩⟩
    case rest =>
      clear HC10
      try clear c1
      try clear c2
      try clear p2
      try clear c4
      try clear c8
      try clear c18
      try clear c19
      try clear c21
      try clear c24
      try clear c25
      try clear c28
      try clear c28b0
      try clear c28b1
      try clear hcz12_0
      try clear hcz12_1
      try clear hcz14_0
      try clear hcz14_1
      try clear hcz19_0
      try clear hcz19_1
      try clear hcz26_0
      try clear hcz26_1
      try clear hcz6_0
      try clear hcz6_1
      try clear hfz12_0
      try clear hfz12_1
      try clear hfz14_0
      try clear hfz14_1
      try clear hfz19_0
      try clear hfz19_1
      try clear hfz26_0
      try clear hfz26_1
      try clear hfz6_0
      try clear hfz6_1
      obtain ⟨kq, x39_9, rfl, HA, HJ9, HO_235000, HO_235001, HO_244000, HO_244001, BK224, BK234, BK243, HB⟩ := hcut
      cases kq with
      | zero => exact absurd HA.out (by simp [sextonlaw06_SlotTwice.j0])
      | succ kj9 =>
        have H := HA.out
        clear HA
        simp only [sextonlaw06_SlotTwice.j0] at H
        by_cases c29 : x39_9 = true
        · subst c29
          have H1 : ((sextonlaw06_shelved.f).bind fun t244 => (if t244 = true then (if t233 = 0 then (if t242 = 41 then (some true) else (some (t242 == 2))) else (some true)) else (some false))) = some r := by rw [if_pos rfl] at H; exact H
          clear H
          have H := H1
          clear H1
          replace H := Option.bind_eq_some_iff.mp H
          obtain ⟨t244, A300, H⟩ := H
          replace H : (if t244 = true then (if t233 = 0 then (if t242 = 41 then (some true) else (some (t242 == 2))) else (some true)) else (some false)) = some r := H
          have A30 := Aside0.mk A300
          clear A300
          by_cases c31 : t244 = true
          · subst c31
            have H1 : (if t233 = 0 then (if t242 = 41 then (some true) else (some (t242 == 2))) else (some true)) = some r := by rw [if_pos rfl] at H; exact H
            clear H
            have H := H1
            clear H1
            by_cases c32 : t233 = 0
            · rw [if_pos c32] at H
              have c32b0 : (t233 == 0) = true := beq_iff_eq.mpr c32
              have c32b1 : (t233 != 0) = false := bne_eq_false_iff_eq.mpr c32
              clear c32
              by_cases c33 : t242 = 41
              · rw [if_pos c33] at H
                have c33b0 : (t242 == 41) = true := beq_iff_eq.mpr c33
                have c33b1 : (t242 != 41) = false := bne_eq_false_iff_eq.mpr c33
                clear c33
                obtain rfl := Option.some.inj H
                go_wp2_with (first | ((with_reducible refine gate_callee (f := 22) rfl ?_); refine goesL_ (some 40) rfl rfl Try.func22 (by kernel_rfl) rfl #[] rfl (by (try simp only [List.map_toArray, List.map_cons, List.map_nil]); first | done | rfl | (simp only [List.length_drop, List.length_take]; rfl)) ?_; (with_reducible refine (sextonlaw06_shelved.calls  true _ A30.out).mono ?_); rintro e w34 ⟨rfl, hb⟩; refine ⟨_, rfl, ?_⟩; have n0_ := Aside0.mk (Kd.R_below (by (with_reducible repeat (first | apply Kd.R_alloc | apply Kd.R_drewN | apply Kd.R_drew)); exact HO_235000.out) hb); have n1_ := Aside0.mk (Kd.R_below (by (with_reducible repeat (first | apply Kd.R_alloc | apply Kd.R_drewN | apply Kd.R_drew)); exact HO_235001.out) hb); have n2_ := Aside0.mk (Kd.R_below (by (with_reducible repeat (first | apply Kd.R_alloc | apply Kd.R_drewN | apply Kd.R_drew)); exact HO_244000.out) hb); have n3_ := Aside0.mk (Kd.R_below (by (with_reducible repeat (first | apply Kd.R_alloc | apply Kd.R_drewN | apply Kd.R_drew)); exact HO_244001.out) hb); have n4_ := Aside0.mk (blk_below (g := gb224) (o := .cells #[.slice A0_0 l0_0.length c0_0, .slice A0_1 l0_1.length c0_1] 25 (0, 0)) (by (with_reducible repeat (first | refine blk_drewN ?_ _ | refine blk_drew ?_ | refine blk_alloc ?_ _)); exact BK224.out) hb); have n5_ := Aside0.mk (blk_below (g := gb234) (o := .cells #[.slice Ao17 t226.length co17, .slice Ao20 t229.length co20] 25 (0, 0)) (by (with_reducible repeat (first | refine blk_drewN ?_ _ | refine blk_drew ?_ | refine blk_alloc ?_ _)); exact BK234.out) hb); have n6_ := Aside0.mk (blk_below (g := gb243) (o := .cells #[.slice Ao23 t235.length co23, .slice Ao27 t238.length co27] 25 (0, 0)) (by (with_reducible repeat (first | refine blk_drewN ?_ _ | refine blk_drew ?_ | refine blk_alloc ?_ _)); exact BK243.out) hb); have n7_ := Aside0.mk (below_step (by repeat (first | (with_reducible first | exact HB.out | apply below_alloc | apply pw_below_drewN | apply below_drew1 | refine below_set ?_ GE224.out | refine below_set ?_ GE234.out | refine below_set ?_ GE243.out) | exact HB.out)) hb); clear HO_235000; clear HO_235001; clear HO_244000; clear HO_244001; clear BK224; clear BK234; clear BK243; clear HB; have HO_235000 := n0_; have HO_235001 := n1_; have HO_244000 := n2_; have HO_244001 := n3_; have BK224 := n4_; have BK234 := n5_; have BK243 := n6_; have HB := n7_; clear n0_ n1_ n2_ n3_ n4_ n5_ n6_ n7_; (try clear hb); (try clear hb2); (try clear hk); (try clear hi)))
                go_ret
                exact ⟨by first | rfl | (simp [errW_none, errW_some] <;> rfl) | (simp [*, errW_none, errW_some] <;> rfl), by repeat (first | (with_reducible first | exact HB.out | apply below_alloc | apply pw_below_drewN | apply below_drew1 | refine below_set ?_ GE224.out | refine below_set ?_ GE234.out | refine below_set ?_ GE243.out) | exact HB.out)⟩
              · rw [if_neg c33] at H
                have c33b0 : (t242 == 41) = false := beq_eq_false_iff_ne.mpr c33
                have c33b1 : (t242 != 41) = true := bne_iff_ne.mpr c33
                obtain rfl := Option.some.inj H
                go_wp2_with (first | ((with_reducible refine gate_callee (f := 22) rfl ?_); refine goesL_ (some 40) rfl rfl Try.func22 (by kernel_rfl) rfl #[] rfl (by (try simp only [List.map_toArray, List.map_cons, List.map_nil]); first | done | rfl | (simp only [List.length_drop, List.length_take]; rfl)) ?_; (with_reducible refine (sextonlaw06_shelved.calls  true _ A30.out).mono ?_); rintro e w35 ⟨rfl, hb⟩; refine ⟨_, rfl, ?_⟩; have n0_ := Aside0.mk (Kd.R_below (by (with_reducible repeat (first | apply Kd.R_alloc | apply Kd.R_drewN | apply Kd.R_drew)); exact HO_235000.out) hb); have n1_ := Aside0.mk (Kd.R_below (by (with_reducible repeat (first | apply Kd.R_alloc | apply Kd.R_drewN | apply Kd.R_drew)); exact HO_235001.out) hb); have n2_ := Aside0.mk (Kd.R_below (by (with_reducible repeat (first | apply Kd.R_alloc | apply Kd.R_drewN | apply Kd.R_drew)); exact HO_244000.out) hb); have n3_ := Aside0.mk (Kd.R_below (by (with_reducible repeat (first | apply Kd.R_alloc | apply Kd.R_drewN | apply Kd.R_drew)); exact HO_244001.out) hb); have n4_ := Aside0.mk (blk_below (g := gb224) (o := .cells #[.slice A0_0 l0_0.length c0_0, .slice A0_1 l0_1.length c0_1] 25 (0, 0)) (by (with_reducible repeat (first | refine blk_drewN ?_ _ | refine blk_drew ?_ | refine blk_alloc ?_ _)); exact BK224.out) hb); have n5_ := Aside0.mk (blk_below (g := gb234) (o := .cells #[.slice Ao17 t226.length co17, .slice Ao20 t229.length co20] 25 (0, 0)) (by (with_reducible repeat (first | refine blk_drewN ?_ _ | refine blk_drew ?_ | refine blk_alloc ?_ _)); exact BK234.out) hb); have n6_ := Aside0.mk (blk_below (g := gb243) (o := .cells #[.slice Ao23 t235.length co23, .slice Ao27 t238.length co27] 25 (0, 0)) (by (with_reducible repeat (first | refine blk_drewN ?_ _ | refine blk_drew ?_ | refine blk_alloc ?_ _)); exact BK243.out) hb); have n7_ := Aside0.mk (below_step (by repeat (first | (with_reducible first | exact HB.out | apply below_alloc | apply pw_below_drewN | apply below_drew1 | refine below_set ?_ GE224.out | refine below_set ?_ GE234.out | refine below_set ?_ GE243.out) | exact HB.out)) hb); clear HO_235000; clear HO_235001; clear HO_244000; clear HO_244001; clear BK224; clear BK234; clear BK243; clear HB; have HO_235000 := n0_; have HO_235001 := n1_; have HO_244000 := n2_; have HO_244001 := n3_; have BK224 := n4_; have BK234 := n5_; have BK243 := n6_; have HB := n7_; clear n0_ n1_ n2_ n3_ n4_ n5_ n6_ n7_; (try clear hb); (try clear hb2); (try clear hk); (try clear hi)))
                go_ret
                exact ⟨by first | rfl | (simp [errW_none, errW_some] <;> rfl) | (simp [*, errW_none, errW_some] <;> rfl), by repeat (first | (with_reducible first | exact HB.out | apply below_alloc | apply pw_below_drewN | apply below_drew1 | refine below_set ?_ GE224.out | refine below_set ?_ GE234.out | refine below_set ?_ GE243.out) | exact HB.out)⟩
            · rw [if_neg c32] at H
              have c32b0 : (t233 == 0) = false := beq_eq_false_iff_ne.mpr c32
              have c32b1 : (t233 != 0) = true := bne_iff_ne.mpr c32
              obtain rfl := Option.some.inj H
              go_wp2_with (first | ((with_reducible refine gate_callee (f := 22) rfl ?_); refine goesL_ (some 40) rfl rfl Try.func22 (by kernel_rfl) rfl #[] rfl (by (try simp only [List.map_toArray, List.map_cons, List.map_nil]); first | done | rfl | (simp only [List.length_drop, List.length_take]; rfl)) ?_; (with_reducible refine (sextonlaw06_shelved.calls  true _ A30.out).mono ?_); rintro e w36 ⟨rfl, hb⟩; refine ⟨_, rfl, ?_⟩; have n0_ := Aside0.mk (Kd.R_below (by (with_reducible repeat (first | apply Kd.R_alloc | apply Kd.R_drewN | apply Kd.R_drew)); exact HO_235000.out) hb); have n1_ := Aside0.mk (Kd.R_below (by (with_reducible repeat (first | apply Kd.R_alloc | apply Kd.R_drewN | apply Kd.R_drew)); exact HO_235001.out) hb); have n2_ := Aside0.mk (Kd.R_below (by (with_reducible repeat (first | apply Kd.R_alloc | apply Kd.R_drewN | apply Kd.R_drew)); exact HO_244000.out) hb); have n3_ := Aside0.mk (Kd.R_below (by (with_reducible repeat (first | apply Kd.R_alloc | apply Kd.R_drewN | apply Kd.R_drew)); exact HO_244001.out) hb); have n4_ := Aside0.mk (blk_below (g := gb224) (o := .cells #[.slice A0_0 l0_0.length c0_0, .slice A0_1 l0_1.length c0_1] 25 (0, 0)) (by (with_reducible repeat (first | refine blk_drewN ?_ _ | refine blk_drew ?_ | refine blk_alloc ?_ _)); exact BK224.out) hb); have n5_ := Aside0.mk (blk_below (g := gb234) (o := .cells #[.slice Ao17 t226.length co17, .slice Ao20 t229.length co20] 25 (0, 0)) (by (with_reducible repeat (first | refine blk_drewN ?_ _ | refine blk_drew ?_ | refine blk_alloc ?_ _)); exact BK234.out) hb); have n6_ := Aside0.mk (blk_below (g := gb243) (o := .cells #[.slice Ao23 t235.length co23, .slice Ao27 t238.length co27] 25 (0, 0)) (by (with_reducible repeat (first | refine blk_drewN ?_ _ | refine blk_drew ?_ | refine blk_alloc ?_ _)); exact BK243.out) hb); have n7_ := Aside0.mk (below_step (by repeat (first | (with_reducible first | exact HB.out | apply below_alloc | apply pw_below_drewN | apply below_drew1 | refine below_set ?_ GE224.out | refine below_set ?_ GE234.out | refine below_set ?_ GE243.out) | exact HB.out)) hb); clear HO_235000; clear HO_235001; clear HO_244000; clear HO_244001; clear BK224; clear BK234; clear BK243; clear HB; have HO_235000 := n0_; have HO_235001 := n1_; have HO_244000 := n2_; have HO_244001 := n3_; have BK224 := n4_; have BK234 := n5_; have BK243 := n6_; have HB := n7_; clear n0_ n1_ n2_ n3_ n4_ n5_ n6_ n7_; (try clear hb); (try clear hb2); (try clear hk); (try clear hi)))
              go_ret
              exact ⟨by first | rfl | (simp [errW_none, errW_some] <;> rfl) | (simp [*, errW_none, errW_some] <;> rfl), by repeat (first | (with_reducible first | exact HB.out | apply below_alloc | apply pw_below_drewN | apply below_drew1 | refine below_set ?_ GE224.out | refine below_set ?_ GE234.out | refine below_set ?_ GE243.out) | exact HB.out)⟩
          · replace c31 := Bool.eq_false_iff.mpr c31
            subst c31
            have H1 : (some false) = some r := by rw [if_neg (show ¬ (false = true) by decide)] at H; exact H
            exact absurd (H1.trans (congrArg some HRT.out)) (by decide)
        · replace c29 := Bool.eq_false_iff.mpr c29
          subst c29
          have H1 : ((slot_Load.f t226 t229).bind fun bt245 => ((slot_Load.f t235 t238).bind fun bt250 => ((sextonlaw06_shelved.f).bind fun t255 => (if t255 = true then (if bt245.2.2 = 0 then (if bt250.2.2 = bt245.2.2 then ((sextonref01_Texts.f kj9 bt245.1 bt250.1).bind fun t256 => (if t256 = true then (some ((wrap64 (bt250.2.1 - 1)) == bt245.2.1)) else (some false))) else (some false)) else (some false)) else (some false))))) = some r := by rw [if_neg (show ¬ (false = true) by decide)] at H; exact H
          clear H
          have H := H1
          clear H1
          replace H := Option.bind_eq_some_iff.mp H
          obtain ⟨⟨t245, t248, t249⟩, A380, H⟩ := H
          replace H : ((slot_Load.f t235 t238).bind fun bt250 => ((sextonlaw06_shelved.f).bind fun t255 => (if t255 = true then (if t249 = 0 then (if bt250.2.2 = t249 then ((sextonref01_Texts.f kj9 t245 bt250.1).bind fun t256 => (if t256 = true then (some ((wrap64 (bt250.2.1 - 1)) == t248)) else (some false))) else (some false)) else (some false)) else (some false)))) = some r := H
          have A38 := Aside0.mk A380
          clear A380
          replace H := Option.bind_eq_some_iff.mp H
          obtain ⟨⟨t250, t253, t254⟩, A390, H⟩ := H
          replace H : ((sextonlaw06_shelved.f).bind fun t255 => (if t255 = true then (if t249 = 0 then (if t254 = t249 then ((sextonref01_Texts.f kj9 t245 t250).bind fun t256 => (if t256 = true then (some ((wrap64 (t253 - 1)) == t248)) else (some false))) else (some false)) else (some false)) else (some false))) = some r := H
          have A39 := Aside0.mk A390
          clear A390
          replace H := Option.bind_eq_some_iff.mp H
          obtain ⟨t255, A400, H⟩ := H
          replace H : (if t255 = true then (if t249 = 0 then (if t254 = t249 then ((sextonref01_Texts.f kj9 t245 t250).bind fun t256 => (if t256 = true then (some ((wrap64 (t253 - 1)) == t248)) else (some false))) else (some false)) else (some false)) else (some false)) = some r := H
          have A40 := Aside0.mk A400
          clear A400
          by_cases c41 : t255 = true
          · subst c41
            have H1 : (if t249 = 0 then (if t254 = t249 then ((sextonref01_Texts.f kj9 t245 t250).bind fun t256 => (if t256 = true then (some ((wrap64 (t253 - 1)) == t248)) else (some false))) else (some false)) else (some false)) = some r := by rw [if_pos rfl] at H; exact H
            clear H
            have H := H1
            clear H1
            by_cases c42 : t249 = 0
            · rw [if_pos c42] at H
              have c42b0 : (t249 == 0) = true := beq_iff_eq.mpr c42
              have c42b1 : (t249 != 0) = false := bne_eq_false_iff_eq.mpr c42
              clear c42
              by_cases c43 : t254 = t249
              · rw [if_pos c43] at H
                have c43b0 : (t254 == t249) = true := beq_iff_eq.mpr c43
                have c43b1 : (t254 != t249) = false := bne_eq_false_iff_eq.mpr c43
                clear c43
                replace H := Option.bind_eq_some_iff.mp H
                obtain ⟨t256, A440, H⟩ := H
                replace H : (if t256 = true then (some ((wrap64 (t253 - 1)) == t248)) else (some false)) = some r := H
                have A44 := Aside0.mk A440
                clear A440
                by_cases c45 : t256 = true
                · subst c45
                  have H1 : (some ((wrap64 (t253 - 1)) == t248)) = some r := by rw [if_pos rfl] at H; exact H
                  clear H
                  have H := H1
                  clear H1
                  obtain rfl := Option.some.inj H
                  have hnb46 := NB234_224.out
                  have hnc46 := NB224_234.out
                  have hnb47 := NB234_243.out
                  have hnc47 := NB243_234.out
                  have hcz48_0 : wc.cell? ⟨gb234, 0, none⟩ = some (.slice Ao17 t226.length co17) := (blk_cell BK234.out 0).trans rfl
                  have hcz48_1 : wc.cell? ⟨gb234, 1, none⟩ = some (.slice Ao20 t229.length co20) := (blk_cell BK234.out 1).trans rfl
                  have hfz48_0 := blk_frozen BK234.out 0
                  have hfz48_1 := blk_frozen BK234.out 1
                  go_wp2_with (first | ((with_reducible refine gate_callee (f := 20) rfl ?_); refine goesL_ (some 55) rfl rfl Try.func20 (by kernel_rfl) rfl #[.agg #[.slice Ao17 t226.length co17, .slice Ao20 t229.length co20]] rfl (by (try simp only [List.map_toArray, List.map_cons, List.map_nil]); first | done | rfl | (simp only [List.length_drop, List.length_take]; rfl)) ?_; (with_reducible refine (slot_Load.calls _ _ t226 _ _ t229 t245 t248 t249 _ ?side1 ?side2 ?side3 ?side4 A38.out).mono ?_); (case side1 => repeat (first | exact (Kd.R_reads' HO_235000.out).2.2 | (with_reducible refine Kd.C_alloc ?_ _) | (with_reducible refine Kd.C_drewN ?_ _) | (with_reducible refine Kd.C_drew ?_))); (case side2 => exact (Kd.R_reads' HO_235000.out).2.1); (case side3 => repeat (first | exact (Kd.R_reads' HO_235001.out).2.2 | (with_reducible refine Kd.C_alloc ?_ _) | (with_reducible refine Kd.C_drewN ?_ _) | (with_reducible refine Kd.C_drew ?_))); (case side4 => exact (Kd.R_reads' HO_235001.out).2.1); rintro e w49 ⟨v246, rfl, ho0, hb⟩; refine ⟨_, rfl, ?_⟩; have n0_ := Aside0.mk (Kd.R_elder' (by (with_reducible repeat (first | apply Kd.R_alloc | apply Kd.R_drewN | apply Kd.R_drew)); exact HO_235000.out) (Kd.R_base ho0) hb); have n1_ := Aside0.mk (Kd.R_below (by (with_reducible repeat (first | apply Kd.R_alloc | apply Kd.R_drewN | apply Kd.R_drew)); exact HO_235001.out) hb); have n2_ := Aside0.mk (Kd.R_elder' (by (with_reducible repeat (first | apply Kd.R_alloc | apply Kd.R_drewN | apply Kd.R_drew)); exact HO_244000.out) (Kd.R_base ho0) hb); have n3_ := Aside0.mk (Kd.R_below (by (with_reducible repeat (first | apply Kd.R_alloc | apply Kd.R_drewN | apply Kd.R_drew)); exact HO_244001.out) hb); have n4_ := Aside0.mk (Kd.R_lower (Kd.R_new' (Kd.R_new' ho0 (Kd.R_lt (by (with_reducible repeat (first | apply Kd.R_alloc | apply Kd.R_drewN | apply Kd.R_drew)); exact HO_235000.out))) (Kd.R_lt (by (with_reducible repeat (first | apply Kd.R_alloc | apply Kd.R_drewN | apply Kd.R_drew)); exact HO_244000.out))) (below_size (by repeat (first | (with_reducible first | exact HB.out | apply below_alloc | apply pw_below_drewN | apply below_drew1 | refine below_set ?_ GE224.out | refine below_set ?_ GE234.out | refine below_set ?_ GE243.out) | exact HB.out)))); have n5_ := Aside0.mk (blk_below (g := gb224) (o := .cells #[.slice A0_0 l0_0.length c0_0, .slice A0_1 l0_1.length c0_1] 25 (0, 0)) (by (with_reducible repeat (first | refine blk_drewN ?_ _ | refine blk_drew ?_ | refine blk_alloc ?_ _)); exact BK224.out) hb); have n6_ := Aside0.mk (blk_below (g := gb234) (o := .cells #[.slice Ao17 t226.length co17, .slice Ao20 t229.length co20] 25 (0, 0)) (by (with_reducible repeat (first | refine blk_drewN ?_ _ | refine blk_drew ?_ | refine blk_alloc ?_ _)); exact BK234.out) hb); have n7_ := Aside0.mk (blk_below (g := gb243) (o := .cells #[.slice Ao23 t235.length co23, .slice Ao27 t238.length co27] 25 (0, 0)) (by (with_reducible repeat (first | refine blk_drewN ?_ _ | refine blk_drew ?_ | refine blk_alloc ?_ _)); exact BK243.out) hb); have n8_ := Aside0.mk (below_step (by repeat (first | (with_reducible first | exact HB.out | apply below_alloc | apply pw_below_drewN | apply below_drew1 | refine below_set ?_ GE224.out | refine below_set ?_ GE234.out | refine below_set ?_ GE243.out) | exact HB.out)) hb); clear HO_235000; clear HO_235001; clear HO_244000; clear HO_244001; clear BK224; clear BK234; clear BK243; clear HB; have HO_235000 := n0_; have HO_235001 := n1_; have HO_244000 := n2_; have HO_244001 := n3_; have HO247 := n4_; have BK224 := n5_; have BK234 := n6_; have BK243 := n7_; have HB := n8_; clear n0_ n1_ n2_ n3_ n4_ n5_ n6_ n7_ n8_; (try clear hb); (try clear hb2); (try clear hk); (try clear hi); (try clear ho0); have hnb50 := NB243_224.out; have hnc50 := NB224_243.out; have hcz51_0 : w49.cell? ⟨gb243, 0, none⟩ = some (.slice Ao23 t235.length co23) := (blk_cell BK243.out 0).trans rfl; have hcz51_1 : w49.cell? ⟨gb243, 1, none⟩ = some (.slice Ao27 t238.length co27) := (blk_cell BK243.out 1).trans rfl; have hfz51_0 := blk_frozen BK243.out 0; have hfz51_1 := blk_frozen BK243.out 1) | ((with_reducible refine gate_callee (f := 20) rfl ?_); refine goesL_ (some 61) rfl rfl Try.func20 (by kernel_rfl) rfl #[.agg #[.slice Ao23 t235.length co23, .slice Ao27 t238.length co27]] rfl (by (try simp only [List.map_toArray, List.map_cons, List.map_nil]); first | done | rfl | (simp only [List.length_drop, List.length_take]; rfl)) ?_; (with_reducible refine (slot_Load.calls _ _ t235 _ _ t238 t250 t253 t254 _ ?side1 ?side2 ?side3 ?side4 A39.out).mono ?_); (case side1 => repeat (first | exact (Kd.R_reads' HO_244000.out).2.2 | (with_reducible refine Kd.C_alloc ?_ _) | (with_reducible refine Kd.C_drewN ?_ _) | (with_reducible refine Kd.C_drew ?_))); (case side2 => exact (Kd.R_reads' HO_244000.out).2.1); (case side3 => repeat (first | exact (Kd.R_reads' HO_244001.out).2.2 | (with_reducible refine Kd.C_alloc ?_ _) | (with_reducible refine Kd.C_drewN ?_ _) | (with_reducible refine Kd.C_drew ?_))); (case side4 => exact (Kd.R_reads' HO_244001.out).2.1); rintro e w52 ⟨v251, rfl, ho0, hb⟩; refine ⟨_, rfl, ?_⟩; have n0_ := Aside0.mk (Kd.R_elder' (by (with_reducible repeat (first | apply Kd.R_alloc | apply Kd.R_drewN | apply Kd.R_drew)); exact HO_235000.out) (Kd.R_base ho0) hb); have n1_ := Aside0.mk (Kd.R_below (by (with_reducible repeat (first | apply Kd.R_alloc | apply Kd.R_drewN | apply Kd.R_drew)); exact HO_235001.out) hb); have n2_ := Aside0.mk (Kd.R_elder' (by (with_reducible repeat (first | apply Kd.R_alloc | apply Kd.R_drewN | apply Kd.R_drew)); exact HO_244000.out) (Kd.R_base ho0) hb); have n3_ := Aside0.mk (Kd.R_below (by (with_reducible repeat (first | apply Kd.R_alloc | apply Kd.R_drewN | apply Kd.R_drew)); exact HO_244001.out) hb); have n4_ := Aside0.mk (Kd.R_elder' (by (with_reducible repeat (first | apply Kd.R_alloc | apply Kd.R_drewN | apply Kd.R_drew)); exact HO247.out) (Kd.R_base ho0) hb); have n5_ := Aside0.mk (Kd.R_lower (Kd.R_new' (Kd.R_new' (Kd.R_new' ho0 (Kd.R_lt (by (with_reducible repeat (first | apply Kd.R_alloc | apply Kd.R_drewN | apply Kd.R_drew)); exact HO_235000.out))) (Kd.R_lt (by (with_reducible repeat (first | apply Kd.R_alloc | apply Kd.R_drewN | apply Kd.R_drew)); exact HO_244000.out))) (Kd.R_lt (by (with_reducible repeat (first | apply Kd.R_alloc | apply Kd.R_drewN | apply Kd.R_drew)); exact HO247.out))) (below_size (by repeat (first | (with_reducible first | exact HB.out | apply below_alloc | apply pw_below_drewN | apply below_drew1 | refine below_set ?_ GE224.out | refine below_set ?_ GE234.out | refine below_set ?_ GE243.out) | exact HB.out)))); have n6_ := Aside0.mk (blk_below (g := gb224) (o := .cells #[.slice A0_0 l0_0.length c0_0, .slice A0_1 l0_1.length c0_1] 25 (0, 0)) (by (with_reducible repeat (first | refine blk_drewN ?_ _ | refine blk_drew ?_ | refine blk_alloc ?_ _)); exact BK224.out) hb); have n7_ := Aside0.mk (blk_below (g := gb234) (o := .cells #[.slice Ao17 t226.length co17, .slice Ao20 t229.length co20] 25 (0, 0)) (by (with_reducible repeat (first | refine blk_drewN ?_ _ | refine blk_drew ?_ | refine blk_alloc ?_ _)); exact BK234.out) hb); have n8_ := Aside0.mk (blk_below (g := gb243) (o := .cells #[.slice Ao23 t235.length co23, .slice Ao27 t238.length co27] 25 (0, 0)) (by (with_reducible repeat (first | refine blk_drewN ?_ _ | refine blk_drew ?_ | refine blk_alloc ?_ _)); exact BK243.out) hb); have n9_ := Aside0.mk (below_step (by repeat (first | (with_reducible first | exact HB.out | apply below_alloc | apply pw_below_drewN | apply below_drew1 | refine below_set ?_ GE224.out | refine below_set ?_ GE234.out | refine below_set ?_ GE243.out) | exact HB.out)) hb); clear HO_235000; clear HO_235001; clear HO_244000; clear HO_244001; clear HO247; clear BK224; clear BK234; clear BK243; clear HB; have HO_235000 := n0_; have HO_235001 := n1_; have HO_244000 := n2_; have HO_244001 := n3_; have HO247 := n4_; have HO252 := n5_; have BK224 := n6_; have BK234 := n7_; have BK243 := n8_; have HB := n9_; clear n0_ n1_ n2_ n3_ n4_ n5_ n6_ n7_ n8_ n9_; (try clear hb); (try clear hb2); (try clear hk); (try clear hi); (try clear ho0)) | ((with_reducible refine gate_callee (f := 22) rfl ?_); refine goesL_ (some 65) rfl rfl Try.func22 (by kernel_rfl) rfl #[] rfl (by (try simp only [List.map_toArray, List.map_cons, List.map_nil]); first | done | rfl | (simp only [List.length_drop, List.length_take]; rfl)) ?_; (with_reducible refine (sextonlaw06_shelved.calls  true _ A40.out).mono ?_); rintro e w53 ⟨rfl, hb⟩; refine ⟨_, rfl, ?_⟩; have n0_ := Aside0.mk (Kd.R_below (by (with_reducible repeat (first | apply Kd.R_alloc | apply Kd.R_drewN | apply Kd.R_drew)); exact HO_235000.out) hb); have n1_ := Aside0.mk (Kd.R_below (by (with_reducible repeat (first | apply Kd.R_alloc | apply Kd.R_drewN | apply Kd.R_drew)); exact HO_235001.out) hb); have n2_ := Aside0.mk (Kd.R_below (by (with_reducible repeat (first | apply Kd.R_alloc | apply Kd.R_drewN | apply Kd.R_drew)); exact HO_244000.out) hb); have n3_ := Aside0.mk (Kd.R_below (by (with_reducible repeat (first | apply Kd.R_alloc | apply Kd.R_drewN | apply Kd.R_drew)); exact HO_244001.out) hb); have n4_ := Aside0.mk (Kd.R_below (by (with_reducible repeat (first | apply Kd.R_alloc | apply Kd.R_drewN | apply Kd.R_drew)); exact HO247.out) hb); have n5_ := Aside0.mk (Kd.R_below (by (with_reducible repeat (first | apply Kd.R_alloc | apply Kd.R_drewN | apply Kd.R_drew)); exact HO252.out) hb); have n6_ := Aside0.mk (blk_below (g := gb224) (o := .cells #[.slice A0_0 l0_0.length c0_0, .slice A0_1 l0_1.length c0_1] 25 (0, 0)) (by (with_reducible repeat (first | refine blk_drewN ?_ _ | refine blk_drew ?_ | refine blk_alloc ?_ _)); exact BK224.out) hb); have n7_ := Aside0.mk (blk_below (g := gb234) (o := .cells #[.slice Ao17 t226.length co17, .slice Ao20 t229.length co20] 25 (0, 0)) (by (with_reducible repeat (first | refine blk_drewN ?_ _ | refine blk_drew ?_ | refine blk_alloc ?_ _)); exact BK234.out) hb); have n8_ := Aside0.mk (blk_below (g := gb243) (o := .cells #[.slice Ao23 t235.length co23, .slice Ao27 t238.length co27] 25 (0, 0)) (by (with_reducible repeat (first | refine blk_drewN ?_ _ | refine blk_drew ?_ | refine blk_alloc ?_ _)); exact BK243.out) hb); have n9_ := Aside0.mk (below_step (by repeat (first | (with_reducible first | exact HB.out | apply below_alloc | apply pw_below_drewN | apply below_drew1 | refine below_set ?_ GE224.out | refine below_set ?_ GE234.out | refine below_set ?_ GE243.out) | exact HB.out)) hb); clear HO_235000; clear HO_235001; clear HO_244000; clear HO_244001; clear HO247; clear HO252; clear BK224; clear BK234; clear BK243; clear HB; have HO_235000 := n0_; have HO_235001 := n1_; have HO_244000 := n2_; have HO_244001 := n3_; have HO247 := n4_; have HO252 := n5_; have BK224 := n6_; have BK234 := n7_; have BK243 := n8_; have HB := n9_; clear n0_ n1_ n2_ n3_ n4_ n5_ n6_ n7_ n8_ n9_; (try clear hb); (try clear hb2); (try clear hk); (try clear hi); obtain ⟨Ao54, co54, eo54⟩ := Kd.R_slice HO247.out; subst eo54; obtain ⟨Ao55, co55, eo55⟩ := Kd.R_slice HO252.out; subst eo55) | (go_at_call 24; (with_reducible refine (sextonref01_Texts.calls kj9 _ _ t245 _ _ t250 true _ ?side1 ?side2 ?side3 ?side4 A44.out).mono ?_); (case side1 => repeat (first | exact (Kd.R_reads' HO247.out).2.2 | (with_reducible refine Kd.C_alloc ?_ _) | (with_reducible refine Kd.C_drewN ?_ _) | (with_reducible refine Kd.C_drew ?_))); (case side2 => exact (Kd.R_reads' HO247.out).2.1); (case side3 => repeat (first | exact (Kd.R_reads' HO252.out).2.2 | (with_reducible refine Kd.C_alloc ?_ _) | (with_reducible refine Kd.C_drewN ?_ _) | (with_reducible refine Kd.C_drew ?_))); (case side4 => exact (Kd.R_reads' HO252.out).2.1); rintro e w' ⟨rfl, ⟨nd, rfl⟩⟩))
                  go_ret
                  exact ⟨by first | rfl | (simp [errW_none, errW_some] <;> rfl) | (simp [*, errW_none, errW_some] <;> rfl), by repeat (first | (with_reducible first | exact HB.out | apply below_alloc | apply pw_below_drewN | apply below_drew1 | refine below_set ?_ GE224.out | refine below_set ?_ GE234.out | refine below_set ?_ GE243.out) | exact HB.out)⟩
                · replace c45 := Bool.eq_false_iff.mpr c45
                  subst c45
                  have H1 : (some false) = some r := by rw [if_neg (show ¬ (false = true) by decide)] at H; exact H
                  exact absurd (H1.trans (congrArg some HRT.out)) (by decide)
              · rw [if_neg c43] at H
                exact absurd (H.trans (congrArg some HRT.out)) (by decide)
            · rw [if_neg c42] at H
              exact absurd (H.trans (congrArg some HRT.out)) (by decide)
          · replace c41 := Bool.eq_false_iff.mpr c41
            subst c41
            have H1 : (some false) = some r := by rw [if_neg (show ¬ (false = true) by decide)] at H; exact H
            exact absurd (H1.trans (congrArg some HRT.out)) (by decide)

end Go.Proofs.Ytkgcaheddhfpgaa.P
/-
  The plain statement of SlotTwice: the same pages, saved twice, are loaded as once, with the number behind.
-/
namespace Go.Proofs.Ytkgcaheddhfpgaa.Pure
open Go.RowKit Go.Proofs Go.Proofs.CodecPlain Go.Proofs.YtkgcaheddhfpgaaW.PrintWords Go.Proofs.YtkgcaheddhfpgaaW.PrintLast Go.Proofs.Plain Go.Proofs.Ytkgcaheddhfpgaa.P Go.Proofs.Ytkgcaheddhfpgaa.Opens

theorem SlotTwice (l0_0 : List ByteArray) (l0_1 : List S73) (l1 : List ByteArray) {okp : Prop} (h0 : okp) {okq : Prop} (h1 : okq) : ∃ k, sextonlaw06_SlotTwice.f k l0_0 l0_1 l1 = some true := by
  obtain ⟨far, K, e⟩ := far6_ends l0_0 l0_1 l1
  by_cases hs : (saveV l0_0 l0_1 l1 (-1)).2.2.2 = 0
  rotate_left
  · refine ⟨K + 2, ?_⟩
    unfold sextonlaw06_SlotTwice.f
    have e' := e (K + 2) (by omega)
    simp only at e'
    rw [e', Option.bind_some]
    cases far
    rotate_left
    · rw [if_pos rfl]
    rw [if_neg (by decide)]
    simp only [slot_Save.f, Option.bind_some]
    rw [if_neg hs]
    simp only [sextonlaw06_SlotTwice.j0, sextonlaw06_shelved.f, Option.bind_some]
    rw [if_pos trivial, if_pos trivial, if_neg hs]
  obtain ⟨n, tb, pg, hld⟩ := save_load hs
  have hsh := save_short hld.load hs
  obtain ⟨B, U, d, e9, hsv⟩ : ∃ B U d e9, saveV l0_0 l0_1 l1 (-1) = (B, U, d, e9) := ⟨_, _, _, _, rfl⟩
  rw [hsv] at hs
  simp only at hs
  subst hs
  obtain ⟨hd, hU, hB, hnew, hn0, hn1, hr⟩ := save_whole hld hsv
  subst hU
  by_cases hs2 : (saveV B [] l1 (-1)).2.2.2 = 0
  rotate_left
  · refine ⟨K + 2, ?_⟩
    unfold sextonlaw06_SlotTwice.f
    have e' := e (K + 2) (by omega)
    simp only at e'
    rw [e', Option.bind_some]
    cases far
    rotate_left
    · rw [if_pos rfl]
    rw [if_neg (by decide)]
    simp only [slot_Save.f, Option.bind_some, hsv]
    have hb : ((saveV B [] l1 (-1)).2.2.2 != 0) = true := by rw [bne_iff_ne]; exact hs2
    rw [if_pos trivial, hb]
    simp only [sextonlaw06_SlotTwice.j0, sextonlaw06_shelved.f, Option.bind_some]
    rw [if_pos trivial, if_pos trivial, if_pos trivial]
    rcases save_why hnew hsh hs2 with q | q
    · rw [q]; rfl
    · rw [q]; rfl
  obtain ⟨B2, U2, d2, e8, hsv2⟩ : ∃ B2 U2 d2 e8, saveV B [] l1 (-1) = (B2, U2, d2, e8) := ⟨_, _, _, _, rfl⟩
  rw [hsv2] at hs2
  simp only at hs2
  subst hs2
  obtain ⟨hd2, hU2, hB2, hnew2, hm0, hm1, hr2⟩ := save_whole hnew hsv2
  subst hU2
  have hln := (check_len hld.chk).2.1
  have hfl := freeK_length tb l0_0.length
  have hm := hr.most
  obtain ⟨K2, e2⟩ := refTexts l1 l1 (by omega)
  refine ⟨K + K2 + 1, ?_⟩
  unfold sextonlaw06_SlotTwice.f
  have e' := e (K + K2 + 1) (by omega)
  have e2' := e2 (K + K2) (by omega)
  simp only at e' e2'
  rw [e', Option.bind_some]
  cases far
  rotate_left
  · rw [if_pos rfl]
  rw [if_neg (by decide)]
  simp only [slot_Save.f, Option.bind_some, hsv, hsv2]
  rw [if_pos trivial]
  simp only [bne_self_eq_false, sextonlaw06_SlotTwice.j0, slot_Load.f, Option.bind_some, sextonlaw06_shelved.f, hnew.load, hnew2.load]
  rw [if_neg (by decide), if_pos trivial, if_pos trivial, if_pos trivial, e2', Option.bind_some, decide_eq_true trivial, if_pos rfl, wrap_at (x := n + 1 + 1 - 1) (by omega) (by omega)]
  congr 1
  rw [beq_iff_eq]
  omega
end Go.Proofs.Ytkgcaheddhfpgaa.Pure
