/-
  Texts of the claim NodeDoes, joined.
-/
import Derived.Test.YtoiohlmiofplcaaPx0
import Derived.Test.YtoiohlmiofplcaaCNodeDoesa
import Derived.Test.YtoiohlmiofplcaaCNodeDoesb
import Derived.Test.YtoiohlmiofplcaaCNodeDoesc
import Derived.Lib.Strings
import Derived.Test.YtoiohlmiofplcaaWMore
/-
  The walk of NodeDoes, by the print; the ways that would answer false are closed.
-/
namespace Go.Proofs.Ytoiohlmiofplcaa.P
open Go.RowKit Go.Proofs.YtoiohlmiofplcaaW.PrintWords Go.Proofs.YtoiohlmiofplcaaW.PrintLast Go.Proofs.YtoiohlmiofplcaaW.PrintMore
attribute [local go_sem] max2_int min2_int max_two min_two max_three min_three max_four min_four   -- for this text's walks alone
set_option linter.unusedVariables false
set_option linter.unusedSimpArgs false

/-! ### sextonlaw09_NodeDoes: function 3 -/
mutual
def sextonlaw09_NodeDoes.j0 : Nat → List (S26) → List (S26) → Int → Bool → ByteArray → Int → ByteArray → Option (Bool)
  | 0, _, _, _, _, _, _, _ => none
  | k + 1, x0, x1, x3, x39, x315000, x315001, x315002 => if x39 = true then (some true) else ((sextonref09_Own.f x0).bind fun t321 => ((node_Find.f x0 x315000 x315001).bind fun bt324 => ((sextonref09_Find.f k t321 x315000 x315001).bind fun bt326 => ((node_Put.f k x0 x315000 x315001 x315002).bind fun t328 => ((sextonref09_Put.f k t321 x315000 x315001 x315002).bind fun t331 => ((node_Drop.f k x0 x315000 x315001).bind fun t334 => ((sextonref09_Drop.f k t321 x315000 x315001).bind fun t337 => ((node_Split.f k x0).bind fun bt340 => ((sextonref09_Split.f t321).bind fun bt346 => ((node_Level.f k x0 x1 x3).bind fun bt352 => ((sextonref09_Level.f t321 x1 x3).bind fun bt359 => (if bt324.1 = bt326.1 then (if (bt324.2 == bt326.2) = true then ((sextonref09_Same.f k t328 t331).bind fun t366 => (if t366 = true then ((sextonref09_Same.f k t334 t337).bind fun t367 => (if t367 = true then ((sextonref09_Same.f k bt340.1 bt346.1).bind fun t368 => (if t368 = true then ((sextonref09_Same.f k bt340.2 bt346.2).bind fun t369 => (if t369 = true then ((sextonref09_Same.f k bt352.1 bt359.1).bind fun t370 => (if t370 = true then ((sextonref09_Same.f k bt352.2.1 bt359.2.1).bind fun t371 => (if t371 = true then (if bt352.2.2 = bt359.2.2 then ((node_Is.f k x0).bind fun t372 => ((sextonref09_Is.f k t321).bind fun t373 => (sextonlaw09_NodeDoes.j1 k x0 t321 t328 t334 bt340.1 bt340.2 bt352.1 (t372 == t373)))) else (sextonlaw09_NodeDoes.j1 k x0 t321 t328 t334 bt340.1 bt340.2 bt352.1 false)) else (sextonlaw09_NodeDoes.j1 k x0 t321 t328 t334 bt340.1 bt340.2 bt352.1 false))) else (sextonlaw09_NodeDoes.j1 k x0 t321 t328 t334 bt340.1 bt340.2 bt352.1 false))) else (sextonlaw09_NodeDoes.j1 k x0 t321 t328 t334 bt340.1 bt340.2 bt352.1 false))) else (sextonlaw09_NodeDoes.j1 k x0 t321 t328 t334 bt340.1 bt340.2 bt352.1 false))) else (sextonlaw09_NodeDoes.j1 k x0 t321 t328 t334 bt340.1 bt340.2 bt352.1 false))) else (sextonlaw09_NodeDoes.j1 k x0 t321 t328 t334 bt340.1 bt340.2 bt352.1 false))) else (sextonlaw09_NodeDoes.j1 k x0 t321 t328 t334 bt340.1 bt340.2 bt352.1 false)) else (sextonlaw09_NodeDoes.j1 k x0 t321 t328 t334 bt340.1 bt340.2 bt352.1 false)))))))))))))
def sextonlaw09_NodeDoes.j1 : Nat → List (S26) → List (S26) → List (S26) → List (S26) → List (S26) → List (S26) → List (S26) → Bool → Option (Bool)
  | 0, _, _, _, _, _, _, _, _ => none
  | k + 1, x0, x9, x14, x16, x18, x19, x22, x28 => (sextonlaw09_smudge.f k x14).bind fun t374 => ((sextonlaw09_smudge.f k x16).bind fun t375 => ((sextonlaw09_smudge.f k x18).bind fun t376 => ((sextonlaw09_smudge.f k x19).bind fun t377 => ((sextonlaw09_smudge.f k x22).bind fun t378 => ((sextonlaw09_nodes.f).bind fun t379 => (if t379 = true then (if x28 = true then ((sextonref09_Same.f k x0 x9).bind fun t380 => (some t380)) else (some false)) else (some false)))))))
end
def sextonlaw09_NodeDoes.f (k : Nat) (l0 : List (S26)) (l1 : List (S26)) (a2_0 : ByteArray) (a2_1 : Int) (a2_2 : ByteArray) (a3 : Int) : Option (Bool) := (sextonref09_Big.f k l0).bind fun t315 => (if t315 = true then (sextonlaw09_NodeDoes.j0 k l0 l1 a3 true a2_0 a2_1 a2_2) else ((sextonref09_Big.f k l1).bind fun t316 => (if t316 = true then (sextonlaw09_NodeDoes.j0 k l0 l1 a3 true a2_0 a2_1 a2_2) else ((sextonref09_Big.f k (([(⟨(⟨a2_0, a2_1⟩ : S24), a2_2⟩ : S26)] : List (S26)))).bind fun t320 => (sextonlaw09_NodeDoes.j0 k l0 l1 a3 t320 a2_0 a2_1 a2_2)))))
theorem sextonlaw09_NodeDoes.mono_l : ∀ k, (∀ y0 y1 y2 y3 y4 y5 y6, LeO (sextonlaw09_NodeDoes.j0 k y0 y1 y2 y3 y4 y5 y6) (sextonlaw09_NodeDoes.j0 (k + 1) y0 y1 y2 y3 y4 y5 y6)) ∧ (∀ y0 y1 y2 y3 y4 y5 y6 y7, LeO (sextonlaw09_NodeDoes.j1 k y0 y1 y2 y3 y4 y5 y6 y7) (sextonlaw09_NodeDoes.j1 (k + 1) y0 y1 y2 y3 y4 y5 y6 y7))
  | 0 => ⟨fun _ _ _ _ _ _ _ r h => by simp [sextonlaw09_NodeDoes.j0] at h, fun _ _ _ _ _ _ _ _ r h => by simp [sextonlaw09_NodeDoes.j1] at h⟩
  | k + 1 => by
    obtain ⟨ih0, ih1⟩ := sextonlaw09_NodeDoes.mono_l k
    refine ⟨?_, ?_⟩
    · intro y0 y1 y2 y3 y4 y5 y6
      unfold sextonlaw09_NodeDoes.j0
      repeat' first
      | (with_reducible exact ih0 _ _ _ _ _ _ _)
      | (with_reducible exact ih1 _ _ _ _ _ _ _ _)
      | (with_reducible exact node_Drop.mono _ _ _ _)
      | (with_reducible exact node_Is.mono _ _)
      | (with_reducible exact node_Level.mono _ _ _ _)
      | (with_reducible exact node_Put.mono _ _ _ _ _)
      | (with_reducible exact node_Split.mono _ _)
      | (with_reducible exact sextonlaw09_smudge.mono _ _)
      | (with_reducible exact sextonref09_Big.mono _ _)
      | (with_reducible exact sextonref09_Drop.mono _ _ _ _)
      | (with_reducible exact sextonref09_Find.mono _ _ _ _)
      | (with_reducible exact sextonref09_Is.mono _ _)
      | (with_reducible exact sextonref09_Put.mono _ _ _ _ _)
      | (with_reducible exact sextonref09_Same.mono _ _ _)
      | (with_reducible exact LeO.refl _)
      | (with_reducible exact LeO.none _)
      | (with_reducible refine LeO.ite ?_ ?_)
      | (with_reducible refine LeO.bind ?_ (fun _ => ?_))
      | exact ih0 _ _ _ _ _ _ _
      | exact ih1 _ _ _ _ _ _ _ _
      | exact node_Drop.mono _ _ _ _
      | exact node_Is.mono _ _
      | exact node_Level.mono _ _ _ _
      | exact node_Put.mono _ _ _ _ _
      | exact node_Split.mono _ _
      | exact sextonlaw09_smudge.mono _ _
      | exact sextonref09_Big.mono _ _
      | exact sextonref09_Drop.mono _ _ _ _
      | exact sextonref09_Find.mono _ _ _ _
      | exact sextonref09_Is.mono _ _
      | exact sextonref09_Put.mono _ _ _ _ _
      | exact sextonref09_Same.mono _ _ _
      | exact LeO.none _
      | refine LeO.ite ?_ ?_
      | refine LeO.bind ?_ (fun _ => ?_)
    · intro y0 y1 y2 y3 y4 y5 y6 y7
      unfold sextonlaw09_NodeDoes.j1
      repeat' first
      | (with_reducible exact ih0 _ _ _ _ _ _ _)
      | (with_reducible exact ih1 _ _ _ _ _ _ _ _)
      | (with_reducible exact node_Drop.mono _ _ _ _)
      | (with_reducible exact node_Is.mono _ _)
      | (with_reducible exact node_Level.mono _ _ _ _)
      | (with_reducible exact node_Put.mono _ _ _ _ _)
      | (with_reducible exact node_Split.mono _ _)
      | (with_reducible exact sextonlaw09_smudge.mono _ _)
      | (with_reducible exact sextonref09_Big.mono _ _)
      | (with_reducible exact sextonref09_Drop.mono _ _ _ _)
      | (with_reducible exact sextonref09_Find.mono _ _ _ _)
      | (with_reducible exact sextonref09_Is.mono _ _)
      | (with_reducible exact sextonref09_Put.mono _ _ _ _ _)
      | (with_reducible exact sextonref09_Same.mono _ _ _)
      | (with_reducible exact LeO.refl _)
      | (with_reducible exact LeO.none _)
      | (with_reducible refine LeO.ite ?_ ?_)
      | (with_reducible refine LeO.bind ?_ (fun _ => ?_))
      | exact ih0 _ _ _ _ _ _ _
      | exact ih1 _ _ _ _ _ _ _ _
      | exact node_Drop.mono _ _ _ _
      | exact node_Is.mono _ _
      | exact node_Level.mono _ _ _ _
      | exact node_Put.mono _ _ _ _ _
      | exact node_Split.mono _ _
      | exact sextonlaw09_smudge.mono _ _
      | exact sextonref09_Big.mono _ _
      | exact sextonref09_Drop.mono _ _ _ _
      | exact sextonref09_Find.mono _ _ _ _
      | exact sextonref09_Is.mono _ _
      | exact sextonref09_Put.mono _ _ _ _ _
      | exact sextonref09_Same.mono _ _ _
      | exact LeO.none _
      | refine LeO.ite ?_ ?_
      | refine LeO.bind ?_ (fun _ => ?_)
theorem sextonlaw09_NodeDoes.mono : ∀ a0 a1 a2 a3 a4 a5 k, LeO (sextonlaw09_NodeDoes.f k a0 a1 a2 a3 a4 a5) (sextonlaw09_NodeDoes.f (k + 1) a0 a1 a2 a3 a4 a5) := by
  intro a0 a1 a2 a3 a4 a5 k
  obtain ⟨ih0, ih1⟩ := sextonlaw09_NodeDoes.mono_l k
  unfold sextonlaw09_NodeDoes.f
  repeat' first
      | (with_reducible exact ih0 _ _ _ _ _ _ _)
      | (with_reducible exact ih1 _ _ _ _ _ _ _ _)
      | (with_reducible exact node_Drop.mono _ _ _ _)
      | (with_reducible exact node_Is.mono _ _)
      | (with_reducible exact node_Level.mono _ _ _ _)
      | (with_reducible exact node_Put.mono _ _ _ _ _)
      | (with_reducible exact node_Split.mono _ _)
      | (with_reducible exact sextonlaw09_smudge.mono _ _)
      | (with_reducible exact sextonref09_Big.mono _ _)
      | (with_reducible exact sextonref09_Drop.mono _ _ _ _)
      | (with_reducible exact sextonref09_Find.mono _ _ _ _)
      | (with_reducible exact sextonref09_Is.mono _ _)
      | (with_reducible exact sextonref09_Put.mono _ _ _ _ _)
      | (with_reducible exact sextonref09_Same.mono _ _ _)
      | (with_reducible exact LeO.refl _)
      | (with_reducible exact LeO.none _)
      | (with_reducible refine LeO.ite ?_ ?_)
      | (with_reducible refine LeO.bind ?_ (fun _ => ?_))
      | exact ih0 _ _ _ _ _ _ _
      | exact ih1 _ _ _ _ _ _ _ _
      | exact node_Drop.mono _ _ _ _
      | exact node_Is.mono _ _
      | exact node_Level.mono _ _ _ _
      | exact node_Put.mono _ _ _ _ _
      | exact node_Split.mono _ _
      | exact sextonlaw09_smudge.mono _ _
      | exact sextonref09_Big.mono _ _
      | exact sextonref09_Drop.mono _ _ _ _
      | exact sextonref09_Find.mono _ _ _ _
      | exact sextonref09_Is.mono _ _
      | exact sextonref09_Put.mono _ _ _ _ _
      | exact sextonref09_Same.mono _ _ _
      | exact LeO.none _
      | refine LeO.ite ?_ ?_
      | refine LeO.bind ?_ (fun _ => ?_)
set_option maxHeartbeats 8000000 in
set_option maxRecDepth 100000 in
theorem sextonlaw09_NodeDoes.calls (k : Nat) (A0 : Option Addr) (c0 : Nat) (l0 : List (S26)) (A1 : Option Addr) (c1 : Nat) (l1 : List (S26)) (a2_0 : ByteArray) (a2_1 : Int) (a2_2 : ByteArray) (a3 : Int) (r : Bool) (hrt : r = true := by rfl) (w : World) (hr0 : Kd.C k26 w A0 l0.length l0) (hc0 : l0.length ≤ c0) (hr1 : Kd.C k26 w A1 l1.length l1) (hc1 : l1.length ≤ c1) (h : sextonlaw09_NodeDoes.f k l0 l1 a2_0 a2_1 a2_2 a3 = some r) :
    Calls Try.prog 3 #[.slice A0 l0.length c0, .slice A1 l1.length c1, .agg #[.string a2_0, .int .i64 a2_1, .string a2_2], .int .i64 a3] w fun e w' => e = .returned (.bool r) ∧ Below w.heap.size w w' := by
  have HRT := Aside0.mk hrt
  have hu26 := Try.underlying26
  have hu24 := Try.underlying24
  have HR0 := Aside0.mk hr0
  have HC0 := Aside0.mk hc0
  clear hr0 hc0
  have HR1 := Aside0.mk hr1
  have HC1 := Aside0.mk hc1
  clear hr1 hc1
  have HB := Aside0.mk (Below.refl w.heap.size w)
  have H : ((sextonref09_Big.f k l0).bind fun t315 => (if t315 = true then (sextonlaw09_NodeDoes.j0 k l0 l1 a3 true a2_0 a2_1 a2_2) else ((sextonref09_Big.f k l1).bind fun t316 => (if t316 = true then (sextonlaw09_NodeDoes.j0 k l0 l1 a3 true a2_0 a2_1 a2_2) else ((sextonref09_Big.f k (([(⟨(⟨a2_0, a2_1⟩ : S24), a2_2⟩ : S26)] : List (S26)))).bind fun t320 => (sextonlaw09_NodeDoes.j0 k l0 l1 a3 t320 a2_0 a2_1 a2_2)))))) = some r := h
  clear h
  have HC5 := Aside0.mk H
  clear H
  go_enter Try.func3, Try.ntmps3
  go_upto_region 1 with (first | ((with_reducible refine gate_dst (N := 6) rfl ?_); (try (refine gate_guard (by rfl) ?_; dsimp only)); refine box_event ?hg (N := 6) ?hd (cs := #[.string a2_0, .int .i64 a2_1, .string a2_2]) (t := 26) ?hr ?_; (case hd => rfl); (case hg => rfl); (case hr => first | (go_simp; done) | (go_simp; rfl)); intro gb314 hg w6 hbox hb; have n0_ := Aside0.mk (below_step (by repeat (first | (with_reducible first | exact HB.out | apply below_alloc | apply pw_below_drewN | apply below_drew1) | exact HB.out)) hb); have n1_ := Aside0.mk (hbox); have n2_ := Aside0.mk ((by rw [hg]; exact (below_size (by repeat (first | (with_reducible first | exact HB.out | apply below_alloc | apply pw_below_drewN | apply below_drew1) | exact HB.out))) : w.heap.size ≤ gb314)); have n3_ := Aside0.mk ((by rw [hg]; exact (below_size (by repeat (first | (with_reducible first | exact HB.out | apply below_alloc | apply pw_below_drewN | apply below_drew1) | exact HB.out))) : w.heap.size ≤ gb314)); clear HB; have HB := n0_; have BK314 := n1_; have GW314 := n2_; have GE314 := n3_; clear n0_ n1_ n2_ n3_; clear hb hbox hg))
  (try simp only [Act.put, List.setIfInBounds_toArray, List.set_cons_zero, List.set_cons_succ])
  go_cut [39] (fun v39 wc => ∃ (kq : Nat) (x39_4 : Bool), v39 = .bool x39_4 ∧ Aside0 (sextonlaw09_NodeDoes.j0 kq l0 l1 a3 x39_4 a2_0 a2_1 a2_2 = some r) ∧ Aside0 (kq ≤ k) ∧ Aside0 (wc.heap[gb314]? = some (.cells #[.string a2_0, .int .i64 a2_1, .string a2_2] 26 (0, 0))) ∧ Aside0 (Below w.heap.size w wc))
  case first =>
    have H := HC5.out
    clear HC5
    replace H := Option.bind_eq_some_iff.mp H
    obtain ⟨t315, A70, H⟩ := H
    replace H : (if t315 = true then (sextonlaw09_NodeDoes.j0 k l0 l1 a3 true a2_0 a2_1 a2_2) else ((sextonref09_Big.f k l1).bind fun t316 => (if t316 = true then (sextonlaw09_NodeDoes.j0 k l0 l1 a3 true a2_0 a2_1 a2_2) else ((sextonref09_Big.f k (([(⟨(⟨a2_0, a2_1⟩ : S24), a2_2⟩ : S26)] : List (S26)))).bind fun t320 => (sextonlaw09_NodeDoes.j0 k l0 l1 a3 t320 a2_0 a2_1 a2_2))))) = some r := H
    have A7 := Aside0.mk A70
    clear A70
    by_cases c8 : t315 = true
    · subst c8
      have H1 : (sextonlaw09_NodeDoes.j0 k l0 l1 a3 true a2_0 a2_1 a2_2) = some r := by rw [if_pos rfl] at H; exact H
      clear H
      have H := H1
      clear H1
      have H' := Aside0.mk H
      clear H
      go_wp2_with (first | ((with_reducible refine gate_callee (f := 13) rfl ?_); refine goesL_ (some 30) rfl rfl Try.func13 (by kernel_rfl) rfl #[.slice A0 l0.length c0] rfl (by (try simp only [List.map_toArray, List.map_cons, List.map_nil]); first | done | rfl | (simp only [List.length_drop, List.length_take]; rfl)) ?_; (with_reducible refine (sextonref09_Big.calls k _ _ l0 true _ ?side1 ?side2 A7.out).mono ?_); (case side1 => repeat (first | exact (Kd.C_below HR0.out HB.out) | (with_reducible refine Kd.C_alloc ?_ _) | (with_reducible refine Kd.C_drewN ?_ _) | (with_reducible refine Kd.C_drew ?_))); (case side2 => exact HC0.out); rintro e w' ⟨rfl, ⟨nd, rfl⟩⟩; refine ⟨_, rfl, ?_⟩))
      go_meet
      case rel => exact ⟨_, (true), (by first | rfl | (simp; done) | (simp [*]; done)), H', ⟨by first | omega | exact Nat.le_refl _⟩, ⟨by (with_reducible repeat (first | refine blk_drewN ?_ _ | refine blk_drew ?_ | refine blk_alloc ?_ _)); exact BK314.out⟩, ⟨by repeat (first | (with_reducible first | exact HB.out | apply below_alloc | apply pw_below_drewN | apply below_drew1 | refine below_set ?_ GE314.out) | exact HB.out)⟩⟩
    · replace c8 := Bool.eq_false_iff.mpr c8
      subst c8
      have H1 : ((sextonref09_Big.f k l1).bind fun t316 => (if t316 = true then (sextonlaw09_NodeDoes.j0 k l0 l1 a3 true a2_0 a2_1 a2_2) else ((sextonref09_Big.f k (([(⟨(⟨a2_0, a2_1⟩ : S24), a2_2⟩ : S26)] : List (S26)))).bind fun t320 => (sextonlaw09_NodeDoes.j0 k l0 l1 a3 t320 a2_0 a2_1 a2_2)))) = some r := by rw [if_neg (show ¬ (false = true) by decide)] at H; exact H
      clear H
      have H := H1
      clear H1
      replace H := Option.bind_eq_some_iff.mp H
      obtain ⟨t316, A90, H⟩ := H
      replace H : (if t316 = true then (sextonlaw09_NodeDoes.j0 k l0 l1 a3 true a2_0 a2_1 a2_2) else ((sextonref09_Big.f k (([(⟨(⟨a2_0, a2_1⟩ : S24), a2_2⟩ : S26)] : List (S26)))).bind fun t320 => (sextonlaw09_NodeDoes.j0 k l0 l1 a3 t320 a2_0 a2_1 a2_2))) = some r := H
      have A9 := Aside0.mk A90
      clear A90
      by_cases c10 : t316 = true
      · subst c10
        have H1 : (sextonlaw09_NodeDoes.j0 k l0 l1 a3 true a2_0 a2_1 a2_2) = some r := by rw [if_pos rfl] at H; exact H
        clear H
        have H := H1
        clear H1
        have H' := Aside0.mk H
        clear H
        go_wp2_with (first | ((with_reducible refine gate_callee (f := 13) rfl ?_); refine goesL_ (some 30) rfl rfl Try.func13 (by kernel_rfl) rfl #[.slice A0 l0.length c0] rfl (by (try simp only [List.map_toArray, List.map_cons, List.map_nil]); first | done | rfl | (simp only [List.length_drop, List.length_take]; rfl)) ?_; (with_reducible refine (sextonref09_Big.calls k _ _ l0 false _ ?side1 ?side2 A7.out).mono ?_); (case side1 => repeat (first | exact (Kd.C_below HR0.out HB.out) | (with_reducible refine Kd.C_alloc ?_ _) | (with_reducible refine Kd.C_drewN ?_ _) | (with_reducible refine Kd.C_drew ?_))); (case side2 => exact HC0.out); rintro e w' ⟨rfl, ⟨nd, rfl⟩⟩; refine ⟨_, rfl, ?_⟩) | (go_at_call 13; (with_reducible refine (sextonref09_Big.calls k _ _ l1 true _ ?side1 ?side2 A9.out).mono ?_); (case side1 => repeat (first | exact (Kd.C_below HR1.out (by repeat (first | (with_reducible first | exact HB.out | apply below_alloc | apply pw_below_drewN | apply below_drew1 | refine below_set ?_ GE314.out) | exact HB.out))) | (with_reducible refine Kd.C_alloc ?_ _) | (with_reducible refine Kd.C_drewN ?_ _) | (with_reducible refine Kd.C_drew ?_))); (case side2 => exact HC1.out); rintro e w' ⟨rfl, ⟨nd, rfl⟩⟩))
        go_meet
        case rel => exact ⟨_, (true), (by first | rfl | (simp; done) | (simp [*]; done)), H', ⟨by first | omega | exact Nat.le_refl _⟩, ⟨by (with_reducible repeat (first | refine blk_drewN ?_ _ | refine blk_drew ?_ | refine blk_alloc ?_ _)); exact BK314.out⟩, ⟨by repeat (first | (with_reducible first | exact HB.out | apply below_alloc | apply pw_below_drewN | apply below_drew1 | refine below_set ?_ GE314.out) | exact HB.out)⟩⟩
      · replace c10 := Bool.eq_false_iff.mpr c10
        subst c10
        have H1 : ((sextonref09_Big.f k (([(⟨(⟨a2_0, a2_1⟩ : S24), a2_2⟩ : S26)] : List (S26)))).bind fun t320 => (sextonlaw09_NodeDoes.j0 k l0 l1 a3 t320 a2_0 a2_1 a2_2)) = some r := by rw [if_neg (show ¬ (false = true) by decide)] at H; exact H
        clear H
        have H := H1
        clear H1
        obtain ⟨y317, hy317⟩ : ∃ y_ : List (S26), y_ = (([(⟨(⟨a2_0, a2_1⟩ : S24), a2_2⟩ : S26)] : List (S26))) := ⟨_, rfl⟩
        replace H : ((sextonref09_Big.f k y317).bind fun t320 => (sextonlaw09_NodeDoes.j0 k l0 l1 a3 t320 a2_0 a2_1 a2_2)) = some r := by first | (rw [hy317]; with_reducible exact H) | (have H2_ := (Option.bind_some _ _).symm.trans H; rw [hy317]; with_reducible exact H2_) | (have H2_ := (Option.bind_some _ _).symm.trans H; with_reducible exact H2_) | with_reducible exact H | (rw [hy317]; exact H) | exact H
        have Ny317 := Aside0.mk hy317
        clear hy317
        replace H := Option.bind_eq_some_iff.mp H
        obtain ⟨t320, A110, H⟩ := H
        replace H : (sextonlaw09_NodeDoes.j0 k l0 l1 a3 t320 a2_0 a2_1 a2_2) = some r := H
        have A11 := Aside0.mk A110
        clear A110
        have H' := Aside0.mk H
        clear H
        go_wp2_with (first | ((with_reducible refine gate_callee (f := 13) rfl ?_); refine goesL_ (some 30) rfl rfl Try.func13 (by kernel_rfl) rfl #[.slice A0 l0.length c0] rfl (by (try simp only [List.map_toArray, List.map_cons, List.map_nil]); first | done | rfl | (simp only [List.length_drop, List.length_take]; rfl)) ?_; (with_reducible refine (sextonref09_Big.calls k _ _ l0 false _ ?side1 ?side2 A7.out).mono ?_); (case side1 => repeat (first | exact (Kd.C_below HR0.out HB.out) | (with_reducible refine Kd.C_alloc ?_ _) | (with_reducible refine Kd.C_drewN ?_ _) | (with_reducible refine Kd.C_drew ?_))); (case side2 => exact HC0.out); rintro e w' ⟨rfl, ⟨nd, rfl⟩⟩; refine ⟨_, rfl, ?_⟩) | (go_at_call 13; (with_reducible refine (sextonref09_Big.calls k _ _ l1 false _ ?side1 ?side2 A9.out).mono ?_); (case side1 => repeat (first | exact (Kd.C_below HR1.out (by repeat (first | (with_reducible first | exact HB.out | apply below_alloc | apply pw_below_drewN | apply below_drew1 | refine below_set ?_ GE314.out) | exact HB.out))) | (with_reducible refine Kd.C_alloc ?_ _) | (with_reducible refine Kd.C_drewN ?_ _) | (with_reducible refine Kd.C_drew ?_))); (case side2 => exact HC1.out); rintro e w' ⟨rfl, ⟨nd, rfl⟩⟩; have hcz12_0 : w6.cell? ⟨gb314, 0, none⟩ = some (.string a2_0) := (blk_cell BK314.out 0).trans rfl; have hcz12_1 : w6.cell? ⟨gb314, 1, none⟩ = some (.int .i64 a2_1) := (blk_cell BK314.out 1).trans rfl; have hcz12_2 : w6.cell? ⟨gb314, 2, none⟩ = some (.string a2_2) := (blk_cell BK314.out 2).trans rfl; have hfz12_0 := blk_frozen BK314.out 0; have hfz12_1 := blk_frozen BK314.out 1; have hfz12_2 := blk_frozen BK314.out 2) | ((with_reducible refine gate_dst (N := 37) rfl ?_); (try (refine gate_guard (by rfl) ?_; dsimp only)); refine Kd.R_lit k26 _ 26 ?hg (N := 37) ?hd (xs := ([(⟨(⟨a2_0, a2_1⟩ : S24), a2_2⟩ : S26)] : List (S26))) (inner := [.string a2_0, .int .i64 a2_1, .string a2_2]) (ok := fun _ => True) (okp := fun _ => True) ?hr ?hp (fun _ hk => hk) trivial (Below.refl _ _) (Nat.le_refl _) (by simp) ?_; (case hd => rfl); (case hg => rfl); (case hr => first | (go_simp; done) | (go_simp; rfl)); (case hp => exact (Reps.c3 (show Kd.M k26 _ _ _ (⟨(⟨a2_0, a2_1⟩ : S24), a2_2⟩ : S26) [.string a2_0, .int .i64 a2_1, .string a2_2] from (k26_mkM _ _ _ (⟨(⟨a2_0, a2_1⟩ : S24), a2_2⟩ : S26) )) (Reps.none _ _))); intro v318 w13 ho14 hb hg_ hnew_; clear hg_ hnew_; (first | rw [← Ny317.out] at ho14 | (simp only [Int.reduceToNat] at ho14; rw [← Ny317.out] at ho14)); have n0_ := Aside0.mk (Kd.R_lower (Kd.R_newB ho14 (g := gb314) (o := .cells #[.string a2_0, .int .i64 a2_1, .string a2_2] 26 (0, 0)) (by (with_reducible repeat (first | refine blk_drewN ?_ _ | refine blk_drew ?_ | refine blk_alloc ?_ _)); exact BK314.out)) (below_size (by repeat (first | (with_reducible first | exact HB.out | apply below_alloc | apply pw_below_drewN | apply below_drew1 | refine below_set ?_ GE314.out) | exact HB.out)))); have n1_ := Aside0.mk (blk_below (g := gb314) (o := .cells #[.string a2_0, .int .i64 a2_1, .string a2_2] 26 (0, 0)) (by (with_reducible repeat (first | refine blk_drewN ?_ _ | refine blk_drew ?_ | refine blk_alloc ?_ _)); exact BK314.out) hb); have n2_ := Aside0.mk (below_step (by repeat (first | (with_reducible first | exact HB.out | apply below_alloc | apply pw_below_drewN | apply below_drew1 | refine below_set ?_ GE314.out) | exact HB.out)) hb); clear BK314; clear HB; have HO319 := n0_; have BK314 := n1_; have HB := n2_; clear n0_ n1_ n2_; clear hb ho14; obtain ⟨Ao15, co15, eo15⟩ := Kd.R_slice HO319.out; subst eo15) | (go_at_call 13; (with_reducible refine (sextonref09_Big.calls k _ _ y317 t320 _ ?side1 ?side2 A11.out).mono ?_); (case side1 => repeat (first | exact (Kd.R_reads' HO319.out).2.2 | (with_reducible refine Kd.C_alloc ?_ _) | (with_reducible refine Kd.C_drewN ?_ _) | (with_reducible refine Kd.C_drew ?_))); (case side2 => exact (Kd.R_reads' HO319.out).2.1); rintro e w' ⟨rfl, ⟨nd, rfl⟩⟩))
        go_meet
        case rel => exact ⟨_, (t320), (by first | rfl | (simp; done) | (simp [*]; done)), H', ⟨by first | omega | exact Nat.le_refl _⟩, ⟨by (with_reducible repeat (first | refine blk_drewN ?_ _ | refine blk_drew ?_ | refine blk_alloc ?_ _)); exact BK314.out⟩, ⟨by repeat (first | (with_reducible first | exact HB.out | apply below_alloc | apply pw_below_drewN | apply below_drew1 | refine below_set ?_ GE314.out) | exact HB.out)⟩⟩
  case rest =>
    clear HC5
    try clear c1
    try clear p2
    try clear c3
    try clear c8
    try clear c10
    try clear c13
    try clear hcz12_0
    try clear hcz12_1
    try clear hcz12_2
    try clear hfz12_0
    try clear hfz12_1
    try clear hfz12_2
    obtain ⟨kq, x39_4, rfl, HA, HJ4, BK314, HB⟩ := hcut
    cases kq with
    | zero => exact absurd HA.out (by simp [sextonlaw09_NodeDoes.j0])
    | succ kj4 =>
      have H := HA.out
      clear HA
      simp only [sextonlaw09_NodeDoes.j0] at H
      by_cases c16 : x39_4 = true
      · subst c16
        have H1 : (some true) = some r := by rw [if_pos rfl] at H; exact H
        clear H
        have H := H1
        clear H1
        obtain rfl := Option.some.inj H
        go_wp2
        go_ret
        exact ⟨by first | rfl | (simp [errW_none, errW_some] <;> rfl) | (simp [*, errW_none, errW_some] <;> rfl), by repeat (first | (with_reducible first | exact HB.out | apply below_alloc | apply pw_below_drewN | apply below_drew1 | refine below_set ?_ GE314.out) | exact HB.out)⟩
      · replace c16 := Bool.eq_false_iff.mpr c16
        subst c16
        have H1 : ((sextonref09_Own.f l0).bind fun t321 => ((node_Find.f l0 a2_0 a2_1).bind fun bt324 => ((sextonref09_Find.f kj4 t321 a2_0 a2_1).bind fun bt326 => ((node_Put.f kj4 l0 a2_0 a2_1 a2_2).bind fun t328 => ((sextonref09_Put.f kj4 t321 a2_0 a2_1 a2_2).bind fun t331 => ((node_Drop.f kj4 l0 a2_0 a2_1).bind fun t334 => ((sextonref09_Drop.f kj4 t321 a2_0 a2_1).bind fun t337 => ((node_Split.f kj4 l0).bind fun bt340 => ((sextonref09_Split.f t321).bind fun bt346 => ((node_Level.f kj4 l0 l1 a3).bind fun bt352 => ((sextonref09_Level.f t321 l1 a3).bind fun bt359 => (if bt324.1 = bt326.1 then (if (bt324.2 == bt326.2) = true then ((sextonref09_Same.f kj4 t328 t331).bind fun t366 => (if t366 = true then ((sextonref09_Same.f kj4 t334 t337).bind fun t367 => (if t367 = true then ((sextonref09_Same.f kj4 bt340.1 bt346.1).bind fun t368 => (if t368 = true then ((sextonref09_Same.f kj4 bt340.2 bt346.2).bind fun t369 => (if t369 = true then ((sextonref09_Same.f kj4 bt352.1 bt359.1).bind fun t370 => (if t370 = true then ((sextonref09_Same.f kj4 bt352.2.1 bt359.2.1).bind fun t371 => (if t371 = true then (if bt352.2.2 = bt359.2.2 then ((node_Is.f kj4 l0).bind fun t372 => ((sextonref09_Is.f kj4 t321).bind fun t373 => (sextonlaw09_NodeDoes.j1 kj4 l0 t321 t328 t334 bt340.1 bt340.2 bt352.1 (t372 == t373)))) else (sextonlaw09_NodeDoes.j1 kj4 l0 t321 t328 t334 bt340.1 bt340.2 bt352.1 false)) else (sextonlaw09_NodeDoes.j1 kj4 l0 t321 t328 t334 bt340.1 bt340.2 bt352.1 false))) else (sextonlaw09_NodeDoes.j1 kj4 l0 t321 t328 t334 bt340.1 bt340.2 bt352.1 false))) else (sextonlaw09_NodeDoes.j1 kj4 l0 t321 t328 t334 bt340.1 bt340.2 bt352.1 false))) else (sextonlaw09_NodeDoes.j1 kj4 l0 t321 t328 t334 bt340.1 bt340.2 bt352.1 false))) else (sextonlaw09_NodeDoes.j1 kj4 l0 t321 t328 t334 bt340.1 bt340.2 bt352.1 false))) else (sextonlaw09_NodeDoes.j1 kj4 l0 t321 t328 t334 bt340.1 bt340.2 bt352.1 false))) else (sextonlaw09_NodeDoes.j1 kj4 l0 t321 t328 t334 bt340.1 bt340.2 bt352.1 false)) else (sextonlaw09_NodeDoes.j1 kj4 l0 t321 t328 t334 bt340.1 bt340.2 bt352.1 false))))))))))))) = some r := by rw [if_neg (show ¬ (false = true) by decide)] at H; exact H
        clear H
        have H := H1
        clear H1
        replace H := Option.bind_eq_some_iff.mp H
        obtain ⟨t321, A170, H⟩ := H
        replace H : ((node_Find.f l0 a2_0 a2_1).bind fun bt324 => ((sextonref09_Find.f kj4 t321 a2_0 a2_1).bind fun bt326 => ((node_Put.f kj4 l0 a2_0 a2_1 a2_2).bind fun t328 => ((sextonref09_Put.f kj4 t321 a2_0 a2_1 a2_2).bind fun t331 => ((node_Drop.f kj4 l0 a2_0 a2_1).bind fun t334 => ((sextonref09_Drop.f kj4 t321 a2_0 a2_1).bind fun t337 => ((node_Split.f kj4 l0).bind fun bt340 => ((sextonref09_Split.f t321).bind fun bt346 => ((node_Level.f kj4 l0 l1 a3).bind fun bt352 => ((sextonref09_Level.f t321 l1 a3).bind fun bt359 => (if bt324.1 = bt326.1 then (if (bt324.2 == bt326.2) = true then ((sextonref09_Same.f kj4 t328 t331).bind fun t366 => (if t366 = true then ((sextonref09_Same.f kj4 t334 t337).bind fun t367 => (if t367 = true then ((sextonref09_Same.f kj4 bt340.1 bt346.1).bind fun t368 => (if t368 = true then ((sextonref09_Same.f kj4 bt340.2 bt346.2).bind fun t369 => (if t369 = true then ((sextonref09_Same.f kj4 bt352.1 bt359.1).bind fun t370 => (if t370 = true then ((sextonref09_Same.f kj4 bt352.2.1 bt359.2.1).bind fun t371 => (if t371 = true then (if bt352.2.2 = bt359.2.2 then ((node_Is.f kj4 l0).bind fun t372 => ((sextonref09_Is.f kj4 t321).bind fun t373 => (sextonlaw09_NodeDoes.j1 kj4 l0 t321 t328 t334 bt340.1 bt340.2 bt352.1 (t372 == t373)))) else (sextonlaw09_NodeDoes.j1 kj4 l0 t321 t328 t334 bt340.1 bt340.2 bt352.1 false)) else (sextonlaw09_NodeDoes.j1 kj4 l0 t321 t328 t334 bt340.1 bt340.2 bt352.1 false))) else (sextonlaw09_NodeDoes.j1 kj4 l0 t321 t328 t334 bt340.1 bt340.2 bt352.1 false))) else (sextonlaw09_NodeDoes.j1 kj4 l0 t321 t328 t334 bt340.1 bt340.2 bt352.1 false))) else (sextonlaw09_NodeDoes.j1 kj4 l0 t321 t328 t334 bt340.1 bt340.2 bt352.1 false))) else (sextonlaw09_NodeDoes.j1 kj4 l0 t321 t328 t334 bt340.1 bt340.2 bt352.1 false))) else (sextonlaw09_NodeDoes.j1 kj4 l0 t321 t328 t334 bt340.1 bt340.2 bt352.1 false))) else (sextonlaw09_NodeDoes.j1 kj4 l0 t321 t328 t334 bt340.1 bt340.2 bt352.1 false)) else (sextonlaw09_NodeDoes.j1 kj4 l0 t321 t328 t334 bt340.1 bt340.2 bt352.1 false)))))))))))) = some r := H
        have A17 := Aside0.mk A170
        clear A170
        replace H := Option.bind_eq_some_iff.mp H
        obtain ⟨⟨t324, t325⟩, A180, H⟩ := H
        replace H : ((sextonref09_Find.f kj4 t321 a2_0 a2_1).bind fun bt326 => ((node_Put.f kj4 l0 a2_0 a2_1 a2_2).bind fun t328 => ((sextonref09_Put.f kj4 t321 a2_0 a2_1 a2_2).bind fun t331 => ((node_Drop.f kj4 l0 a2_0 a2_1).bind fun t334 => ((sextonref09_Drop.f kj4 t321 a2_0 a2_1).bind fun t337 => ((node_Split.f kj4 l0).bind fun bt340 => ((sextonref09_Split.f t321).bind fun bt346 => ((node_Level.f kj4 l0 l1 a3).bind fun bt352 => ((sextonref09_Level.f t321 l1 a3).bind fun bt359 => (if t324 = bt326.1 then (if (t325 == bt326.2) = true then ((sextonref09_Same.f kj4 t328 t331).bind fun t366 => (if t366 = true then ((sextonref09_Same.f kj4 t334 t337).bind fun t367 => (if t367 = true then ((sextonref09_Same.f kj4 bt340.1 bt346.1).bind fun t368 => (if t368 = true then ((sextonref09_Same.f kj4 bt340.2 bt346.2).bind fun t369 => (if t369 = true then ((sextonref09_Same.f kj4 bt352.1 bt359.1).bind fun t370 => (if t370 = true then ((sextonref09_Same.f kj4 bt352.2.1 bt359.2.1).bind fun t371 => (if t371 = true then (if bt352.2.2 = bt359.2.2 then ((node_Is.f kj4 l0).bind fun t372 => ((sextonref09_Is.f kj4 t321).bind fun t373 => (sextonlaw09_NodeDoes.j1 kj4 l0 t321 t328 t334 bt340.1 bt340.2 bt352.1 (t372 == t373)))) else (sextonlaw09_NodeDoes.j1 kj4 l0 t321 t328 t334 bt340.1 bt340.2 bt352.1 false)) else (sextonlaw09_NodeDoes.j1 kj4 l0 t321 t328 t334 bt340.1 bt340.2 bt352.1 false))) else (sextonlaw09_NodeDoes.j1 kj4 l0 t321 t328 t334 bt340.1 bt340.2 bt352.1 false))) else (sextonlaw09_NodeDoes.j1 kj4 l0 t321 t328 t334 bt340.1 bt340.2 bt352.1 false))) else (sextonlaw09_NodeDoes.j1 kj4 l0 t321 t328 t334 bt340.1 bt340.2 bt352.1 false))) else (sextonlaw09_NodeDoes.j1 kj4 l0 t321 t328 t334 bt340.1 bt340.2 bt352.1 false))) else (sextonlaw09_NodeDoes.j1 kj4 l0 t321 t328 t334 bt340.1 bt340.2 bt352.1 false))) else (sextonlaw09_NodeDoes.j1 kj4 l0 t321 t328 t334 bt340.1 bt340.2 bt352.1 false)) else (sextonlaw09_NodeDoes.j1 kj4 l0 t321 t328 t334 bt340.1 bt340.2 bt352.1 false))))))))))) = some r := H
        have A18 := Aside0.mk A180
        clear A180
        replace H := Option.bind_eq_some_iff.mp H
        obtain ⟨⟨t326, t327⟩, A190, H⟩ := H
        replace H : ((node_Put.f kj4 l0 a2_0 a2_1 a2_2).bind fun t328 => ((sextonref09_Put.f kj4 t321 a2_0 a2_1 a2_2).bind fun t331 => ((node_Drop.f kj4 l0 a2_0 a2_1).bind fun t334 => ((sextonref09_Drop.f kj4 t321 a2_0 a2_1).bind fun t337 => ((node_Split.f kj4 l0).bind fun bt340 => ((sextonref09_Split.f t321).bind fun bt346 => ((node_Level.f kj4 l0 l1 a3).bind fun bt352 => ((sextonref09_Level.f t321 l1 a3).bind fun bt359 => (if t324 = t326 then (if (t325 == t327) = true then ((sextonref09_Same.f kj4 t328 t331).bind fun t366 => (if t366 = true then ((sextonref09_Same.f kj4 t334 t337).bind fun t367 => (if t367 = true then ((sextonref09_Same.f kj4 bt340.1 bt346.1).bind fun t368 => (if t368 = true then ((sextonref09_Same.f kj4 bt340.2 bt346.2).bind fun t369 => (if t369 = true then ((sextonref09_Same.f kj4 bt352.1 bt359.1).bind fun t370 => (if t370 = true then ((sextonref09_Same.f kj4 bt352.2.1 bt359.2.1).bind fun t371 => (if t371 = true then (if bt352.2.2 = bt359.2.2 then ((node_Is.f kj4 l0).bind fun t372 => ((sextonref09_Is.f kj4 t321).bind fun t373 => (sextonlaw09_NodeDoes.j1 kj4 l0 t321 t328 t334 bt340.1 bt340.2 bt352.1 (t372 == t373)))) else (sextonlaw09_NodeDoes.j1 kj4 l0 t321 t328 t334 bt340.1 bt340.2 bt352.1 false)) else (sextonlaw09_NodeDoes.j1 kj4 l0 t321 t328 t334 bt340.1 bt340.2 bt352.1 false))) else (sextonlaw09_NodeDoes.j1 kj4 l0 t321 t328 t334 bt340.1 bt340.2 bt352.1 false))) else (sextonlaw09_NodeDoes.j1 kj4 l0 t321 t328 t334 bt340.1 bt340.2 bt352.1 false))) else (sextonlaw09_NodeDoes.j1 kj4 l0 t321 t328 t334 bt340.1 bt340.2 bt352.1 false))) else (sextonlaw09_NodeDoes.j1 kj4 l0 t321 t328 t334 bt340.1 bt340.2 bt352.1 false))) else (sextonlaw09_NodeDoes.j1 kj4 l0 t321 t328 t334 bt340.1 bt340.2 bt352.1 false))) else (sextonlaw09_NodeDoes.j1 kj4 l0 t321 t328 t334 bt340.1 bt340.2 bt352.1 false)) else (sextonlaw09_NodeDoes.j1 kj4 l0 t321 t328 t334 bt340.1 bt340.2 bt352.1 false)))))))))) = some r := H
        have A19 := Aside0.mk A190
        clear A190
        replace H := Option.bind_eq_some_iff.mp H
        obtain ⟨t328, A200, H⟩ := H
        replace H : ((sextonref09_Put.f kj4 t321 a2_0 a2_1 a2_2).bind fun t331 => ((node_Drop.f kj4 l0 a2_0 a2_1).bind fun t334 => ((sextonref09_Drop.f kj4 t321 a2_0 a2_1).bind fun t337 => ((node_Split.f kj4 l0).bind fun bt340 => ((sextonref09_Split.f t321).bind fun bt346 => ((node_Level.f kj4 l0 l1 a3).bind fun bt352 => ((sextonref09_Level.f t321 l1 a3).bind fun bt359 => (if t324 = t326 then (if (t325 == t327) = true then ((sextonref09_Same.f kj4 t328 t331).bind fun t366 => (if t366 = true then ((sextonref09_Same.f kj4 t334 t337).bind fun t367 => (if t367 = true then ((sextonref09_Same.f kj4 bt340.1 bt346.1).bind fun t368 => (if t368 = true then ((sextonref09_Same.f kj4 bt340.2 bt346.2).bind fun t369 => (if t369 = true then ((sextonref09_Same.f kj4 bt352.1 bt359.1).bind fun t370 => (if t370 = true then ((sextonref09_Same.f kj4 bt352.2.1 bt359.2.1).bind fun t371 => (if t371 = true then (if bt352.2.2 = bt359.2.2 then ((node_Is.f kj4 l0).bind fun t372 => ((sextonref09_Is.f kj4 t321).bind fun t373 => (sextonlaw09_NodeDoes.j1 kj4 l0 t321 t328 t334 bt340.1 bt340.2 bt352.1 (t372 == t373)))) else (sextonlaw09_NodeDoes.j1 kj4 l0 t321 t328 t334 bt340.1 bt340.2 bt352.1 false)) else (sextonlaw09_NodeDoes.j1 kj4 l0 t321 t328 t334 bt340.1 bt340.2 bt352.1 false))) else (sextonlaw09_NodeDoes.j1 kj4 l0 t321 t328 t334 bt340.1 bt340.2 bt352.1 false))) else (sextonlaw09_NodeDoes.j1 kj4 l0 t321 t328 t334 bt340.1 bt340.2 bt352.1 false))) else (sextonlaw09_NodeDoes.j1 kj4 l0 t321 t328 t334 bt340.1 bt340.2 bt352.1 false))) else (sextonlaw09_NodeDoes.j1 kj4 l0 t321 t328 t334 bt340.1 bt340.2 bt352.1 false))) else (sextonlaw09_NodeDoes.j1 kj4 l0 t321 t328 t334 bt340.1 bt340.2 bt352.1 false))) else (sextonlaw09_NodeDoes.j1 kj4 l0 t321 t328 t334 bt340.1 bt340.2 bt352.1 false)) else (sextonlaw09_NodeDoes.j1 kj4 l0 t321 t328 t334 bt340.1 bt340.2 bt352.1 false))))))))) = some r := H
        have A20 := Aside0.mk A200
        clear A200
        replace H := Option.bind_eq_some_iff.mp H
        obtain ⟨t331, A210, H⟩ := H
        replace H : ((node_Drop.f kj4 l0 a2_0 a2_1).bind fun t334 => ((sextonref09_Drop.f kj4 t321 a2_0 a2_1).bind fun t337 => ((node_Split.f kj4 l0).bind fun bt340 => ((sextonref09_Split.f t321).bind fun bt346 => ((node_Level.f kj4 l0 l1 a3).bind fun bt352 => ((sextonref09_Level.f t321 l1 a3).bind fun bt359 => (if t324 = t326 then (if (t325 == t327) = true then ((sextonref09_Same.f kj4 t328 t331).bind fun t366 => (if t366 = true then ((sextonref09_Same.f kj4 t334 t337).bind fun t367 => (if t367 = true then ((sextonref09_Same.f kj4 bt340.1 bt346.1).bind fun t368 => (if t368 = true then ((sextonref09_Same.f kj4 bt340.2 bt346.2).bind fun t369 => (if t369 = true then ((sextonref09_Same.f kj4 bt352.1 bt359.1).bind fun t370 => (if t370 = true then ((sextonref09_Same.f kj4 bt352.2.1 bt359.2.1).bind fun t371 => (if t371 = true then (if bt352.2.2 = bt359.2.2 then ((node_Is.f kj4 l0).bind fun t372 => ((sextonref09_Is.f kj4 t321).bind fun t373 => (sextonlaw09_NodeDoes.j1 kj4 l0 t321 t328 t334 bt340.1 bt340.2 bt352.1 (t372 == t373)))) else (sextonlaw09_NodeDoes.j1 kj4 l0 t321 t328 t334 bt340.1 bt340.2 bt352.1 false)) else (sextonlaw09_NodeDoes.j1 kj4 l0 t321 t328 t334 bt340.1 bt340.2 bt352.1 false))) else (sextonlaw09_NodeDoes.j1 kj4 l0 t321 t328 t334 bt340.1 bt340.2 bt352.1 false))) else (sextonlaw09_NodeDoes.j1 kj4 l0 t321 t328 t334 bt340.1 bt340.2 bt352.1 false))) else (sextonlaw09_NodeDoes.j1 kj4 l0 t321 t328 t334 bt340.1 bt340.2 bt352.1 false))) else (sextonlaw09_NodeDoes.j1 kj4 l0 t321 t328 t334 bt340.1 bt340.2 bt352.1 false))) else (sextonlaw09_NodeDoes.j1 kj4 l0 t321 t328 t334 bt340.1 bt340.2 bt352.1 false))) else (sextonlaw09_NodeDoes.j1 kj4 l0 t321 t328 t334 bt340.1 bt340.2 bt352.1 false)) else (sextonlaw09_NodeDoes.j1 kj4 l0 t321 t328 t334 bt340.1 bt340.2 bt352.1 false)))))))) = some r := H
        have A21 := Aside0.mk A210
        clear A210
        replace H := Option.bind_eq_some_iff.mp H
        obtain ⟨t334, A220, H⟩ := H
        replace H : ((sextonref09_Drop.f kj4 t321 a2_0 a2_1).bind fun t337 => ((node_Split.f kj4 l0).bind fun bt340 => ((sextonref09_Split.f t321).bind fun bt346 => ((node_Level.f kj4 l0 l1 a3).bind fun bt352 => ((sextonref09_Level.f t321 l1 a3).bind fun bt359 => (if t324 = t326 then (if (t325 == t327) = true then ((sextonref09_Same.f kj4 t328 t331).bind fun t366 => (if t366 = true then ((sextonref09_Same.f kj4 t334 t337).bind fun t367 => (if t367 = true then ((sextonref09_Same.f kj4 bt340.1 bt346.1).bind fun t368 => (if t368 = true then ((sextonref09_Same.f kj4 bt340.2 bt346.2).bind fun t369 => (if t369 = true then ((sextonref09_Same.f kj4 bt352.1 bt359.1).bind fun t370 => (if t370 = true then ((sextonref09_Same.f kj4 bt352.2.1 bt359.2.1).bind fun t371 => (if t371 = true then (if bt352.2.2 = bt359.2.2 then ((node_Is.f kj4 l0).bind fun t372 => ((sextonref09_Is.f kj4 t321).bind fun t373 => (sextonlaw09_NodeDoes.j1 kj4 l0 t321 t328 t334 bt340.1 bt340.2 bt352.1 (t372 == t373)))) else (sextonlaw09_NodeDoes.j1 kj4 l0 t321 t328 t334 bt340.1 bt340.2 bt352.1 false)) else (sextonlaw09_NodeDoes.j1 kj4 l0 t321 t328 t334 bt340.1 bt340.2 bt352.1 false))) else (sextonlaw09_NodeDoes.j1 kj4 l0 t321 t328 t334 bt340.1 bt340.2 bt352.1 false))) else (sextonlaw09_NodeDoes.j1 kj4 l0 t321 t328 t334 bt340.1 bt340.2 bt352.1 false))) else (sextonlaw09_NodeDoes.j1 kj4 l0 t321 t328 t334 bt340.1 bt340.2 bt352.1 false))) else (sextonlaw09_NodeDoes.j1 kj4 l0 t321 t328 t334 bt340.1 bt340.2 bt352.1 false))) else (sextonlaw09_NodeDoes.j1 kj4 l0 t321 t328 t334 bt340.1 bt340.2 bt352.1 false))) else (sextonlaw09_NodeDoes.j1 kj4 l0 t321 t328 t334 bt340.1 bt340.2 bt352.1 false)) else (sextonlaw09_NodeDoes.j1 kj4 l0 t321 t328 t334 bt340.1 bt340.2 bt352.1 false))))))) = some r := H
        have A22 := Aside0.mk A220
        clear A220
        replace H := Option.bind_eq_some_iff.mp H
        obtain ⟨t337, A230, H⟩ := H
        replace H : ((node_Split.f kj4 l0).bind fun bt340 => ((sextonref09_Split.f t321).bind fun bt346 => ((node_Level.f kj4 l0 l1 a3).bind fun bt352 => ((sextonref09_Level.f t321 l1 a3).bind fun bt359 => (if t324 = t326 then (if (t325 == t327) = true then ((sextonref09_Same.f kj4 t328 t331).bind fun t366 => (if t366 = true then ((sextonref09_Same.f kj4 t334 t337).bind fun t367 => (if t367 = true then ((sextonref09_Same.f kj4 bt340.1 bt346.1).bind fun t368 => (if t368 = true then ((sextonref09_Same.f kj4 bt340.2 bt346.2).bind fun t369 => (if t369 = true then ((sextonref09_Same.f kj4 bt352.1 bt359.1).bind fun t370 => (if t370 = true then ((sextonref09_Same.f kj4 bt352.2.1 bt359.2.1).bind fun t371 => (if t371 = true then (if bt352.2.2 = bt359.2.2 then ((node_Is.f kj4 l0).bind fun t372 => ((sextonref09_Is.f kj4 t321).bind fun t373 => (sextonlaw09_NodeDoes.j1 kj4 l0 t321 t328 t334 bt340.1 bt340.2 bt352.1 (t372 == t373)))) else (sextonlaw09_NodeDoes.j1 kj4 l0 t321 t328 t334 bt340.1 bt340.2 bt352.1 false)) else (sextonlaw09_NodeDoes.j1 kj4 l0 t321 t328 t334 bt340.1 bt340.2 bt352.1 false))) else (sextonlaw09_NodeDoes.j1 kj4 l0 t321 t328 t334 bt340.1 bt340.2 bt352.1 false))) else (sextonlaw09_NodeDoes.j1 kj4 l0 t321 t328 t334 bt340.1 bt340.2 bt352.1 false))) else (sextonlaw09_NodeDoes.j1 kj4 l0 t321 t328 t334 bt340.1 bt340.2 bt352.1 false))) else (sextonlaw09_NodeDoes.j1 kj4 l0 t321 t328 t334 bt340.1 bt340.2 bt352.1 false))) else (sextonlaw09_NodeDoes.j1 kj4 l0 t321 t328 t334 bt340.1 bt340.2 bt352.1 false))) else (sextonlaw09_NodeDoes.j1 kj4 l0 t321 t328 t334 bt340.1 bt340.2 bt352.1 false)) else (sextonlaw09_NodeDoes.j1 kj4 l0 t321 t328 t334 bt340.1 bt340.2 bt352.1 false)))))) = some r := H
        have A23 := Aside0.mk A230
        clear A230
        replace H := Option.bind_eq_some_iff.mp H
        obtain ⟨⟨t340, t343⟩, A240, H⟩ := H
        replace H : ((sextonref09_Split.f t321).bind fun bt346 => ((node_Level.f kj4 l0 l1 a3).bind fun bt352 => ((sextonref09_Level.f t321 l1 a3).bind fun bt359 => (if t324 = t326 then (if (t325 == t327) = true then ((sextonref09_Same.f kj4 t328 t331).bind fun t366 => (if t366 = true then ((sextonref09_Same.f kj4 t334 t337).bind fun t367 => (if t367 = true then ((sextonref09_Same.f kj4 t340 bt346.1).bind fun t368 => (if t368 = true then ((sextonref09_Same.f kj4 t343 bt346.2).bind fun t369 => (if t369 = true then ((sextonref09_Same.f kj4 bt352.1 bt359.1).bind fun t370 => (if t370 = true then ((sextonref09_Same.f kj4 bt352.2.1 bt359.2.1).bind fun t371 => (if t371 = true then (if bt352.2.2 = bt359.2.2 then ((node_Is.f kj4 l0).bind fun t372 => ((sextonref09_Is.f kj4 t321).bind fun t373 => (sextonlaw09_NodeDoes.j1 kj4 l0 t321 t328 t334 t340 t343 bt352.1 (t372 == t373)))) else (sextonlaw09_NodeDoes.j1 kj4 l0 t321 t328 t334 t340 t343 bt352.1 false)) else (sextonlaw09_NodeDoes.j1 kj4 l0 t321 t328 t334 t340 t343 bt352.1 false))) else (sextonlaw09_NodeDoes.j1 kj4 l0 t321 t328 t334 t340 t343 bt352.1 false))) else (sextonlaw09_NodeDoes.j1 kj4 l0 t321 t328 t334 t340 t343 bt352.1 false))) else (sextonlaw09_NodeDoes.j1 kj4 l0 t321 t328 t334 t340 t343 bt352.1 false))) else (sextonlaw09_NodeDoes.j1 kj4 l0 t321 t328 t334 t340 t343 bt352.1 false))) else (sextonlaw09_NodeDoes.j1 kj4 l0 t321 t328 t334 t340 t343 bt352.1 false))) else (sextonlaw09_NodeDoes.j1 kj4 l0 t321 t328 t334 t340 t343 bt352.1 false)) else (sextonlaw09_NodeDoes.j1 kj4 l0 t321 t328 t334 t340 t343 bt352.1 false))))) = some r := H
        have A24 := Aside0.mk A240
        clear A240
        replace H := Option.bind_eq_some_iff.mp H
        obtain ⟨⟨t346, t347⟩, A250, H⟩ := H
        replace H : ((node_Level.f kj4 l0 l1 a3).bind fun bt352 => ((sextonref09_Level.f t321 l1 a3).bind fun bt359 => (if t324 = t326 then (if (t325 == t327) = true then ((sextonref09_Same.f kj4 t328 t331).bind fun t366 => (if t366 = true then ((sextonref09_Same.f kj4 t334 t337).bind fun t367 => (if t367 = true then ((sextonref09_Same.f kj4 t340 t346).bind fun t368 => (if t368 = true then ((sextonref09_Same.f kj4 t343 t347).bind fun t369 => (if t369 = true then ((sextonref09_Same.f kj4 bt352.1 bt359.1).bind fun t370 => (if t370 = true then ((sextonref09_Same.f kj4 bt352.2.1 bt359.2.1).bind fun t371 => (if t371 = true then (if bt352.2.2 = bt359.2.2 then ((node_Is.f kj4 l0).bind fun t372 => ((sextonref09_Is.f kj4 t321).bind fun t373 => (sextonlaw09_NodeDoes.j1 kj4 l0 t321 t328 t334 t340 t343 bt352.1 (t372 == t373)))) else (sextonlaw09_NodeDoes.j1 kj4 l0 t321 t328 t334 t340 t343 bt352.1 false)) else (sextonlaw09_NodeDoes.j1 kj4 l0 t321 t328 t334 t340 t343 bt352.1 false))) else (sextonlaw09_NodeDoes.j1 kj4 l0 t321 t328 t334 t340 t343 bt352.1 false))) else (sextonlaw09_NodeDoes.j1 kj4 l0 t321 t328 t334 t340 t343 bt352.1 false))) else (sextonlaw09_NodeDoes.j1 kj4 l0 t321 t328 t334 t340 t343 bt352.1 false))) else (sextonlaw09_NodeDoes.j1 kj4 l0 t321 t328 t334 t340 t343 bt352.1 false))) else (sextonlaw09_NodeDoes.j1 kj4 l0 t321 t328 t334 t340 t343 bt352.1 false))) else (sextonlaw09_NodeDoes.j1 kj4 l0 t321 t328 t334 t340 t343 bt352.1 false)) else (sextonlaw09_NodeDoes.j1 kj4 l0 t321 t328 t334 t340 t343 bt352.1 false)))) = some r := H
        have A25 := Aside0.mk A250
        clear A250
        replace H := Option.bind_eq_some_iff.mp H
        obtain ⟨⟨t352, t355, t358⟩, A260, H⟩ := H
        replace H : ((sextonref09_Level.f t321 l1 a3).bind fun bt359 => (if t324 = t326 then (if (t325 == t327) = true then ((sextonref09_Same.f kj4 t328 t331).bind fun t366 => (if t366 = true then ((sextonref09_Same.f kj4 t334 t337).bind fun t367 => (if t367 = true then ((sextonref09_Same.f kj4 t340 t346).bind fun t368 => (if t368 = true then ((sextonref09_Same.f kj4 t343 t347).bind fun t369 => (if t369 = true then ((sextonref09_Same.f kj4 t352 bt359.1).bind fun t370 => (if t370 = true then ((sextonref09_Same.f kj4 t355 bt359.2.1).bind fun t371 => (if t371 = true then (if t358 = bt359.2.2 then ((node_Is.f kj4 l0).bind fun t372 => ((sextonref09_Is.f kj4 t321).bind fun t373 => (sextonlaw09_NodeDoes.j1 kj4 l0 t321 t328 t334 t340 t343 t352 (t372 == t373)))) else (sextonlaw09_NodeDoes.j1 kj4 l0 t321 t328 t334 t340 t343 t352 false)) else (sextonlaw09_NodeDoes.j1 kj4 l0 t321 t328 t334 t340 t343 t352 false))) else (sextonlaw09_NodeDoes.j1 kj4 l0 t321 t328 t334 t340 t343 t352 false))) else (sextonlaw09_NodeDoes.j1 kj4 l0 t321 t328 t334 t340 t343 t352 false))) else (sextonlaw09_NodeDoes.j1 kj4 l0 t321 t328 t334 t340 t343 t352 false))) else (sextonlaw09_NodeDoes.j1 kj4 l0 t321 t328 t334 t340 t343 t352 false))) else (sextonlaw09_NodeDoes.j1 kj4 l0 t321 t328 t334 t340 t343 t352 false))) else (sextonlaw09_NodeDoes.j1 kj4 l0 t321 t328 t334 t340 t343 t352 false)) else (sextonlaw09_NodeDoes.j1 kj4 l0 t321 t328 t334 t340 t343 t352 false))) = some r := H
        have A26 := Aside0.mk A260
        clear A260
        replace H := Option.bind_eq_some_iff.mp H
        obtain ⟨⟨t359, t360, t361⟩, A270, H⟩ := H
        replace H : (if t324 = t326 then (if (t325 == t327) = true then ((sextonref09_Same.f kj4 t328 t331).bind fun t366 => (if t366 = true then ((sextonref09_Same.f kj4 t334 t337).bind fun t367 => (if t367 = true then ((sextonref09_Same.f kj4 t340 t346).bind fun t368 => (if t368 = true then ((sextonref09_Same.f kj4 t343 t347).bind fun t369 => (if t369 = true then ((sextonref09_Same.f kj4 t352 t359).bind fun t370 => (if t370 = true then ((sextonref09_Same.f kj4 t355 t360).bind fun t371 => (if t371 = true then (if t358 = t361 then ((node_Is.f kj4 l0).bind fun t372 => ((sextonref09_Is.f kj4 t321).bind fun t373 => (sextonlaw09_NodeDoes.j1 kj4 l0 t321 t328 t334 t340 t343 t352 (t372 == t373)))) else (sextonlaw09_NodeDoes.j1 kj4 l0 t321 t328 t334 t340 t343 t352 false)) else (sextonlaw09_NodeDoes.j1 kj4 l0 t321 t328 t334 t340 t343 t352 false))) else (sextonlaw09_NodeDoes.j1 kj4 l0 t321 t328 t334 t340 t343 t352 false))) else (sextonlaw09_NodeDoes.j1 kj4 l0 t321 t328 t334 t340 t343 t352 false))) else (sextonlaw09_NodeDoes.j1 kj4 l0 t321 t328 t334 t340 t343 t352 false))) else (sextonlaw09_NodeDoes.j1 kj4 l0 t321 t328 t334 t340 t343 t352 false))) else (sextonlaw09_NodeDoes.j1 kj4 l0 t321 t328 t334 t340 t343 t352 false))) else (sextonlaw09_NodeDoes.j1 kj4 l0 t321 t328 t334 t340 t343 t352 false)) else (sextonlaw09_NodeDoes.j1 kj4 l0 t321 t328 t334 t340 t343 t352 false)) = some r := H
        have A27 := Aside0.mk A270
        clear A270
        have HC28 := Aside0.mk H
        clear H
        go_upto_region 14 with (first | ((with_reducible refine gate_callee (f := 14) rfl ?_); refine goesL_ (some 41) rfl rfl Try.func14 (by kernel_rfl) rfl #[.slice A0 l0.length c0] rfl (by (try simp only [List.map_toArray, List.map_cons, List.map_nil]); first | done | rfl | (simp only [List.length_drop, List.length_take]; rfl)) ?_; (with_reducible refine (sextonref09_Own.calls _ _ l0 t321 _ ?side1 ?side2 A17.out).mono ?_); (case side1 => repeat (first | exact (Kd.C_below HR0.out HB.out) | (with_reducible refine Kd.C_alloc ?_ _) | (with_reducible refine Kd.C_drewN ?_ _) | (with_reducible refine Kd.C_drew ?_))); (case side2 => exact HC0.out); rintro e w29 ⟨v322, rfl, ho0, hb⟩; refine ⟨_, rfl, ?_⟩; have n0_ := Aside0.mk (Kd.R_lower (Kd.R_newB ho0 (g := gb314) (o := .cells #[.string a2_0, .int .i64 a2_1, .string a2_2] 26 (0, 0)) (by (with_reducible repeat (first | refine blk_drewN ?_ _ | refine blk_drew ?_ | refine blk_alloc ?_ _)); exact BK314.out)) (below_size (by repeat (first | (with_reducible first | exact HB.out | apply below_alloc | apply pw_below_drewN | apply below_drew1 | refine below_set ?_ GE314.out) | exact HB.out)))); have n1_ := Aside0.mk (blk_below (g := gb314) (o := .cells #[.string a2_0, .int .i64 a2_1, .string a2_2] 26 (0, 0)) (by (with_reducible repeat (first | refine blk_drewN ?_ _ | refine blk_drew ?_ | refine blk_alloc ?_ _)); exact BK314.out) hb); have n2_ := Aside0.mk (below_step (by repeat (first | (with_reducible first | exact HB.out | apply below_alloc | apply pw_below_drewN | apply below_drew1 | refine below_set ?_ GE314.out) | exact HB.out)) hb); clear BK314; clear HB; have HO323 := n0_; have BK314 := n1_; have HB := n2_; clear n0_ n1_ n2_; (try clear hb); (try clear hb2); (try clear hk); (try clear hi); (try clear ho0); have hcz30_0 : w29.cell? ⟨gb314, 0, none⟩ = some (.string a2_0) := (blk_cell BK314.out 0).trans rfl; have hcz30_1 : w29.cell? ⟨gb314, 1, none⟩ = some (.int .i64 a2_1) := (blk_cell BK314.out 1).trans rfl; have hcz30_2 : w29.cell? ⟨gb314, 2, none⟩ = some (.string a2_2) := (blk_cell BK314.out 2).trans rfl; have hfz30_0 := blk_frozen BK314.out 0; have hfz30_1 := blk_frozen BK314.out 1; have hfz30_2 := blk_frozen BK314.out 2) | ((with_reducible refine gate_callee (f := 15) rfl ?_); refine goesL_ (some 46) rfl rfl Try.func15 (by kernel_rfl) rfl #[.slice A0 l0.length c0, .agg #[.string a2_0, .int .i64 a2_1]] rfl (by (try simp only [List.map_toArray, List.map_cons, List.map_nil]); first | done | rfl | (simp only [List.length_drop, List.length_take]; rfl)) ?_; (with_reducible refine (node_Find.calls _ _ l0 a2_0 a2_1 t324 t325 _ ?side1 ?side2 A18.out).mono ?_); (case side1 => repeat (first | exact (Kd.C_below HR0.out HB.out) | (with_reducible refine Kd.C_alloc ?_ _) | (with_reducible refine Kd.C_drewN ?_ _) | (with_reducible refine Kd.C_drew ?_))); (case side2 => exact HC0.out); rintro e w31 ⟨rfl, hb⟩; refine ⟨_, rfl, ?_⟩; have n0_ := Aside0.mk (Kd.R_below (by (with_reducible repeat (first | apply Kd.R_alloc | apply Kd.R_drewN | apply Kd.R_drew)); exact HO323.out) hb); have n1_ := Aside0.mk (blk_below (g := gb314) (o := .cells #[.string a2_0, .int .i64 a2_1, .string a2_2] 26 (0, 0)) (by (with_reducible repeat (first | refine blk_drewN ?_ _ | refine blk_drew ?_ | refine blk_alloc ?_ _)); exact BK314.out) hb); have n2_ := Aside0.mk (below_step (by repeat (first | (with_reducible first | exact HB.out | apply below_alloc | apply pw_below_drewN | apply below_drew1 | refine below_set ?_ GE314.out) | exact HB.out)) hb); clear HO323; clear BK314; clear HB; have HO323 := n0_; have BK314 := n1_; have HB := n2_; clear n0_ n1_ n2_; (try clear hb); (try clear hb2); (try clear hk); (try clear hi); have hcz32_0 : w31.cell? ⟨gb314, 0, none⟩ = some (.string a2_0) := (blk_cell BK314.out 0).trans rfl; have hcz32_1 : w31.cell? ⟨gb314, 1, none⟩ = some (.int .i64 a2_1) := (blk_cell BK314.out 1).trans rfl; have hcz32_2 : w31.cell? ⟨gb314, 2, none⟩ = some (.string a2_2) := (blk_cell BK314.out 2).trans rfl; have hfz32_0 := blk_frozen BK314.out 0; have hfz32_1 := blk_frozen BK314.out 1; have hfz32_2 := blk_frozen BK314.out 2; obtain ⟨Ao33, co33, eo33⟩ := Kd.R_slice HO323.out; subst eo33) | ((with_reducible refine gate_callee (f := 16) rfl ?_); refine goesL_ (some 53) rfl rfl Try.func16 (by kernel_rfl) rfl #[.slice Ao33 t321.length co33, .agg #[.string a2_0, .int .i64 a2_1]] rfl (by (try simp only [List.map_toArray, List.map_cons, List.map_nil]); first | done | rfl | (simp only [List.length_drop, List.length_take]; rfl)) ?_; (with_reducible refine (sextonref09_Find.calls kj4 _ _ t321 a2_0 a2_1 t326 t327 _ ?side1 ?side2 A19.out).mono ?_); (case side1 => repeat (first | exact (Kd.R_reads' HO323.out).2.2 | (with_reducible refine Kd.C_alloc ?_ _) | (with_reducible refine Kd.C_drewN ?_ _) | (with_reducible refine Kd.C_drew ?_))); (case side2 => exact (Kd.R_reads' HO323.out).2.1); rintro e w34 ⟨rfl, hb⟩; refine ⟨_, rfl, ?_⟩; have n0_ := Aside0.mk (Kd.R_below (by (with_reducible repeat (first | apply Kd.R_alloc | apply Kd.R_drewN | apply Kd.R_drew)); exact HO323.out) hb); have n1_ := Aside0.mk (blk_below (g := gb314) (o := .cells #[.string a2_0, .int .i64 a2_1, .string a2_2] 26 (0, 0)) (by (with_reducible repeat (first | refine blk_drewN ?_ _ | refine blk_drew ?_ | refine blk_alloc ?_ _)); exact BK314.out) hb); have n2_ := Aside0.mk (below_step (by repeat (first | (with_reducible first | exact HB.out | apply below_alloc | apply pw_below_drewN | apply below_drew1 | refine below_set ?_ GE314.out) | exact HB.out)) hb); clear HO323; clear BK314; clear HB; have HO323 := n0_; have BK314 := n1_; have HB := n2_; clear n0_ n1_ n2_; (try clear hb); (try clear hb2); (try clear hk); (try clear hi); have hcz35_0 : w34.cell? ⟨gb314, 0, none⟩ = some (.string a2_0) := (blk_cell BK314.out 0).trans rfl; have hcz35_1 : w34.cell? ⟨gb314, 1, none⟩ = some (.int .i64 a2_1) := (blk_cell BK314.out 1).trans rfl; have hcz35_2 : w34.cell? ⟨gb314, 2, none⟩ = some (.string a2_2) := (blk_cell BK314.out 2).trans rfl; have hfz35_0 := blk_frozen BK314.out 0; have hfz35_1 := blk_frozen BK314.out 1; have hfz35_2 := blk_frozen BK314.out 2) | ((with_reducible refine gate_callee (f := 17) rfl ?_); refine goesL_ (some 58) rfl rfl Try.func17 (by kernel_rfl) rfl #[.slice A0 l0.length c0, .agg #[.string a2_0, .int .i64 a2_1, .string a2_2]] rfl (by (try simp only [List.map_toArray, List.map_cons, List.map_nil]); first | done | rfl | (simp only [List.length_drop, List.length_take]; rfl)) ?_; (with_reducible refine (node_Put.calls kj4 (fun k_ => k_ < w.heap.size) _ _ l0 a2_0 a2_1 a2_2 t328 _ ?side1 A20.out).mono ?_); (case side1 => exact Kd.V_mk HC0.out (Kd.F_below (Kd.C_F k26_heap HR0.out) (by repeat (first | (with_reducible first | exact HB.out | apply below_alloc | apply pw_below_drewN | apply below_drew1 | refine below_set ?_ GE314.out) | exact HB.out)))); rintro e w36 ⟨v329, rfl, ho0, hb⟩; refine ⟨_, rfl, ?_⟩; have n0_ := Aside0.mk (Kd.R_elder' (by (with_reducible repeat (first | apply Kd.R_alloc | apply Kd.R_drewN | apply Kd.R_drew)); exact HO323.out) (Kd.R_base ho0) hb); have n1_ := Aside0.mk (Kd.R_lower (Kd.R_newB (Kd.R_new' (Kd.R_mono (ok' := fun k_ => True) ho0 (fun _ hk_ => trivial)) (Kd.R_lt (by (with_reducible repeat (first | apply Kd.R_alloc | apply Kd.R_drewN | apply Kd.R_drew)); exact HO323.out))) (g := gb314) (o := .cells #[.string a2_0, .int .i64 a2_1, .string a2_2] 26 (0, 0)) (by (with_reducible repeat (first | refine blk_drewN ?_ _ | refine blk_drew ?_ | refine blk_alloc ?_ _)); exact BK314.out)) (below_size (by repeat (first | (with_reducible first | exact HB.out | apply below_alloc | apply pw_below_drewN | apply below_drew1 | refine below_set ?_ GE314.out) | exact HB.out)))); have n2_ := Aside0.mk (blk_below (g := gb314) (o := .cells #[.string a2_0, .int .i64 a2_1, .string a2_2] 26 (0, 0)) (by (with_reducible repeat (first | refine blk_drewN ?_ _ | refine blk_drew ?_ | refine blk_alloc ?_ _)); exact BK314.out) hb); have n3_ := Aside0.mk (below_step (by repeat (first | (with_reducible first | exact HB.out | apply below_alloc | apply pw_below_drewN | apply below_drew1 | refine below_set ?_ GE314.out) | exact HB.out)) hb); clear HO323; clear BK314; clear HB; have HO323 := n0_; have HO330 := n1_; have BK314 := n2_; have HB := n3_; clear n0_ n1_ n2_ n3_; (try clear hb); (try clear hb2); (try clear hk); (try clear hi); (try clear ho0); have hcz37_0 : w36.cell? ⟨gb314, 0, none⟩ = some (.string a2_0) := (blk_cell BK314.out 0).trans rfl; have hcz37_1 : w36.cell? ⟨gb314, 1, none⟩ = some (.int .i64 a2_1) := (blk_cell BK314.out 1).trans rfl; have hcz37_2 : w36.cell? ⟨gb314, 2, none⟩ = some (.string a2_2) := (blk_cell BK314.out 2).trans rfl; have hfz37_0 := blk_frozen BK314.out 0; have hfz37_1 := blk_frozen BK314.out 1; have hfz37_2 := blk_frozen BK314.out 2) | ((with_reducible refine gate_callee (f := 18) rfl ?_); refine goesL_ (some 61) rfl rfl Try.func18 (by kernel_rfl) rfl #[.slice Ao33 t321.length co33, .agg #[.string a2_0, .int .i64 a2_1, .string a2_2]] rfl (by (try simp only [List.map_toArray, List.map_cons, List.map_nil]); first | done | rfl | (simp only [List.length_drop, List.length_take]; rfl)) ?_; (with_reducible refine (sextonref09_Put.calls kj4 _ _ t321 a2_0 a2_1 a2_2 t331 _ ?side1 ?side2 A21.out).mono ?_); (case side1 => repeat (first | exact (Kd.R_reads' HO323.out).2.2 | (with_reducible refine Kd.C_alloc ?_ _) | (with_reducible refine Kd.C_drewN ?_ _) | (with_reducible refine Kd.C_drew ?_))); (case side2 => exact (Kd.R_reads' HO323.out).2.1); rintro e w38 ⟨v332, rfl, ho0, hb⟩; refine ⟨_, rfl, ?_⟩; have n0_ := Aside0.mk (Kd.R_elder' (by (with_reducible repeat (first | apply Kd.R_alloc | apply Kd.R_drewN | apply Kd.R_drew)); exact HO323.out) (Kd.R_base ho0) hb); have n1_ := Aside0.mk (Kd.R_elder' (by (with_reducible repeat (first | apply Kd.R_alloc | apply Kd.R_drewN | apply Kd.R_drew)); exact HO330.out) (Kd.R_base ho0) hb); have n2_ := Aside0.mk (Kd.R_lower (Kd.R_newB (Kd.R_new' (Kd.R_new' ho0 (Kd.R_lt (by (with_reducible repeat (first | apply Kd.R_alloc | apply Kd.R_drewN | apply Kd.R_drew)); exact HO323.out))) (Kd.R_lt (by (with_reducible repeat (first | apply Kd.R_alloc | apply Kd.R_drewN | apply Kd.R_drew)); exact HO330.out))) (g := gb314) (o := .cells #[.string a2_0, .int .i64 a2_1, .string a2_2] 26 (0, 0)) (by (with_reducible repeat (first | refine blk_drewN ?_ _ | refine blk_drew ?_ | refine blk_alloc ?_ _)); exact BK314.out)) (below_size (by repeat (first | (with_reducible first | exact HB.out | apply below_alloc | apply pw_below_drewN | apply below_drew1 | refine below_set ?_ GE314.out) | exact HB.out)))); have n3_ := Aside0.mk (blk_below (g := gb314) (o := .cells #[.string a2_0, .int .i64 a2_1, .string a2_2] 26 (0, 0)) (by (with_reducible repeat (first | refine blk_drewN ?_ _ | refine blk_drew ?_ | refine blk_alloc ?_ _)); exact BK314.out) hb); have n4_ := Aside0.mk (below_step (by repeat (first | (with_reducible first | exact HB.out | apply below_alloc | apply pw_below_drewN | apply below_drew1 | refine below_set ?_ GE314.out) | exact HB.out)) hb); clear HO323; clear HO330; clear BK314; clear HB; have HO323 := n0_; have HO330 := n1_; have HO333 := n2_; have BK314 := n3_; have HB := n4_; clear n0_ n1_ n2_ n3_ n4_; (try clear hb); (try clear hb2); (try clear hk); (try clear hi); (try clear ho0); have hcz39_0 : w38.cell? ⟨gb314, 0, none⟩ = some (.string a2_0) := (blk_cell BK314.out 0).trans rfl; have hcz39_1 : w38.cell? ⟨gb314, 1, none⟩ = some (.int .i64 a2_1) := (blk_cell BK314.out 1).trans rfl; have hcz39_2 : w38.cell? ⟨gb314, 2, none⟩ = some (.string a2_2) := (blk_cell BK314.out 2).trans rfl; have hfz39_0 := blk_frozen BK314.out 0; have hfz39_1 := blk_frozen BK314.out 1; have hfz39_2 := blk_frozen BK314.out 2) | ((with_reducible refine gate_callee (f := 19) rfl ?_); refine goesL_ (some 65) rfl rfl Try.func19 (by kernel_rfl) rfl #[.slice A0 l0.length c0, .agg #[.string a2_0, .int .i64 a2_1]] rfl (by (try simp only [List.map_toArray, List.map_cons, List.map_nil]); first | done | rfl | (simp only [List.length_drop, List.length_take]; rfl)) ?_; (with_reducible refine (node_Drop.calls kj4 (fun k_ => k_ < w.heap.size) _ _ l0 a2_0 a2_1 t334 _ ?side1 A22.out).mono ?_); (case side1 => exact Kd.V_mk HC0.out (Kd.F_below (Kd.C_F k26_heap HR0.out) (by repeat (first | (with_reducible first | exact HB.out | apply below_alloc | apply pw_below_drewN | apply below_drew1 | refine below_set ?_ GE314.out) | exact HB.out)))); rintro e w40 ⟨v335, rfl, ho0, hb⟩; refine ⟨_, rfl, ?_⟩; have n0_ := Aside0.mk (Kd.R_elder' (by (with_reducible repeat (first | apply Kd.R_alloc | apply Kd.R_drewN | apply Kd.R_drew)); exact HO323.out) (Kd.R_base ho0) hb); have n1_ := Aside0.mk (Kd.R_elder' (by (with_reducible repeat (first | apply Kd.R_alloc | apply Kd.R_drewN | apply Kd.R_drew)); exact HO330.out) (Kd.R_base ho0) hb); have n2_ := Aside0.mk (Kd.R_elder' (by (with_reducible repeat (first | apply Kd.R_alloc | apply Kd.R_drewN | apply Kd.R_drew)); exact HO333.out) (Kd.R_base ho0) hb); have n3_ := Aside0.mk (Kd.R_lower (Kd.R_newB (Kd.R_new' (Kd.R_new' (Kd.R_new' (Kd.R_mono (ok' := fun k_ => True) ho0 (fun _ hk_ => trivial)) (Kd.R_lt (by (with_reducible repeat (first | apply Kd.R_alloc | apply Kd.R_drewN | apply Kd.R_drew)); exact HO323.out))) (Kd.R_lt (by (with_reducible repeat (first | apply Kd.R_alloc | apply Kd.R_drewN | apply Kd.R_drew)); exact HO330.out))) (Kd.R_lt (by (with_reducible repeat (first | apply Kd.R_alloc | apply Kd.R_drewN | apply Kd.R_drew)); exact HO333.out))) (g := gb314) (o := .cells #[.string a2_0, .int .i64 a2_1, .string a2_2] 26 (0, 0)) (by (with_reducible repeat (first | refine blk_drewN ?_ _ | refine blk_drew ?_ | refine blk_alloc ?_ _)); exact BK314.out)) (below_size (by repeat (first | (with_reducible first | exact HB.out | apply below_alloc | apply pw_below_drewN | apply below_drew1 | refine below_set ?_ GE314.out) | exact HB.out)))); have n4_ := Aside0.mk (blk_below (g := gb314) (o := .cells #[.string a2_0, .int .i64 a2_1, .string a2_2] 26 (0, 0)) (by (with_reducible repeat (first | refine blk_drewN ?_ _ | refine blk_drew ?_ | refine blk_alloc ?_ _)); exact BK314.out) hb); have n5_ := Aside0.mk (below_step (by repeat (first | (with_reducible first | exact HB.out | apply below_alloc | apply pw_below_drewN | apply below_drew1 | refine below_set ?_ GE314.out) | exact HB.out)) hb); clear HO323; clear HO330; clear HO333; clear BK314; clear HB; have HO323 := n0_; have HO330 := n1_; have HO333 := n2_; have HO336 := n3_; have BK314 := n4_; have HB := n5_; clear n0_ n1_ n2_ n3_ n4_ n5_; (try clear hb); (try clear hb2); (try clear hk); (try clear hi); (try clear ho0); have hcz41_0 : w40.cell? ⟨gb314, 0, none⟩ = some (.string a2_0) := (blk_cell BK314.out 0).trans rfl; have hcz41_1 : w40.cell? ⟨gb314, 1, none⟩ = some (.int .i64 a2_1) := (blk_cell BK314.out 1).trans rfl; have hcz41_2 : w40.cell? ⟨gb314, 2, none⟩ = some (.string a2_2) := (blk_cell BK314.out 2).trans rfl; have hfz41_0 := blk_frozen BK314.out 0; have hfz41_1 := blk_frozen BK314.out 1; have hfz41_2 := blk_frozen BK314.out 2) | ((with_reducible refine gate_callee (f := 20) rfl ?_); refine goesL_ (some 69) rfl rfl Try.func20 (by kernel_rfl) rfl #[.slice Ao33 t321.length co33, .agg #[.string a2_0, .int .i64 a2_1]] rfl (by (try simp only [List.map_toArray, List.map_cons, List.map_nil]); first | done | rfl | (simp only [List.length_drop, List.length_take]; rfl)) ?_; (with_reducible refine (sextonref09_Drop.calls kj4 _ _ t321 a2_0 a2_1 t337 _ ?side1 ?side2 A23.out).mono ?_); (case side1 => repeat (first | exact (Kd.R_reads' HO323.out).2.2 | (with_reducible refine Kd.C_alloc ?_ _) | (with_reducible refine Kd.C_drewN ?_ _) | (with_reducible refine Kd.C_drew ?_))); (case side2 => exact (Kd.R_reads' HO323.out).2.1); rintro e w42 ⟨v338, rfl, ho0, hb⟩; refine ⟨_, rfl, ?_⟩; have n0_ := Aside0.mk (Kd.R_elder' (by (with_reducible repeat (first | apply Kd.R_alloc | apply Kd.R_drewN | apply Kd.R_drew)); exact HO323.out) (Kd.R_base ho0) hb); have n1_ := Aside0.mk (Kd.R_elder' (by (with_reducible repeat (first | apply Kd.R_alloc | apply Kd.R_drewN | apply Kd.R_drew)); exact HO330.out) (Kd.R_base ho0) hb); have n2_ := Aside0.mk (Kd.R_elder' (by (with_reducible repeat (first | apply Kd.R_alloc | apply Kd.R_drewN | apply Kd.R_drew)); exact HO333.out) (Kd.R_base ho0) hb); have n3_ := Aside0.mk (Kd.R_elder' (by (with_reducible repeat (first | apply Kd.R_alloc | apply Kd.R_drewN | apply Kd.R_drew)); exact HO336.out) (Kd.R_base ho0) hb); have n4_ := Aside0.mk (Kd.R_lower (Kd.R_newB (Kd.R_new' (Kd.R_new' (Kd.R_new' (Kd.R_new' ho0 (Kd.R_lt (by (with_reducible repeat (first | apply Kd.R_alloc | apply Kd.R_drewN | apply Kd.R_drew)); exact HO323.out))) (Kd.R_lt (by (with_reducible repeat (first | apply Kd.R_alloc | apply Kd.R_drewN | apply Kd.R_drew)); exact HO330.out))) (Kd.R_lt (by (with_reducible repeat (first | apply Kd.R_alloc | apply Kd.R_drewN | apply Kd.R_drew)); exact HO333.out))) (Kd.R_lt (by (with_reducible repeat (first | apply Kd.R_alloc | apply Kd.R_drewN | apply Kd.R_drew)); exact HO336.out))) (g := gb314) (o := .cells #[.string a2_0, .int .i64 a2_1, .string a2_2] 26 (0, 0)) (by (with_reducible repeat (first | refine blk_drewN ?_ _ | refine blk_drew ?_ | refine blk_alloc ?_ _)); exact BK314.out)) (below_size (by repeat (first | (with_reducible first | exact HB.out | apply below_alloc | apply pw_below_drewN | apply below_drew1 | refine below_set ?_ GE314.out) | exact HB.out)))); have n5_ := Aside0.mk (blk_below (g := gb314) (o := .cells #[.string a2_0, .int .i64 a2_1, .string a2_2] 26 (0, 0)) (by (with_reducible repeat (first | refine blk_drewN ?_ _ | refine blk_drew ?_ | refine blk_alloc ?_ _)); exact BK314.out) hb); have n6_ := Aside0.mk (below_step (by repeat (first | (with_reducible first | exact HB.out | apply below_alloc | apply pw_below_drewN | apply below_drew1 | refine below_set ?_ GE314.out) | exact HB.out)) hb); clear HO323; clear HO330; clear HO333; clear HO336; clear BK314; clear HB; have HO323 := n0_; have HO330 := n1_; have HO333 := n2_; have HO336 := n3_; have HO339 := n4_; have BK314 := n5_; have HB := n6_; clear n0_ n1_ n2_ n3_ n4_ n5_ n6_; (try clear hb); (try clear hb2); (try clear hk); (try clear hi); (try clear ho0)) | ((with_reducible refine gate_callee (f := 21) rfl ?_); refine goesL_ (some 72) rfl rfl Try.func21 (by kernel_rfl) rfl #[.slice A0 l0.length c0] rfl (by (try simp only [List.map_toArray, List.map_cons, List.map_nil]); first | done | rfl | (simp only [List.length_drop, List.length_take]; rfl)) ?_; (with_reducible refine (node_Split.calls kj4 (fun k_ => k_ < w.heap.size) _ _ l0 t340 t343 _ ?side1 A24.out).mono ?_); (case side1 => exact Kd.V_mk HC0.out (Kd.F_below (Kd.C_F k26_heap HR0.out) (by repeat (first | (with_reducible first | exact HB.out | apply below_alloc | apply pw_below_drewN | apply below_drew1 | refine below_set ?_ GE314.out) | exact HB.out)))); rintro e w43 ⟨v341, v344, rfl, ho0, ho1, hb⟩; refine ⟨_, rfl, ?_⟩; have n0_ := Aside0.mk (Kd.R_mono (Kd.R_told (Kd.R_told (Kd.R_old (by (with_reducible repeat (first | apply Kd.R_alloc | apply Kd.R_drewN | apply Kd.R_drew)); exact HO323.out) hb) (Kd.R_base ho0)) (Kd.R_base ho1)) (fun _ h_ => h_.1)); have n1_ := Aside0.mk (Kd.R_mono (Kd.R_told (Kd.R_told (Kd.R_old (by (with_reducible repeat (first | apply Kd.R_alloc | apply Kd.R_drewN | apply Kd.R_drew)); exact HO330.out) hb) (Kd.R_base ho0)) (Kd.R_base ho1)) (fun _ h_ => h_.1)); have n2_ := Aside0.mk (Kd.R_mono (Kd.R_told (Kd.R_told (Kd.R_old (by (with_reducible repeat (first | apply Kd.R_alloc | apply Kd.R_drewN | apply Kd.R_drew)); exact HO333.out) hb) (Kd.R_base ho0)) (Kd.R_base ho1)) (fun _ h_ => h_.1)); have n3_ := Aside0.mk (Kd.R_mono (Kd.R_told (Kd.R_told (Kd.R_old (by (with_reducible repeat (first | apply Kd.R_alloc | apply Kd.R_drewN | apply Kd.R_drew)); exact HO336.out) hb) (Kd.R_base ho0)) (Kd.R_base ho1)) (fun _ h_ => h_.1)); have n4_ := Aside0.mk (Kd.R_mono (Kd.R_told (Kd.R_told (Kd.R_old (by (with_reducible repeat (first | apply Kd.R_alloc | apply Kd.R_drewN | apply Kd.R_drew)); exact HO339.out) hb) (Kd.R_base ho0)) (Kd.R_base ho1)) (fun _ h_ => h_.1)); have n5_ := Aside0.mk (Kd.R_lower (Kd.R_newB (Kd.R_new' (Kd.R_new' (Kd.R_new' (Kd.R_new' (Kd.R_new' (Kd.R_mono (ok' := fun k_ => some k_ ≠ (v344 : Value).ownBlock) ho0 (fun _ hk_ => hk_.2)) (Kd.R_lt (by (with_reducible repeat (first | apply Kd.R_alloc | apply Kd.R_drewN | apply Kd.R_drew)); exact HO323.out))) (Kd.R_lt (by (with_reducible repeat (first | apply Kd.R_alloc | apply Kd.R_drewN | apply Kd.R_drew)); exact HO330.out))) (Kd.R_lt (by (with_reducible repeat (first | apply Kd.R_alloc | apply Kd.R_drewN | apply Kd.R_drew)); exact HO333.out))) (Kd.R_lt (by (with_reducible repeat (first | apply Kd.R_alloc | apply Kd.R_drewN | apply Kd.R_drew)); exact HO336.out))) (Kd.R_lt (by (with_reducible repeat (first | apply Kd.R_alloc | apply Kd.R_drewN | apply Kd.R_drew)); exact HO339.out))) (g := gb314) (o := .cells #[.string a2_0, .int .i64 a2_1, .string a2_2] 26 (0, 0)) (by (with_reducible repeat (first | refine blk_drewN ?_ _ | refine blk_drew ?_ | refine blk_alloc ?_ _)); exact BK314.out)) (below_size (by repeat (first | (with_reducible first | exact HB.out | apply below_alloc | apply pw_below_drewN | apply below_drew1 | refine below_set ?_ GE314.out) | exact HB.out)))); have n6_ := Aside0.mk (Kd.R_lower (Kd.R_newB (Kd.R_new' (Kd.R_new' (Kd.R_new' (Kd.R_new' (Kd.R_new' (Kd.R_mono (ok' := fun k_ => some k_ ≠ (v341 : Value).ownBlock) ho1 (fun _ hk_ => hk_.2)) (Kd.R_lt (by (with_reducible repeat (first | apply Kd.R_alloc | apply Kd.R_drewN | apply Kd.R_drew)); exact HO323.out))) (Kd.R_lt (by (with_reducible repeat (first | apply Kd.R_alloc | apply Kd.R_drewN | apply Kd.R_drew)); exact HO330.out))) (Kd.R_lt (by (with_reducible repeat (first | apply Kd.R_alloc | apply Kd.R_drewN | apply Kd.R_drew)); exact HO333.out))) (Kd.R_lt (by (with_reducible repeat (first | apply Kd.R_alloc | apply Kd.R_drewN | apply Kd.R_drew)); exact HO336.out))) (Kd.R_lt (by (with_reducible repeat (first | apply Kd.R_alloc | apply Kd.R_drewN | apply Kd.R_drew)); exact HO339.out))) (g := gb314) (o := .cells #[.string a2_0, .int .i64 a2_1, .string a2_2] 26 (0, 0)) (by (with_reducible repeat (first | refine blk_drewN ?_ _ | refine blk_drew ?_ | refine blk_alloc ?_ _)); exact BK314.out)) (below_size (by repeat (first | (with_reducible first | exact HB.out | apply below_alloc | apply pw_below_drewN | apply below_drew1 | refine below_set ?_ GE314.out) | exact HB.out)))); have n7_ := Aside0.mk (blk_below (g := gb314) (o := .cells #[.string a2_0, .int .i64 a2_1, .string a2_2] 26 (0, 0)) (by (with_reducible repeat (first | refine blk_drewN ?_ _ | refine blk_drew ?_ | refine blk_alloc ?_ _)); exact BK314.out) hb); have n8_ := Aside0.mk (below_step (by repeat (first | (with_reducible first | exact HB.out | apply below_alloc | apply pw_below_drewN | apply below_drew1 | refine below_set ?_ GE314.out) | exact HB.out)) hb); clear HO323; clear HO330; clear HO333; clear HO336; clear HO339; clear BK314; clear HB; have HO323 := n0_; have HO330 := n1_; have HO333 := n2_; have HO336 := n3_; have HO339 := n4_; have HO342 := n5_; have HO345 := n6_; have BK314 := n7_; have HB := n8_; clear n0_ n1_ n2_ n3_ n4_ n5_ n6_ n7_ n8_; (try clear hb); (try clear hb2); (try clear hk); (try clear hi); (try clear ho0); (try clear ho1)) | ((with_reducible refine gate_callee (f := 22) rfl ?_); refine goesL_ (some 77) rfl rfl Try.func22 (by kernel_rfl) rfl #[.slice Ao33 t321.length co33] rfl (by (try simp only [List.map_toArray, List.map_cons, List.map_nil]); first | done | rfl | (simp only [List.length_drop, List.length_take]; rfl)) ?_; (with_reducible refine (sextonref09_Split.calls _ _ t321 t346 t347 _ ?side1 ?side2 A25.out).mono ?_); (case side1 => repeat (first | exact (Kd.R_reads' HO323.out).2.2 | (with_reducible refine Kd.C_alloc ?_ _) | (with_reducible refine Kd.C_drewN ?_ _) | (with_reducible refine Kd.C_drew ?_))); (case side2 => exact (Kd.R_reads' HO323.out).2.1); rintro e w44 ⟨v348, v350, rfl, ho0, ho1, hb⟩; refine ⟨_, rfl, ?_⟩; have n0_ := Aside0.mk (Kd.R_mono (Kd.R_told (Kd.R_told (Kd.R_old (by (with_reducible repeat (first | apply Kd.R_alloc | apply Kd.R_drewN | apply Kd.R_drew)); exact HO323.out) hb) (Kd.R_base ho0)) (Kd.R_base ho1)) (fun _ h_ => h_.1)); have n1_ := Aside0.mk (Kd.R_mono (Kd.R_told (Kd.R_told (Kd.R_old (by (with_reducible repeat (first | apply Kd.R_alloc | apply Kd.R_drewN | apply Kd.R_drew)); exact HO330.out) hb) (Kd.R_base ho0)) (Kd.R_base ho1)) (fun _ h_ => h_.1)); have n2_ := Aside0.mk (Kd.R_mono (Kd.R_told (Kd.R_told (Kd.R_old (by (with_reducible repeat (first | apply Kd.R_alloc | apply Kd.R_drewN | apply Kd.R_drew)); exact HO333.out) hb) (Kd.R_base ho0)) (Kd.R_base ho1)) (fun _ h_ => h_.1)); have n3_ := Aside0.mk (Kd.R_mono (Kd.R_told (Kd.R_told (Kd.R_old (by (with_reducible repeat (first | apply Kd.R_alloc | apply Kd.R_drewN | apply Kd.R_drew)); exact HO336.out) hb) (Kd.R_base ho0)) (Kd.R_base ho1)) (fun _ h_ => h_.1)); have n4_ := Aside0.mk (Kd.R_mono (Kd.R_told (Kd.R_told (Kd.R_old (by (with_reducible repeat (first | apply Kd.R_alloc | apply Kd.R_drewN | apply Kd.R_drew)); exact HO339.out) hb) (Kd.R_base ho0)) (Kd.R_base ho1)) (fun _ h_ => h_.1)); have n5_ := Aside0.mk (Kd.R_mono (Kd.R_told (Kd.R_told (Kd.R_old (by (with_reducible repeat (first | apply Kd.R_alloc | apply Kd.R_drewN | apply Kd.R_drew)); exact HO342.out) hb) (Kd.R_base ho0)) (Kd.R_base ho1)) (fun _ h_ => h_.1)); have n6_ := Aside0.mk (Kd.R_mono (Kd.R_told (Kd.R_told (Kd.R_old (by (with_reducible repeat (first | apply Kd.R_alloc | apply Kd.R_drewN | apply Kd.R_drew)); exact HO345.out) hb) (Kd.R_base ho0)) (Kd.R_base ho1)) (fun _ h_ => h_.1)); have n7_ := Aside0.mk (Kd.R_lower (Kd.R_newB (Kd.R_new' (Kd.R_new' (Kd.R_new' (Kd.R_new' (Kd.R_new' (Kd.R_new' (Kd.R_new' ho0 (Kd.R_lt (by (with_reducible repeat (first | apply Kd.R_alloc | apply Kd.R_drewN | apply Kd.R_drew)); exact HO323.out))) (Kd.R_lt (by (with_reducible repeat (first | apply Kd.R_alloc | apply Kd.R_drewN | apply Kd.R_drew)); exact HO330.out))) (Kd.R_lt (by (with_reducible repeat (first | apply Kd.R_alloc | apply Kd.R_drewN | apply Kd.R_drew)); exact HO333.out))) (Kd.R_lt (by (with_reducible repeat (first | apply Kd.R_alloc | apply Kd.R_drewN | apply Kd.R_drew)); exact HO336.out))) (Kd.R_lt (by (with_reducible repeat (first | apply Kd.R_alloc | apply Kd.R_drewN | apply Kd.R_drew)); exact HO339.out))) (Kd.R_lt (by (with_reducible repeat (first | apply Kd.R_alloc | apply Kd.R_drewN | apply Kd.R_drew)); exact HO342.out))) (Kd.R_lt (by (with_reducible repeat (first | apply Kd.R_alloc | apply Kd.R_drewN | apply Kd.R_drew)); exact HO345.out))) (g := gb314) (o := .cells #[.string a2_0, .int .i64 a2_1, .string a2_2] 26 (0, 0)) (by (with_reducible repeat (first | refine blk_drewN ?_ _ | refine blk_drew ?_ | refine blk_alloc ?_ _)); exact BK314.out)) (below_size (by repeat (first | (with_reducible first | exact HB.out | apply below_alloc | apply pw_below_drewN | apply below_drew1 | refine below_set ?_ GE314.out) | exact HB.out)))); have n8_ := Aside0.mk (Kd.R_lower (Kd.R_newB (Kd.R_new' (Kd.R_new' (Kd.R_new' (Kd.R_new' (Kd.R_new' (Kd.R_new' (Kd.R_new' ho1 (Kd.R_lt (by (with_reducible repeat (first | apply Kd.R_alloc | apply Kd.R_drewN | apply Kd.R_drew)); exact HO323.out))) (Kd.R_lt (by (with_reducible repeat (first | apply Kd.R_alloc | apply Kd.R_drewN | apply Kd.R_drew)); exact HO330.out))) (Kd.R_lt (by (with_reducible repeat (first | apply Kd.R_alloc | apply Kd.R_drewN | apply Kd.R_drew)); exact HO333.out))) (Kd.R_lt (by (with_reducible repeat (first | apply Kd.R_alloc | apply Kd.R_drewN | apply Kd.R_drew)); exact HO336.out))) (Kd.R_lt (by (with_reducible repeat (first | apply Kd.R_alloc | apply Kd.R_drewN | apply Kd.R_drew)); exact HO339.out))) (Kd.R_lt (by (with_reducible repeat (first | apply Kd.R_alloc | apply Kd.R_drewN | apply Kd.R_drew)); exact HO342.out))) (Kd.R_lt (by (with_reducible repeat (first | apply Kd.R_alloc | apply Kd.R_drewN | apply Kd.R_drew)); exact HO345.out))) (g := gb314) (o := .cells #[.string a2_0, .int .i64 a2_1, .string a2_2] 26 (0, 0)) (by (with_reducible repeat (first | refine blk_drewN ?_ _ | refine blk_drew ?_ | refine blk_alloc ?_ _)); exact BK314.out)) (below_size (by repeat (first | (with_reducible first | exact HB.out | apply below_alloc | apply pw_below_drewN | apply below_drew1 | refine below_set ?_ GE314.out) | exact HB.out)))); have n9_ := Aside0.mk (blk_below (g := gb314) (o := .cells #[.string a2_0, .int .i64 a2_1, .string a2_2] 26 (0, 0)) (by (with_reducible repeat (first | refine blk_drewN ?_ _ | refine blk_drew ?_ | refine blk_alloc ?_ _)); exact BK314.out) hb); have n10_ := Aside0.mk (below_step (by repeat (first | (with_reducible first | exact HB.out | apply below_alloc | apply pw_below_drewN | apply below_drew1 | refine below_set ?_ GE314.out) | exact HB.out)) hb); clear HO323; clear HO330; clear HO333; clear HO336; clear HO339; clear HO342; clear HO345; clear BK314; clear HB; have HO323 := n0_; have HO330 := n1_; have HO333 := n2_; have HO336 := n3_; have HO339 := n4_; have HO342 := n5_; have HO345 := n6_; have HO349 := n7_; have HO351 := n8_; have BK314 := n9_; have HB := n10_; clear n0_ n1_ n2_ n3_ n4_ n5_ n6_ n7_ n8_ n9_ n10_; (try clear hb); (try clear hb2); (try clear hk); (try clear hi); (try clear ho0); (try clear ho1)) | ((with_reducible refine gate_callee (f := 23) rfl ?_); refine goesL_ (some 84) rfl rfl Try.func23 (by kernel_rfl) rfl #[.slice A0 l0.length c0, .slice A1 l1.length c1, .int .i64 a3] rfl (by (try simp only [List.map_toArray, List.map_cons, List.map_nil]); first | done | rfl | (simp only [List.length_drop, List.length_take]; rfl)) ?_; (with_reducible refine (node_Level.calls kj4 (fun k_ => k_ < w.heap.size) _ _ l0 (fun k_ => k_ < w.heap.size) _ _ l1 a3 t352 t355 t358 _ ?side1 ?side2 A26.out).mono ?_); (case side1 => exact Kd.V_mk HC0.out (Kd.F_below (Kd.C_F k26_heap HR0.out) (by repeat (first | (with_reducible first | exact HB.out | apply below_alloc | apply pw_below_drewN | apply below_drew1 | refine below_set ?_ GE314.out) | exact HB.out)))); (case side2 => exact Kd.V_mk HC1.out (Kd.F_below (Kd.C_F k26_heap HR1.out) (by repeat (first | (with_reducible first | exact HB.out | apply below_alloc | apply pw_below_drewN | apply below_drew1 | refine below_set ?_ GE314.out) | exact HB.out)))); rintro e w45 ⟨v353, v356, rfl, ho0, ho1, hb⟩; refine ⟨_, rfl, ?_⟩; have n0_ := Aside0.mk (Kd.R_mono (Kd.R_told (Kd.R_told (Kd.R_old (by (with_reducible repeat (first | apply Kd.R_alloc | apply Kd.R_drewN | apply Kd.R_drew)); exact HO323.out) hb) (Kd.R_base ho0)) (Kd.R_base ho1)) (fun _ h_ => h_.1)); have n1_ := Aside0.mk (Kd.R_mono (Kd.R_told (Kd.R_told (Kd.R_old (by (with_reducible repeat (first | apply Kd.R_alloc | apply Kd.R_drewN | apply Kd.R_drew)); exact HO330.out) hb) (Kd.R_base ho0)) (Kd.R_base ho1)) (fun _ h_ => h_.1)); have n2_ := Aside0.mk (Kd.R_mono (Kd.R_told (Kd.R_told (Kd.R_old (by (with_reducible repeat (first | apply Kd.R_alloc | apply Kd.R_drewN | apply Kd.R_drew)); exact HO333.out) hb) (Kd.R_base ho0)) (Kd.R_base ho1)) (fun _ h_ => h_.1)); have n3_ := Aside0.mk (Kd.R_mono (Kd.R_told (Kd.R_told (Kd.R_old (by (with_reducible repeat (first | apply Kd.R_alloc | apply Kd.R_drewN | apply Kd.R_drew)); exact HO336.out) hb) (Kd.R_base ho0)) (Kd.R_base ho1)) (fun _ h_ => h_.1)); have n4_ := Aside0.mk (Kd.R_mono (Kd.R_told (Kd.R_told (Kd.R_old (by (with_reducible repeat (first | apply Kd.R_alloc | apply Kd.R_drewN | apply Kd.R_drew)); exact HO339.out) hb) (Kd.R_base ho0)) (Kd.R_base ho1)) (fun _ h_ => h_.1)); have n5_ := Aside0.mk (Kd.R_mono (Kd.R_told (Kd.R_told (Kd.R_old (by (with_reducible repeat (first | apply Kd.R_alloc | apply Kd.R_drewN | apply Kd.R_drew)); exact HO342.out) hb) (Kd.R_base ho0)) (Kd.R_base ho1)) (fun _ h_ => h_.1)); have n6_ := Aside0.mk (Kd.R_mono (Kd.R_told (Kd.R_told (Kd.R_old (by (with_reducible repeat (first | apply Kd.R_alloc | apply Kd.R_drewN | apply Kd.R_drew)); exact HO345.out) hb) (Kd.R_base ho0)) (Kd.R_base ho1)) (fun _ h_ => h_.1)); have n7_ := Aside0.mk (Kd.R_mono (Kd.R_told (Kd.R_told (Kd.R_old (by (with_reducible repeat (first | apply Kd.R_alloc | apply Kd.R_drewN | apply Kd.R_drew)); exact HO349.out) hb) (Kd.R_base ho0)) (Kd.R_base ho1)) (fun _ h_ => h_.1)); have n8_ := Aside0.mk (Kd.R_mono (Kd.R_told (Kd.R_told (Kd.R_old (by (with_reducible repeat (first | apply Kd.R_alloc | apply Kd.R_drewN | apply Kd.R_drew)); exact HO351.out) hb) (Kd.R_base ho0)) (Kd.R_base ho1)) (fun _ h_ => h_.1)); have n9_ := Aside0.mk (Kd.R_lower (Kd.R_newB (Kd.R_new' (Kd.R_new' (Kd.R_new' (Kd.R_new' (Kd.R_new' (Kd.R_new' (Kd.R_new' (Kd.R_new' (Kd.R_new' (Kd.R_mono (ok' := fun k_ => some k_ ≠ (v356 : Value).ownBlock) ho0 (fun _ hk_ => hk_.2)) (Kd.R_lt (by (with_reducible repeat (first | apply Kd.R_alloc | apply Kd.R_drewN | apply Kd.R_drew)); exact HO323.out))) (Kd.R_lt (by (with_reducible repeat (first | apply Kd.R_alloc | apply Kd.R_drewN | apply Kd.R_drew)); exact HO330.out))) (Kd.R_lt (by (with_reducible repeat (first | apply Kd.R_alloc | apply Kd.R_drewN | apply Kd.R_drew)); exact HO333.out))) (Kd.R_lt (by (with_reducible repeat (first | apply Kd.R_alloc | apply Kd.R_drewN | apply Kd.R_drew)); exact HO336.out))) (Kd.R_lt (by (with_reducible repeat (first | apply Kd.R_alloc | apply Kd.R_drewN | apply Kd.R_drew)); exact HO339.out))) (Kd.R_lt (by (with_reducible repeat (first | apply Kd.R_alloc | apply Kd.R_drewN | apply Kd.R_drew)); exact HO342.out))) (Kd.R_lt (by (with_reducible repeat (first | apply Kd.R_alloc | apply Kd.R_drewN | apply Kd.R_drew)); exact HO345.out))) (Kd.R_lt (by (with_reducible repeat (first | apply Kd.R_alloc | apply Kd.R_drewN | apply Kd.R_drew)); exact HO349.out))) (Kd.R_lt (by (with_reducible repeat (first | apply Kd.R_alloc | apply Kd.R_drewN | apply Kd.R_drew)); exact HO351.out))) (g := gb314) (o := .cells #[.string a2_0, .int .i64 a2_1, .string a2_2] 26 (0, 0)) (by (with_reducible repeat (first | refine blk_drewN ?_ _ | refine blk_drew ?_ | refine blk_alloc ?_ _)); exact BK314.out)) (below_size (by repeat (first | (with_reducible first | exact HB.out | apply below_alloc | apply pw_below_drewN | apply below_drew1 | refine below_set ?_ GE314.out) | exact HB.out)))); have n10_ := Aside0.mk (Kd.R_lower (Kd.R_newB (Kd.R_new' (Kd.R_new' (Kd.R_new' (Kd.R_new' (Kd.R_new' (Kd.R_new' (Kd.R_new' (Kd.R_new' (Kd.R_new' (Kd.R_mono (ok' := fun k_ => some k_ ≠ (v353 : Value).ownBlock) ho1 (fun _ hk_ => hk_.2)) (Kd.R_lt (by (with_reducible repeat (first | apply Kd.R_alloc | apply Kd.R_drewN | apply Kd.R_drew)); exact HO323.out))) (Kd.R_lt (by (with_reducible repeat (first | apply Kd.R_alloc | apply Kd.R_drewN | apply Kd.R_drew)); exact HO330.out))) (Kd.R_lt (by (with_reducible repeat (first | apply Kd.R_alloc | apply Kd.R_drewN | apply Kd.R_drew)); exact HO333.out))) (Kd.R_lt (by (with_reducible repeat (first | apply Kd.R_alloc | apply Kd.R_drewN | apply Kd.R_drew)); exact HO336.out))) (Kd.R_lt (by (with_reducible repeat (first | apply Kd.R_alloc | apply Kd.R_drewN | apply Kd.R_drew)); exact HO339.out))) (Kd.R_lt (by (with_reducible repeat (first | apply Kd.R_alloc | apply Kd.R_drewN | apply Kd.R_drew)); exact HO342.out))) (Kd.R_lt (by (with_reducible repeat (first | apply Kd.R_alloc | apply Kd.R_drewN | apply Kd.R_drew)); exact HO345.out))) (Kd.R_lt (by (with_reducible repeat (first | apply Kd.R_alloc | apply Kd.R_drewN | apply Kd.R_drew)); exact HO349.out))) (Kd.R_lt (by (with_reducible repeat (first | apply Kd.R_alloc | apply Kd.R_drewN | apply Kd.R_drew)); exact HO351.out))) (g := gb314) (o := .cells #[.string a2_0, .int .i64 a2_1, .string a2_2] 26 (0, 0)) (by (with_reducible repeat (first | refine blk_drewN ?_ _ | refine blk_drew ?_ | refine blk_alloc ?_ _)); exact BK314.out)) (below_size (by repeat (first | (with_reducible first | exact HB.out | apply below_alloc | apply pw_below_drewN | apply below_drew1 | refine below_set ?_ GE314.out) | exact HB.out)))); have n11_ := Aside0.mk (blk_below (g := gb314) (o := .cells #[.string a2_0, .int .i64 a2_1, .string a2_2] 26 (0, 0)) (by (with_reducible repeat (first | refine blk_drewN ?_ _ | refine blk_drew ?_ | refine blk_alloc ?_ _)); exact BK314.out) hb); have n12_ := Aside0.mk (below_step (by repeat (first | (with_reducible first | exact HB.out | apply below_alloc | apply pw_below_drewN | apply below_drew1 | refine below_set ?_ GE314.out) | exact HB.out)) hb); clear HO323; clear HO330; clear HO333; clear HO336; clear HO339; clear HO342; clear HO345; clear HO349; clear HO351; clear BK314; clear HB; have HO323 := n0_; have HO330 := n1_; have HO333 := n2_; have HO336 := n3_; have HO339 := n4_; have HO342 := n5_; have HO345 := n6_; have HO349 := n7_; have HO351 := n8_; have HO354 := n9_; have HO357 := n10_; have BK314 := n11_; have HB := n12_; clear n0_ n1_ n2_ n3_ n4_ n5_ n6_ n7_ n8_ n9_ n10_ n11_ n12_; (try clear hb); (try clear hb2); (try clear hk); (try clear hi); (try clear ho0); (try clear ho1)) | ((with_reducible refine gate_callee (f := 24) rfl ?_); refine goesL_ (some 92) rfl rfl Try.func24 (by kernel_rfl) rfl #[.slice Ao33 t321.length co33, .slice A1 l1.length c1, .int .i64 a3] rfl (by (try simp only [List.map_toArray, List.map_cons, List.map_nil]); first | done | rfl | (simp only [List.length_drop, List.length_take]; rfl)) ?_; (with_reducible refine (sextonref09_Level.calls _ _ t321 _ _ l1 a3 t359 t360 t361 _ ?side1 ?side2 ?side3 ?side4 A27.out).mono ?_); (case side1 => repeat (first | exact (Kd.R_reads' HO323.out).2.2 | (with_reducible refine Kd.C_alloc ?_ _) | (with_reducible refine Kd.C_drewN ?_ _) | (with_reducible refine Kd.C_drew ?_))); (case side2 => exact (Kd.R_reads' HO323.out).2.1); (case side3 => repeat (first | exact (Kd.C_below HR1.out HB.out) | (with_reducible refine Kd.C_alloc ?_ _) | (with_reducible refine Kd.C_drewN ?_ _) | (with_reducible refine Kd.C_drew ?_))); (case side4 => exact HC1.out); rintro e w46 ⟨v362, v364, rfl, ho0, ho1, hb⟩; refine ⟨_, rfl, ?_⟩; have n0_ := Aside0.mk (Kd.R_mono (Kd.R_told (Kd.R_told (Kd.R_old (by (with_reducible repeat (first | apply Kd.R_alloc | apply Kd.R_drewN | apply Kd.R_drew)); exact HO323.out) hb) (Kd.R_base ho0)) (Kd.R_base ho1)) (fun _ h_ => h_.1)); have n1_ := Aside0.mk (Kd.R_mono (Kd.R_told (Kd.R_told (Kd.R_old (by (with_reducible repeat (first | apply Kd.R_alloc | apply Kd.R_drewN | apply Kd.R_drew)); exact HO330.out) hb) (Kd.R_base ho0)) (Kd.R_base ho1)) (fun _ h_ => h_.1)); have n2_ := Aside0.mk (Kd.R_mono (Kd.R_told (Kd.R_told (Kd.R_old (by (with_reducible repeat (first | apply Kd.R_alloc | apply Kd.R_drewN | apply Kd.R_drew)); exact HO333.out) hb) (Kd.R_base ho0)) (Kd.R_base ho1)) (fun _ h_ => h_.1)); have n3_ := Aside0.mk (Kd.R_mono (Kd.R_told (Kd.R_told (Kd.R_old (by (with_reducible repeat (first | apply Kd.R_alloc | apply Kd.R_drewN | apply Kd.R_drew)); exact HO336.out) hb) (Kd.R_base ho0)) (Kd.R_base ho1)) (fun _ h_ => h_.1)); have n4_ := Aside0.mk (Kd.R_mono (Kd.R_told (Kd.R_told (Kd.R_old (by (with_reducible repeat (first | apply Kd.R_alloc | apply Kd.R_drewN | apply Kd.R_drew)); exact HO339.out) hb) (Kd.R_base ho0)) (Kd.R_base ho1)) (fun _ h_ => h_.1)); have n5_ := Aside0.mk (Kd.R_mono (Kd.R_told (Kd.R_told (Kd.R_old (by (with_reducible repeat (first | apply Kd.R_alloc | apply Kd.R_drewN | apply Kd.R_drew)); exact HO342.out) hb) (Kd.R_base ho0)) (Kd.R_base ho1)) (fun _ h_ => h_.1)); have n6_ := Aside0.mk (Kd.R_mono (Kd.R_told (Kd.R_told (Kd.R_old (by (with_reducible repeat (first | apply Kd.R_alloc | apply Kd.R_drewN | apply Kd.R_drew)); exact HO345.out) hb) (Kd.R_base ho0)) (Kd.R_base ho1)) (fun _ h_ => h_.1)); have n7_ := Aside0.mk (Kd.R_mono (Kd.R_told (Kd.R_told (Kd.R_old (by (with_reducible repeat (first | apply Kd.R_alloc | apply Kd.R_drewN | apply Kd.R_drew)); exact HO349.out) hb) (Kd.R_base ho0)) (Kd.R_base ho1)) (fun _ h_ => h_.1)); have n8_ := Aside0.mk (Kd.R_mono (Kd.R_told (Kd.R_told (Kd.R_old (by (with_reducible repeat (first | apply Kd.R_alloc | apply Kd.R_drewN | apply Kd.R_drew)); exact HO351.out) hb) (Kd.R_base ho0)) (Kd.R_base ho1)) (fun _ h_ => h_.1)); have n9_ := Aside0.mk (Kd.R_mono (Kd.R_told (Kd.R_told (Kd.R_old (by (with_reducible repeat (first | apply Kd.R_alloc | apply Kd.R_drewN | apply Kd.R_drew)); exact HO354.out) hb) (Kd.R_base ho0)) (Kd.R_base ho1)) (fun _ h_ => h_.1)); have n10_ := Aside0.mk (Kd.R_mono (Kd.R_told (Kd.R_told (Kd.R_old (by (with_reducible repeat (first | apply Kd.R_alloc | apply Kd.R_drewN | apply Kd.R_drew)); exact HO357.out) hb) (Kd.R_base ho0)) (Kd.R_base ho1)) (fun _ h_ => h_.1)); have n11_ := Aside0.mk (Kd.R_lower (Kd.R_newB (Kd.R_new' (Kd.R_new' (Kd.R_new' (Kd.R_new' (Kd.R_new' (Kd.R_new' (Kd.R_new' (Kd.R_new' (Kd.R_new' (Kd.R_new' (Kd.R_new' ho0 (Kd.R_lt (by (with_reducible repeat (first | apply Kd.R_alloc | apply Kd.R_drewN | apply Kd.R_drew)); exact HO323.out))) (Kd.R_lt (by (with_reducible repeat (first | apply Kd.R_alloc | apply Kd.R_drewN | apply Kd.R_drew)); exact HO330.out))) (Kd.R_lt (by (with_reducible repeat (first | apply Kd.R_alloc | apply Kd.R_drewN | apply Kd.R_drew)); exact HO333.out))) (Kd.R_lt (by (with_reducible repeat (first | apply Kd.R_alloc | apply Kd.R_drewN | apply Kd.R_drew)); exact HO336.out))) (Kd.R_lt (by (with_reducible repeat (first | apply Kd.R_alloc | apply Kd.R_drewN | apply Kd.R_drew)); exact HO339.out))) (Kd.R_lt (by (with_reducible repeat (first | apply Kd.R_alloc | apply Kd.R_drewN | apply Kd.R_drew)); exact HO342.out))) (Kd.R_lt (by (with_reducible repeat (first | apply Kd.R_alloc | apply Kd.R_drewN | apply Kd.R_drew)); exact HO345.out))) (Kd.R_lt (by (with_reducible repeat (first | apply Kd.R_alloc | apply Kd.R_drewN | apply Kd.R_drew)); exact HO349.out))) (Kd.R_lt (by (with_reducible repeat (first | apply Kd.R_alloc | apply Kd.R_drewN | apply Kd.R_drew)); exact HO351.out))) (Kd.R_lt (by (with_reducible repeat (first | apply Kd.R_alloc | apply Kd.R_drewN | apply Kd.R_drew)); exact HO354.out))) (Kd.R_lt (by (with_reducible repeat (first | apply Kd.R_alloc | apply Kd.R_drewN | apply Kd.R_drew)); exact HO357.out))) (g := gb314) (o := .cells #[.string a2_0, .int .i64 a2_1, .string a2_2] 26 (0, 0)) (by (with_reducible repeat (first | refine blk_drewN ?_ _ | refine blk_drew ?_ | refine blk_alloc ?_ _)); exact BK314.out)) (below_size (by repeat (first | (with_reducible first | exact HB.out | apply below_alloc | apply pw_below_drewN | apply below_drew1 | refine below_set ?_ GE314.out) | exact HB.out)))); have n12_ := Aside0.mk (Kd.R_lower (Kd.R_newB (Kd.R_new' (Kd.R_new' (Kd.R_new' (Kd.R_new' (Kd.R_new' (Kd.R_new' (Kd.R_new' (Kd.R_new' (Kd.R_new' (Kd.R_new' (Kd.R_new' ho1 (Kd.R_lt (by (with_reducible repeat (first | apply Kd.R_alloc | apply Kd.R_drewN | apply Kd.R_drew)); exact HO323.out))) (Kd.R_lt (by (with_reducible repeat (first | apply Kd.R_alloc | apply Kd.R_drewN | apply Kd.R_drew)); exact HO330.out))) (Kd.R_lt (by (with_reducible repeat (first | apply Kd.R_alloc | apply Kd.R_drewN | apply Kd.R_drew)); exact HO333.out))) (Kd.R_lt (by (with_reducible repeat (first | apply Kd.R_alloc | apply Kd.R_drewN | apply Kd.R_drew)); exact HO336.out))) (Kd.R_lt (by (with_reducible repeat (first | apply Kd.R_alloc | apply Kd.R_drewN | apply Kd.R_drew)); exact HO339.out))) (Kd.R_lt (by (with_reducible repeat (first | apply Kd.R_alloc | apply Kd.R_drewN | apply Kd.R_drew)); exact HO342.out))) (Kd.R_lt (by (with_reducible repeat (first | apply Kd.R_alloc | apply Kd.R_drewN | apply Kd.R_drew)); exact HO345.out))) (Kd.R_lt (by (with_reducible repeat (first | apply Kd.R_alloc | apply Kd.R_drewN | apply Kd.R_drew)); exact HO349.out))) (Kd.R_lt (by (with_reducible repeat (first | apply Kd.R_alloc | apply Kd.R_drewN | apply Kd.R_drew)); exact HO351.out))) (Kd.R_lt (by (with_reducible repeat (first | apply Kd.R_alloc | apply Kd.R_drewN | apply Kd.R_drew)); exact HO354.out))) (Kd.R_lt (by (with_reducible repeat (first | apply Kd.R_alloc | apply Kd.R_drewN | apply Kd.R_drew)); exact HO357.out))) (g := gb314) (o := .cells #[.string a2_0, .int .i64 a2_1, .string a2_2] 26 (0, 0)) (by (with_reducible repeat (first | refine blk_drewN ?_ _ | refine blk_drew ?_ | refine blk_alloc ?_ _)); exact BK314.out)) (below_size (by repeat (first | (with_reducible first | exact HB.out | apply below_alloc | apply pw_below_drewN | apply below_drew1 | refine below_set ?_ GE314.out) | exact HB.out)))); have n13_ := Aside0.mk (blk_below (g := gb314) (o := .cells #[.string a2_0, .int .i64 a2_1, .string a2_2] 26 (0, 0)) (by (with_reducible repeat (first | refine blk_drewN ?_ _ | refine blk_drew ?_ | refine blk_alloc ?_ _)); exact BK314.out) hb); have n14_ := Aside0.mk (below_step (by repeat (first | (with_reducible first | exact HB.out | apply below_alloc | apply pw_below_drewN | apply below_drew1 | refine below_set ?_ GE314.out) | exact HB.out)) hb); clear HO323; clear HO330; clear HO333; clear HO336; clear HO339; clear HO342; clear HO345; clear HO349; clear HO351; clear HO354; clear HO357; clear BK314; clear HB; have HO323 := n0_; have HO330 := n1_; have HO333 := n2_; have HO336 := n3_; have HO339 := n4_; have HO342 := n5_; have HO345 := n6_; have HO349 := n7_; have HO351 := n8_; have HO354 := n9_; have HO357 := n10_; have HO363 := n11_; have HO365 := n12_; have BK314 := n13_; have HB := n14_; clear n0_ n1_ n2_ n3_ n4_ n5_ n6_ n7_ n8_ n9_ n10_ n11_ n12_ n13_ n14_; (try clear hb); (try clear hb2); (try clear hk); (try clear hi); (try clear ho0); (try clear ho1)))
        (try simp only [Act.put, List.setIfInBounds_toArray, List.set_cons_zero, List.set_cons_succ])
        go_cut [28] (fun v28 wc => ∃ (kq : Nat) (x28_27 : Bool), v28 = .bool x28_27 ∧ Aside0 (sextonlaw09_NodeDoes.j1 kq l0 t321 t328 t334 t340 t343 t352 x28_27 = some r) ∧ Aside0 (kq ≤ kj4) ∧ Aside0 (Kd.R k26 26 wc w.heap.size (fun k_ => some k_ ≠ (v329 : Value).ownBlock ∧ some k_ ≠ (v335 : Value).ownBlock ∧ some k_ ≠ (v341 : Value).ownBlock ∧ some k_ ≠ (v344 : Value).ownBlock ∧ some k_ ≠ (v353 : Value).ownBlock ∧ k_ ≠ gb314) (.slice Ao33 t321.length co33) t321) ∧ Aside0 (Kd.R k26 26 wc w.heap.size (fun k_ => some k_ ≠ ((.slice Ao33 t321.length co33) : Value).ownBlock ∧ some k_ ≠ (v335 : Value).ownBlock ∧ some k_ ≠ (v341 : Value).ownBlock ∧ some k_ ≠ (v344 : Value).ownBlock ∧ some k_ ≠ (v353 : Value).ownBlock ∧ k_ ≠ gb314) v329 t328) ∧ Aside0 (Kd.R k26 26 wc w.heap.size (fun k_ => some k_ ≠ ((.slice Ao33 t321.length co33) : Value).ownBlock ∧ some k_ ≠ (v329 : Value).ownBlock ∧ some k_ ≠ (v341 : Value).ownBlock ∧ some k_ ≠ (v344 : Value).ownBlock ∧ some k_ ≠ (v353 : Value).ownBlock ∧ k_ ≠ gb314) v335 t334) ∧ Aside0 (Kd.R k26 26 wc w.heap.size (fun k_ => some k_ ≠ ((.slice Ao33 t321.length co33) : Value).ownBlock ∧ some k_ ≠ (v329 : Value).ownBlock ∧ some k_ ≠ (v335 : Value).ownBlock ∧ some k_ ≠ (v344 : Value).ownBlock ∧ some k_ ≠ (v353 : Value).ownBlock ∧ k_ ≠ gb314) v341 t340) ∧ Aside0 (Kd.R k26 26 wc w.heap.size (fun k_ => some k_ ≠ ((.slice Ao33 t321.length co33) : Value).ownBlock ∧ some k_ ≠ (v329 : Value).ownBlock ∧ some k_ ≠ (v335 : Value).ownBlock ∧ some k_ ≠ (v341 : Value).ownBlock ∧ some k_ ≠ (v353 : Value).ownBlock ∧ k_ ≠ gb314) v344 t343) ∧ Aside0 (Kd.R k26 26 wc w.heap.size (fun k_ => some k_ ≠ ((.slice Ao33 t321.length co33) : Value).ownBlock ∧ some k_ ≠ (v329 : Value).ownBlock ∧ some k_ ≠ (v335 : Value).ownBlock ∧ some k_ ≠ (v341 : Value).ownBlock ∧ some k_ ≠ (v344 : Value).ownBlock ∧ k_ ≠ gb314) v353 t352) ∧ Aside0 (wc.heap[gb314]? = some (.cells #[.string a2_0, .int .i64 a2_1, .string a2_2] 26 (0, 0))) ∧ Aside0 (Below w.heap.size w wc))
        case first =>
          have H := HC28.out
          clear HC28
          by_cases c47 : t324 = t326
          · rw [if_pos c47] at H
            have c47b0 : (t324 == t326) = true := beq_iff_eq.mpr c47
            have c47b1 : (t324 != t326) = false := bne_eq_false_iff_eq.mpr c47
            clear c47
            (first | rw [c47b0] | (simp only [i64_w, i32_w]; rw [c47b0]) | skip)
            by_cases c48 : (t325 == t327) = true
            · rw [if_pos c48] at H
              have c48b0 : (t325 == t327) = true := c48
              (try (have c48b1 : decide (t325 = t327) = true := by simpa using c48))
              (try (have c48b2 : (t325 == t327) = true := by simpa using c48))
              clear c48
              replace H := Option.bind_eq_some_iff.mp H
              obtain ⟨t366, A490, H⟩ := H
              replace H : (if t366 = true then ((sextonref09_Same.f kj4 t334 t337).bind fun t367 => (if t367 = true then ((sextonref09_Same.f kj4 t340 t346).bind fun t368 => (if t368 = true then ((sextonref09_Same.f kj4 t343 t347).bind fun t369 => (if t369 = true then ((sextonref09_Same.f kj4 t352 t359).bind fun t370 => (if t370 = true then ((sextonref09_Same.f kj4 t355 t360).bind fun t371 => (if t371 = true then (if t358 = t361 then ((node_Is.f kj4 l0).bind fun t372 => ((sextonref09_Is.f kj4 t321).bind fun t373 => (sextonlaw09_NodeDoes.j1 kj4 l0 t321 t328 t334 t340 t343 t352 (t372 == t373)))) else (sextonlaw09_NodeDoes.j1 kj4 l0 t321 t328 t334 t340 t343 t352 false)) else (sextonlaw09_NodeDoes.j1 kj4 l0 t321 t328 t334 t340 t343 t352 false))) else (sextonlaw09_NodeDoes.j1 kj4 l0 t321 t328 t334 t340 t343 t352 false))) else (sextonlaw09_NodeDoes.j1 kj4 l0 t321 t328 t334 t340 t343 t352 false))) else (sextonlaw09_NodeDoes.j1 kj4 l0 t321 t328 t334 t340 t343 t352 false))) else (sextonlaw09_NodeDoes.j1 kj4 l0 t321 t328 t334 t340 t343 t352 false))) else (sextonlaw09_NodeDoes.j1 kj4 l0 t321 t328 t334 t340 t343 t352 false)) = some r := H
              have A49 := Aside0.mk A490
              clear A490
              by_cases c50 : t366 = true
              · subst c50
                have H1 : ((sextonref09_Same.f kj4 t334 t337).bind fun t367 => (if t367 = true then ((sextonref09_Same.f kj4 t340 t346).bind fun t368 => (if t368 = true then ((sextonref09_Same.f kj4 t343 t347).bind fun t369 => (if t369 = true then ((sextonref09_Same.f kj4 t352 t359).bind fun t370 => (if t370 = true then ((sextonref09_Same.f kj4 t355 t360).bind fun t371 => (if t371 = true then (if t358 = t361 then ((node_Is.f kj4 l0).bind fun t372 => ((sextonref09_Is.f kj4 t321).bind fun t373 => (sextonlaw09_NodeDoes.j1 kj4 l0 t321 t328 t334 t340 t343 t352 (t372 == t373)))) else (sextonlaw09_NodeDoes.j1 kj4 l0 t321 t328 t334 t340 t343 t352 false)) else (sextonlaw09_NodeDoes.j1 kj4 l0 t321 t328 t334 t340 t343 t352 false))) else (sextonlaw09_NodeDoes.j1 kj4 l0 t321 t328 t334 t340 t343 t352 false))) else (sextonlaw09_NodeDoes.j1 kj4 l0 t321 t328 t334 t340 t343 t352 false))) else (sextonlaw09_NodeDoes.j1 kj4 l0 t321 t328 t334 t340 t343 t352 false))) else (sextonlaw09_NodeDoes.j1 kj4 l0 t321 t328 t334 t340 t343 t352 false))) = some r := by rw [if_pos rfl] at H; exact H
                clear H
                have H := H1
                clear H1
                replace H := Option.bind_eq_some_iff.mp H
                obtain ⟨t367, A510, H⟩ := H
                replace H : (if t367 = true then ((sextonref09_Same.f kj4 t340 t346).bind fun t368 => (if t368 = true then ((sextonref09_Same.f kj4 t343 t347).bind fun t369 => (if t369 = true then ((sextonref09_Same.f kj4 t352 t359).bind fun t370 => (if t370 = true then ((sextonref09_Same.f kj4 t355 t360).bind fun t371 => (if t371 = true then (if t358 = t361 then ((node_Is.f kj4 l0).bind fun t372 => ((sextonref09_Is.f kj4 t321).bind fun t373 => (sextonlaw09_NodeDoes.j1 kj4 l0 t321 t328 t334 t340 t343 t352 (t372 == t373)))) else (sextonlaw09_NodeDoes.j1 kj4 l0 t321 t328 t334 t340 t343 t352 false)) else (sextonlaw09_NodeDoes.j1 kj4 l0 t321 t328 t334 t340 t343 t352 false))) else (sextonlaw09_NodeDoes.j1 kj4 l0 t321 t328 t334 t340 t343 t352 false))) else (sextonlaw09_NodeDoes.j1 kj4 l0 t321 t328 t334 t340 t343 t352 false))) else (sextonlaw09_NodeDoes.j1 kj4 l0 t321 t328 t334 t340 t343 t352 false))) else (sextonlaw09_NodeDoes.j1 kj4 l0 t321 t328 t334 t340 t343 t352 false)) = some r := H
                have A51 := Aside0.mk A510
                clear A510
                by_cases c52 : t367 = true
                · subst c52
                  have H1 : ((sextonref09_Same.f kj4 t340 t346).bind fun t368 => (if t368 = true then ((sextonref09_Same.f kj4 t343 t347).bind fun t369 => (if t369 = true then ((sextonref09_Same.f kj4 t352 t359).bind fun t370 => (if t370 = true then ((sextonref09_Same.f kj4 t355 t360).bind fun t371 => (if t371 = true then (if t358 = t361 then ((node_Is.f kj4 l0).bind fun t372 => ((sextonref09_Is.f kj4 t321).bind fun t373 => (sextonlaw09_NodeDoes.j1 kj4 l0 t321 t328 t334 t340 t343 t352 (t372 == t373)))) else (sextonlaw09_NodeDoes.j1 kj4 l0 t321 t328 t334 t340 t343 t352 false)) else (sextonlaw09_NodeDoes.j1 kj4 l0 t321 t328 t334 t340 t343 t352 false))) else (sextonlaw09_NodeDoes.j1 kj4 l0 t321 t328 t334 t340 t343 t352 false))) else (sextonlaw09_NodeDoes.j1 kj4 l0 t321 t328 t334 t340 t343 t352 false))) else (sextonlaw09_NodeDoes.j1 kj4 l0 t321 t328 t334 t340 t343 t352 false))) = some r := by rw [if_pos rfl] at H; exact H
                  clear H
                  have H := H1
                  clear H1
                  replace H := Option.bind_eq_some_iff.mp H
                  obtain ⟨t368, A530, H⟩ := H
                  replace H : (if t368 = true then ((sextonref09_Same.f kj4 t343 t347).bind fun t369 => (if t369 = true then ((sextonref09_Same.f kj4 t352 t359).bind fun t370 => (if t370 = true then ((sextonref09_Same.f kj4 t355 t360).bind fun t371 => (if t371 = true then (if t358 = t361 then ((node_Is.f kj4 l0).bind fun t372 => ((sextonref09_Is.f kj4 t321).bind fun t373 => (sextonlaw09_NodeDoes.j1 kj4 l0 t321 t328 t334 t340 t343 t352 (t372 == t373)))) else (sextonlaw09_NodeDoes.j1 kj4 l0 t321 t328 t334 t340 t343 t352 false)) else (sextonlaw09_NodeDoes.j1 kj4 l0 t321 t328 t334 t340 t343 t352 false))) else (sextonlaw09_NodeDoes.j1 kj4 l0 t321 t328 t334 t340 t343 t352 false))) else (sextonlaw09_NodeDoes.j1 kj4 l0 t321 t328 t334 t340 t343 t352 false))) else (sextonlaw09_NodeDoes.j1 kj4 l0 t321 t328 t334 t340 t343 t352 false)) = some r := H
                  have A53 := Aside0.mk A530
                  clear A530
                  by_cases c54 : t368 = true
                  · subst c54
                    have H1 : ((sextonref09_Same.f kj4 t343 t347).bind fun t369 => (if t369 = true then ((sextonref09_Same.f kj4 t352 t359).bind fun t370 => (if t370 = true then ((sextonref09_Same.f kj4 t355 t360).bind fun t371 => (if t371 = true then (if t358 = t361 then ((node_Is.f kj4 l0).bind fun t372 => ((sextonref09_Is.f kj4 t321).bind fun t373 => (sextonlaw09_NodeDoes.j1 kj4 l0 t321 t328 t334 t340 t343 t352 (t372 == t373)))) else (sextonlaw09_NodeDoes.j1 kj4 l0 t321 t328 t334 t340 t343 t352 false)) else (sextonlaw09_NodeDoes.j1 kj4 l0 t321 t328 t334 t340 t343 t352 false))) else (sextonlaw09_NodeDoes.j1 kj4 l0 t321 t328 t334 t340 t343 t352 false))) else (sextonlaw09_NodeDoes.j1 kj4 l0 t321 t328 t334 t340 t343 t352 false))) = some r := by rw [if_pos rfl] at H; exact H
                    clear H
                    have H := H1
                    clear H1
                    replace H := Option.bind_eq_some_iff.mp H
                    obtain ⟨t369, A550, H⟩ := H
                    replace H : (if t369 = true then ((sextonref09_Same.f kj4 t352 t359).bind fun t370 => (if t370 = true then ((sextonref09_Same.f kj4 t355 t360).bind fun t371 => (if t371 = true then (if t358 = t361 then ((node_Is.f kj4 l0).bind fun t372 => ((sextonref09_Is.f kj4 t321).bind fun t373 => (sextonlaw09_NodeDoes.j1 kj4 l0 t321 t328 t334 t340 t343 t352 (t372 == t373)))) else (sextonlaw09_NodeDoes.j1 kj4 l0 t321 t328 t334 t340 t343 t352 false)) else (sextonlaw09_NodeDoes.j1 kj4 l0 t321 t328 t334 t340 t343 t352 false))) else (sextonlaw09_NodeDoes.j1 kj4 l0 t321 t328 t334 t340 t343 t352 false))) else (sextonlaw09_NodeDoes.j1 kj4 l0 t321 t328 t334 t340 t343 t352 false)) = some r := H
                    have A55 := Aside0.mk A550
                    clear A550
                    by_cases c56 : t369 = true
                    · subst c56
                      have H1 : ((sextonref09_Same.f kj4 t352 t359).bind fun t370 => (if t370 = true then ((sextonref09_Same.f kj4 t355 t360).bind fun t371 => (if t371 = true then (if t358 = t361 then ((node_Is.f kj4 l0).bind fun t372 => ((sextonref09_Is.f kj4 t321).bind fun t373 => (sextonlaw09_NodeDoes.j1 kj4 l0 t321 t328 t334 t340 t343 t352 (t372 == t373)))) else (sextonlaw09_NodeDoes.j1 kj4 l0 t321 t328 t334 t340 t343 t352 false)) else (sextonlaw09_NodeDoes.j1 kj4 l0 t321 t328 t334 t340 t343 t352 false))) else (sextonlaw09_NodeDoes.j1 kj4 l0 t321 t328 t334 t340 t343 t352 false))) = some r := by rw [if_pos rfl] at H; exact H
                      clear H
                      have H := H1
                      clear H1
                      replace H := Option.bind_eq_some_iff.mp H
                      obtain ⟨t370, A570, H⟩ := H
                      replace H : (if t370 = true then ((sextonref09_Same.f kj4 t355 t360).bind fun t371 => (if t371 = true then (if t358 = t361 then ((node_Is.f kj4 l0).bind fun t372 => ((sextonref09_Is.f kj4 t321).bind fun t373 => (sextonlaw09_NodeDoes.j1 kj4 l0 t321 t328 t334 t340 t343 t352 (t372 == t373)))) else (sextonlaw09_NodeDoes.j1 kj4 l0 t321 t328 t334 t340 t343 t352 false)) else (sextonlaw09_NodeDoes.j1 kj4 l0 t321 t328 t334 t340 t343 t352 false))) else (sextonlaw09_NodeDoes.j1 kj4 l0 t321 t328 t334 t340 t343 t352 false)) = some r := H
                      have A57 := Aside0.mk A570
                      clear A570
                      by_cases c58 : t370 = true
                      · subst c58
                        have H1 : ((sextonref09_Same.f kj4 t355 t360).bind fun t371 => (if t371 = true then (if t358 = t361 then ((node_Is.f kj4 l0).bind fun t372 => ((sextonref09_Is.f kj4 t321).bind fun t373 => (sextonlaw09_NodeDoes.j1 kj4 l0 t321 t328 t334 t340 t343 t352 (t372 == t373)))) else (sextonlaw09_NodeDoes.j1 kj4 l0 t321 t328 t334 t340 t343 t352 false)) else (sextonlaw09_NodeDoes.j1 kj4 l0 t321 t328 t334 t340 t343 t352 false))) = some r := by rw [if_pos rfl] at H; exact H
                        clear H
                        have H := H1
                        clear H1
                        replace H := Option.bind_eq_some_iff.mp H
                        obtain ⟨t371, A590, H⟩ := H
                        replace H : (if t371 = true then (if t358 = t361 then ((node_Is.f kj4 l0).bind fun t372 => ((sextonref09_Is.f kj4 t321).bind fun t373 => (sextonlaw09_NodeDoes.j1 kj4 l0 t321 t328 t334 t340 t343 t352 (t372 == t373)))) else (sextonlaw09_NodeDoes.j1 kj4 l0 t321 t328 t334 t340 t343 t352 false)) else (sextonlaw09_NodeDoes.j1 kj4 l0 t321 t328 t334 t340 t343 t352 false)) = some r := H
                        have A59 := Aside0.mk A590
                        clear A590
                        by_cases c60 : t371 = true
                        · subst c60
                          have H1 : (if t358 = t361 then ((node_Is.f kj4 l0).bind fun t372 => ((sextonref09_Is.f kj4 t321).bind fun t373 => (sextonlaw09_NodeDoes.j1 kj4 l0 t321 t328 t334 t340 t343 t352 (t372 == t373)))) else (sextonlaw09_NodeDoes.j1 kj4 l0 t321 t328 t334 t340 t343 t352 false)) = some r := by rw [if_pos rfl] at H; exact H
                          clear H
                          have H := H1
                          clear H1
                          by_cases c61 : t358 = t361
                          · rw [if_pos c61] at H
                            have c61b0 : (t358 == t361) = true := beq_iff_eq.mpr c61
                            have c61b1 : (t358 != t361) = false := bne_eq_false_iff_eq.mpr c61
                            clear c61
                            replace H := Option.bind_eq_some_iff.mp H
                            obtain ⟨t372, A620, H⟩ := H
                            replace H : ((sextonref09_Is.f kj4 t321).bind fun t373 => (sextonlaw09_NodeDoes.j1 kj4 l0 t321 t328 t334 t340 t343 t352 (t372 == t373))) = some r := H
                            have A62 := Aside0.mk A620
                            clear A620
                            replace H := Option.bind_eq_some_iff.mp H
                            obtain ⟨t373, A630, H⟩ := H
                            replace H : (sextonlaw09_NodeDoes.j1 kj4 l0 t321 t328 t334 t340 t343 t352 (t372 == t373)) = some r := H
                            have A63 := Aside0.mk A630
                            clear A630
                            have H' := Aside0.mk H
                            clear H
                            obtain ⟨Ao64, co64, eo64⟩ := Kd.R_slice HO330.out
                            subst eo64
                            obtain ⟨Ao65, co65, eo65⟩ := Kd.R_slice HO333.out
                            subst eo65
                            go_wp2_with (first | (go_at_call 25; (with_reducible refine (sextonref09_Same.calls kj4 _ _ t328 _ _ t331 true _ ?side1 ?side2 ?side3 ?side4 A49.out).mono ?_); (case side1 => repeat (first | exact (Kd.R_reads' HO330.out).2.2 | (with_reducible refine Kd.C_alloc ?_ _) | (with_reducible refine Kd.C_drewN ?_ _) | (with_reducible refine Kd.C_drew ?_))); (case side2 => exact (Kd.R_reads' HO330.out).2.1); (case side3 => repeat (first | exact (Kd.R_reads' HO333.out).2.2 | (with_reducible refine Kd.C_alloc ?_ _) | (with_reducible refine Kd.C_drewN ?_ _) | (with_reducible refine Kd.C_drew ?_))); (case side4 => exact (Kd.R_reads' HO333.out).2.1); rintro e w' ⟨rfl, ⟨nd, rfl⟩⟩; obtain ⟨Ao66, co66, eo66⟩ := Kd.R_slice HO336.out; subst eo66; obtain ⟨Ao67, co67, eo67⟩ := Kd.R_slice HO339.out; subst eo67) | (go_at_call 25; (with_reducible refine (sextonref09_Same.calls kj4 _ _ t334 _ _ t337 true _ ?side1 ?side2 ?side3 ?side4 A51.out).mono ?_); (case side1 => repeat (first | exact (Kd.R_reads' HO336.out).2.2 | (with_reducible refine Kd.C_alloc ?_ _) | (with_reducible refine Kd.C_drewN ?_ _) | (with_reducible refine Kd.C_drew ?_))); (case side2 => exact (Kd.R_reads' HO336.out).2.1); (case side3 => repeat (first | exact (Kd.R_reads' HO339.out).2.2 | (with_reducible refine Kd.C_alloc ?_ _) | (with_reducible refine Kd.C_drewN ?_ _) | (with_reducible refine Kd.C_drew ?_))); (case side4 => exact (Kd.R_reads' HO339.out).2.1); rintro e w' ⟨rfl, ⟨nd, rfl⟩⟩; obtain ⟨Ao68, co68, eo68⟩ := Kd.R_slice HO342.out; subst eo68; obtain ⟨Ao69, co69, eo69⟩ := Kd.R_slice HO349.out; subst eo69) | (go_at_call 25; (with_reducible refine (sextonref09_Same.calls kj4 _ _ t340 _ _ t346 true _ ?side1 ?side2 ?side3 ?side4 A53.out).mono ?_); (case side1 => repeat (first | exact (Kd.R_reads' HO342.out).2.2 | (with_reducible refine Kd.C_alloc ?_ _) | (with_reducible refine Kd.C_drewN ?_ _) | (with_reducible refine Kd.C_drew ?_))); (case side2 => exact (Kd.R_reads' HO342.out).2.1); (case side3 => repeat (first | exact (Kd.R_reads' HO349.out).2.2 | (with_reducible refine Kd.C_alloc ?_ _) | (with_reducible refine Kd.C_drewN ?_ _) | (with_reducible refine Kd.C_drew ?_))); (case side4 => exact (Kd.R_reads' HO349.out).2.1); rintro e w' ⟨rfl, ⟨nd, rfl⟩⟩; obtain ⟨Ao70, co70, eo70⟩ := Kd.R_slice HO345.out; subst eo70; obtain ⟨Ao71, co71, eo71⟩ := Kd.R_slice HO351.out; subst eo71) | (go_at_call 25; (with_reducible refine (sextonref09_Same.calls kj4 _ _ t343 _ _ t347 true _ ?side1 ?side2 ?side3 ?side4 A55.out).mono ?_); (case side1 => repeat (first | exact (Kd.R_reads' HO345.out).2.2 | (with_reducible refine Kd.C_alloc ?_ _) | (with_reducible refine Kd.C_drewN ?_ _) | (with_reducible refine Kd.C_drew ?_))); (case side2 => exact (Kd.R_reads' HO345.out).2.1); (case side3 => repeat (first | exact (Kd.R_reads' HO351.out).2.2 | (with_reducible refine Kd.C_alloc ?_ _) | (with_reducible refine Kd.C_drewN ?_ _) | (with_reducible refine Kd.C_drew ?_))); (case side4 => exact (Kd.R_reads' HO351.out).2.1); rintro e w' ⟨rfl, ⟨nd, rfl⟩⟩; obtain ⟨Ao72, co72, eo72⟩ := Kd.R_slice HO354.out; subst eo72; obtain ⟨Ao73, co73, eo73⟩ := Kd.R_slice HO363.out; subst eo73) | (go_at_call 25; (with_reducible refine (sextonref09_Same.calls kj4 _ _ t352 _ _ t359 true _ ?side1 ?side2 ?side3 ?side4 A57.out).mono ?_); (case side1 => repeat (first | exact (Kd.R_reads' HO354.out).2.2 | (with_reducible refine Kd.C_alloc ?_ _) | (with_reducible refine Kd.C_drewN ?_ _) | (with_reducible refine Kd.C_drew ?_))); (case side2 => exact (Kd.R_reads' HO354.out).2.1); (case side3 => repeat (first | exact (Kd.R_reads' HO363.out).2.2 | (with_reducible refine Kd.C_alloc ?_ _) | (with_reducible refine Kd.C_drewN ?_ _) | (with_reducible refine Kd.C_drew ?_))); (case side4 => exact (Kd.R_reads' HO363.out).2.1); rintro e w' ⟨rfl, ⟨nd, rfl⟩⟩; obtain ⟨Ao74, co74, eo74⟩ := Kd.R_slice HO357.out; subst eo74; obtain ⟨Ao75, co75, eo75⟩ := Kd.R_slice HO365.out; subst eo75) | (go_at_call 25; (with_reducible refine (sextonref09_Same.calls kj4 _ _ t355 _ _ t360 true _ ?side1 ?side2 ?side3 ?side4 A59.out).mono ?_); (case side1 => repeat (first | exact (Kd.R_reads' HO357.out).2.2 | (with_reducible refine Kd.C_alloc ?_ _) | (with_reducible refine Kd.C_drewN ?_ _) | (with_reducible refine Kd.C_drew ?_))); (case side2 => exact (Kd.R_reads' HO357.out).2.1); (case side3 => repeat (first | exact (Kd.R_reads' HO365.out).2.2 | (with_reducible refine Kd.C_alloc ?_ _) | (with_reducible refine Kd.C_drewN ?_ _) | (with_reducible refine Kd.C_drew ?_))); (case side4 => exact (Kd.R_reads' HO365.out).2.1); rintro e w' ⟨rfl, ⟨nd, rfl⟩⟩) | (go_at_call 26; (with_reducible refine (node_Is.calls kj4 _ _ l0 t372 _ ?side1 ?side2 A62.out).mono ?_); (case side1 => repeat (first | exact (Kd.C_below HR0.out (by repeat (first | (with_reducible first | exact HB.out | apply below_alloc | apply pw_below_drewN | apply below_drew1 | refine below_set ?_ GE314.out) | exact HB.out))) | (with_reducible refine Kd.C_alloc ?_ _) | (with_reducible refine Kd.C_drewN ?_ _) | (with_reducible refine Kd.C_drew ?_))); (case side2 => exact HC0.out); rintro e w76 ⟨rfl, hb⟩; have n0_ := Aside0.mk (Kd.R_below (by (with_reducible repeat (first | apply Kd.R_alloc | apply Kd.R_drewN | apply Kd.R_drew)); exact HO323.out) hb); have n1_ := Aside0.mk (Kd.R_below (by (with_reducible repeat (first | apply Kd.R_alloc | apply Kd.R_drewN | apply Kd.R_drew)); exact HO330.out) hb); have n2_ := Aside0.mk (Kd.R_below (by (with_reducible repeat (first | apply Kd.R_alloc | apply Kd.R_drewN | apply Kd.R_drew)); exact HO333.out) hb); have n3_ := Aside0.mk (Kd.R_below (by (with_reducible repeat (first | apply Kd.R_alloc | apply Kd.R_drewN | apply Kd.R_drew)); exact HO336.out) hb); have n4_ := Aside0.mk (Kd.R_below (by (with_reducible repeat (first | apply Kd.R_alloc | apply Kd.R_drewN | apply Kd.R_drew)); exact HO339.out) hb); have n5_ := Aside0.mk (Kd.R_below (by (with_reducible repeat (first | apply Kd.R_alloc | apply Kd.R_drewN | apply Kd.R_drew)); exact HO342.out) hb); have n6_ := Aside0.mk (Kd.R_below (by (with_reducible repeat (first | apply Kd.R_alloc | apply Kd.R_drewN | apply Kd.R_drew)); exact HO345.out) hb); have n7_ := Aside0.mk (Kd.R_below (by (with_reducible repeat (first | apply Kd.R_alloc | apply Kd.R_drewN | apply Kd.R_drew)); exact HO349.out) hb); have n8_ := Aside0.mk (Kd.R_below (by (with_reducible repeat (first | apply Kd.R_alloc | apply Kd.R_drewN | apply Kd.R_drew)); exact HO351.out) hb); have n9_ := Aside0.mk (Kd.R_below (by (with_reducible repeat (first | apply Kd.R_alloc | apply Kd.R_drewN | apply Kd.R_drew)); exact HO354.out) hb); have n10_ := Aside0.mk (Kd.R_below (by (with_reducible repeat (first | apply Kd.R_alloc | apply Kd.R_drewN | apply Kd.R_drew)); exact HO357.out) hb); have n11_ := Aside0.mk (Kd.R_below (by (with_reducible repeat (first | apply Kd.R_alloc | apply Kd.R_drewN | apply Kd.R_drew)); exact HO363.out) hb); have n12_ := Aside0.mk (Kd.R_below (by (with_reducible repeat (first | apply Kd.R_alloc | apply Kd.R_drewN | apply Kd.R_drew)); exact HO365.out) hb); have n13_ := Aside0.mk (blk_below (g := gb314) (o := .cells #[.string a2_0, .int .i64 a2_1, .string a2_2] 26 (0, 0)) (by (with_reducible repeat (first | refine blk_drewN ?_ _ | refine blk_drew ?_ | refine blk_alloc ?_ _)); exact BK314.out) hb); have n14_ := Aside0.mk (below_step (by repeat (first | (with_reducible first | exact HB.out | apply below_alloc | apply pw_below_drewN | apply below_drew1 | refine below_set ?_ GE314.out) | exact HB.out)) hb); clear HO323; clear HO330; clear HO333; clear HO336; clear HO339; clear HO342; clear HO345; clear HO349; clear HO351; clear HO354; clear HO357; clear HO363; clear HO365; clear BK314; clear HB; have HO323 := n0_; have HO330 := n1_; have HO333 := n2_; have HO336 := n3_; have HO339 := n4_; have HO342 := n5_; have HO345 := n6_; have HO349 := n7_; have HO351 := n8_; have HO354 := n9_; have HO357 := n10_; have HO363 := n11_; have HO365 := n12_; have BK314 := n13_; have HB := n14_; clear n0_ n1_ n2_ n3_ n4_ n5_ n6_ n7_ n8_ n9_ n10_ n11_ n12_ n13_ n14_; (try clear hb); (try clear hb2); (try clear hk); (try clear hi)) | (go_at_call 27; (with_reducible refine (sextonref09_Is.calls kj4 _ _ t321 t373 _ ?side1 ?side2 A63.out).mono ?_); (case side1 => repeat (first | exact (Kd.R_reads' HO323.out).2.2 | (with_reducible refine Kd.C_alloc ?_ _) | (with_reducible refine Kd.C_drewN ?_ _) | (with_reducible refine Kd.C_drew ?_))); (case side2 => exact (Kd.R_reads' HO323.out).2.1); rintro e w77 ⟨rfl, hb⟩; have n0_ := Aside0.mk (Kd.R_below (by (with_reducible repeat (first | apply Kd.R_alloc | apply Kd.R_drewN | apply Kd.R_drew)); exact HO323.out) hb); have n1_ := Aside0.mk (Kd.R_below (by (with_reducible repeat (first | apply Kd.R_alloc | apply Kd.R_drewN | apply Kd.R_drew)); exact HO330.out) hb); have n2_ := Aside0.mk (Kd.R_below (by (with_reducible repeat (first | apply Kd.R_alloc | apply Kd.R_drewN | apply Kd.R_drew)); exact HO333.out) hb); have n3_ := Aside0.mk (Kd.R_below (by (with_reducible repeat (first | apply Kd.R_alloc | apply Kd.R_drewN | apply Kd.R_drew)); exact HO336.out) hb); have n4_ := Aside0.mk (Kd.R_below (by (with_reducible repeat (first | apply Kd.R_alloc | apply Kd.R_drewN | apply Kd.R_drew)); exact HO339.out) hb); have n5_ := Aside0.mk (Kd.R_below (by (with_reducible repeat (first | apply Kd.R_alloc | apply Kd.R_drewN | apply Kd.R_drew)); exact HO342.out) hb); have n6_ := Aside0.mk (Kd.R_below (by (with_reducible repeat (first | apply Kd.R_alloc | apply Kd.R_drewN | apply Kd.R_drew)); exact HO345.out) hb); have n7_ := Aside0.mk (Kd.R_below (by (with_reducible repeat (first | apply Kd.R_alloc | apply Kd.R_drewN | apply Kd.R_drew)); exact HO349.out) hb); have n8_ := Aside0.mk (Kd.R_below (by (with_reducible repeat (first | apply Kd.R_alloc | apply Kd.R_drewN | apply Kd.R_drew)); exact HO351.out) hb); have n9_ := Aside0.mk (Kd.R_below (by (with_reducible repeat (first | apply Kd.R_alloc | apply Kd.R_drewN | apply Kd.R_drew)); exact HO354.out) hb); have n10_ := Aside0.mk (Kd.R_below (by (with_reducible repeat (first | apply Kd.R_alloc | apply Kd.R_drewN | apply Kd.R_drew)); exact HO357.out) hb); have n11_ := Aside0.mk (Kd.R_below (by (with_reducible repeat (first | apply Kd.R_alloc | apply Kd.R_drewN | apply Kd.R_drew)); exact HO363.out) hb); have n12_ := Aside0.mk (Kd.R_below (by (with_reducible repeat (first | apply Kd.R_alloc | apply Kd.R_drewN | apply Kd.R_drew)); exact HO365.out) hb); have n13_ := Aside0.mk (blk_below (g := gb314) (o := .cells #[.string a2_0, .int .i64 a2_1, .string a2_2] 26 (0, 0)) (by (with_reducible repeat (first | refine blk_drewN ?_ _ | refine blk_drew ?_ | refine blk_alloc ?_ _)); exact BK314.out) hb); have n14_ := Aside0.mk (below_step (by repeat (first | (with_reducible first | exact HB.out | apply below_alloc | apply pw_below_drewN | apply below_drew1 | refine below_set ?_ GE314.out) | exact HB.out)) hb); clear HO323; clear HO330; clear HO333; clear HO336; clear HO339; clear HO342; clear HO345; clear HO349; clear HO351; clear HO354; clear HO357; clear HO363; clear HO365; clear BK314; clear HB; have HO323 := n0_; have HO330 := n1_; have HO333 := n2_; have HO336 := n3_; have HO339 := n4_; have HO342 := n5_; have HO345 := n6_; have HO349 := n7_; have HO351 := n8_; have HO354 := n9_; have HO357 := n10_; have HO363 := n11_; have HO365 := n12_; have BK314 := n13_; have HB := n14_; clear n0_ n1_ n2_ n3_ n4_ n5_ n6_ n7_ n8_ n9_ n10_ n11_ n12_ n13_ n14_; (try clear hb); (try clear hb2); (try clear hk); (try clear hi)))
                            go_meet
                            case rel => exact ⟨_, ((t372 == t373)), (by first | rfl | (simp; done) | (simp [*]; done)), H', ⟨by have := HJ4.out; first | omega | exact Nat.le_refl _⟩, ⟨by (with_reducible repeat (first | apply Kd.R_alloc | apply Kd.R_drewN | apply Kd.R_drew)); exact Kd.R_mono HO323.out (fun _ hk => ⟨hk.1.1.1.1.1.1.1.1.1.1.1.2, ⟨hk.1.1.1.1.1.1.1.1.1.2, ⟨hk.1.1.1.1.1.1.1.2, ⟨hk.1.1.1.1.1.1.2, ⟨hk.1.1.1.2, hk.1.1.1.1.1.1.1.1.1.1.1.1.2⟩⟩⟩⟩⟩)⟩, ⟨by (with_reducible repeat (first | apply Kd.R_alloc | apply Kd.R_drewN | apply Kd.R_drew)); exact Kd.R_mono HO330.out (fun _ hk => ⟨hk.1.1.1.1.1.1.1.1.1.1.1.1.2, ⟨hk.1.1.1.1.1.1.1.1.1.2, ⟨hk.1.1.1.1.1.1.1.2, ⟨hk.1.1.1.1.1.1.2, ⟨hk.1.1.1.2, hk.1.1.1.1.1.1.1.1.1.1.1.2⟩⟩⟩⟩⟩)⟩, ⟨by (with_reducible repeat (first | apply Kd.R_alloc | apply Kd.R_drewN | apply Kd.R_drew)); exact Kd.R_mono HO336.out (fun _ hk => ⟨hk.1.1.1.1.1.1.1.1.1.1.1.1.2, ⟨hk.1.1.1.1.1.1.1.1.1.1.1.2, ⟨hk.1.1.1.1.1.1.1.2, ⟨hk.1.1.1.1.1.1.2, ⟨hk.1.1.1.2, hk.1.1.1.1.1.1.1.1.1.2⟩⟩⟩⟩⟩)⟩, ⟨by (with_reducible repeat (first | apply Kd.R_alloc | apply Kd.R_drewN | apply Kd.R_drew)); exact Kd.R_mono HO342.out (fun _ hk => ⟨hk.1.1.1.1.1.1.1.1.1.1.1.2, ⟨hk.1.1.1.1.1.1.1.1.1.1.2, ⟨hk.1.1.1.1.1.1.1.1.2, ⟨hk.1.1.1.1.1.1.1.1.1.1.1.1, ⟨hk.1.1.1.2, hk.1.1.1.1.1.1.2⟩⟩⟩⟩⟩)⟩, ⟨by (with_reducible repeat (first | apply Kd.R_alloc | apply Kd.R_drewN | apply Kd.R_drew)); exact Kd.R_mono HO345.out (fun _ hk => ⟨hk.1.1.1.1.1.1.1.1.1.1.1.2, ⟨hk.1.1.1.1.1.1.1.1.1.1.2, ⟨hk.1.1.1.1.1.1.1.1.2, ⟨hk.1.1.1.1.1.1.1.1.1.1.1.1, ⟨hk.1.1.1.2, hk.1.1.1.1.1.1.2⟩⟩⟩⟩⟩)⟩, ⟨by (with_reducible repeat (first | apply Kd.R_alloc | apply Kd.R_drewN | apply Kd.R_drew)); exact Kd.R_mono HO354.out (fun _ hk => ⟨hk.1.1.1.1.1.1.1.1.1.1.1.2, ⟨hk.1.1.1.1.1.1.1.1.1.1.2, ⟨hk.1.1.1.1.1.1.1.1.2, ⟨hk.1.1.1.1.1.1.2, ⟨hk.1.1.1.1.1.2, hk.1.1.2⟩⟩⟩⟩⟩)⟩, ⟨by (with_reducible repeat (first | refine blk_drewN ?_ _ | refine blk_drew ?_ | refine blk_alloc ?_ _)); exact BK314.out⟩, ⟨by repeat (first | (with_reducible first | exact HB.out | apply below_alloc | apply pw_below_drewN | apply below_drew1 | refine below_set ?_ GE314.out) | exact HB.out)⟩⟩
                          · rw [if_neg c61] at H
                            have c61b0 : (t358 == t361) = false := beq_eq_false_iff_ne.mpr c61
                            have c61b1 : (t358 != t361) = true := bne_iff_ne.mpr c61
                            have H' := Aside0.mk H
                            clear H
                            obtain ⟨Ao78, co78, eo78⟩ := Kd.R_slice HO330.out
                            subst eo78
                            obtain ⟨Ao79, co79, eo79⟩ := Kd.R_slice HO333.out
                            subst eo79
                            go_wp2_with (first | (go_at_call 25; (with_reducible refine (sextonref09_Same.calls kj4 _ _ t328 _ _ t331 true _ ?side1 ?side2 ?side3 ?side4 A49.out).mono ?_); (case side1 => repeat (first | exact (Kd.R_reads' HO330.out).2.2 | (with_reducible refine Kd.C_alloc ?_ _) | (with_reducible refine Kd.C_drewN ?_ _) | (with_reducible refine Kd.C_drew ?_))); (case side2 => exact (Kd.R_reads' HO330.out).2.1); (case side3 => repeat (first | exact (Kd.R_reads' HO333.out).2.2 | (with_reducible refine Kd.C_alloc ?_ _) | (with_reducible refine Kd.C_drewN ?_ _) | (with_reducible refine Kd.C_drew ?_))); (case side4 => exact (Kd.R_reads' HO333.out).2.1); rintro e w' ⟨rfl, ⟨nd, rfl⟩⟩; obtain ⟨Ao80, co80, eo80⟩ := Kd.R_slice HO336.out; subst eo80; obtain ⟨Ao81, co81, eo81⟩ := Kd.R_slice HO339.out; subst eo81) | (go_at_call 25; (with_reducible refine (sextonref09_Same.calls kj4 _ _ t334 _ _ t337 true _ ?side1 ?side2 ?side3 ?side4 A51.out).mono ?_); (case side1 => repeat (first | exact (Kd.R_reads' HO336.out).2.2 | (with_reducible refine Kd.C_alloc ?_ _) | (with_reducible refine Kd.C_drewN ?_ _) | (with_reducible refine Kd.C_drew ?_))); (case side2 => exact (Kd.R_reads' HO336.out).2.1); (case side3 => repeat (first | exact (Kd.R_reads' HO339.out).2.2 | (with_reducible refine Kd.C_alloc ?_ _) | (with_reducible refine Kd.C_drewN ?_ _) | (with_reducible refine Kd.C_drew ?_))); (case side4 => exact (Kd.R_reads' HO339.out).2.1); rintro e w' ⟨rfl, ⟨nd, rfl⟩⟩; obtain ⟨Ao82, co82, eo82⟩ := Kd.R_slice HO342.out; subst eo82; obtain ⟨Ao83, co83, eo83⟩ := Kd.R_slice HO349.out; subst eo83) | (go_at_call 25; (with_reducible refine (sextonref09_Same.calls kj4 _ _ t340 _ _ t346 true _ ?side1 ?side2 ?side3 ?side4 A53.out).mono ?_); (case side1 => repeat (first | exact (Kd.R_reads' HO342.out).2.2 | (with_reducible refine Kd.C_alloc ?_ _) | (with_reducible refine Kd.C_drewN ?_ _) | (with_reducible refine Kd.C_drew ?_))); (case side2 => exact (Kd.R_reads' HO342.out).2.1); (case side3 => repeat (first | exact (Kd.R_reads' HO349.out).2.2 | (with_reducible refine Kd.C_alloc ?_ _) | (with_reducible refine Kd.C_drewN ?_ _) | (with_reducible refine Kd.C_drew ?_))); (case side4 => exact (Kd.R_reads' HO349.out).2.1); rintro e w' ⟨rfl, ⟨nd, rfl⟩⟩; obtain ⟨Ao84, co84, eo84⟩ := Kd.R_slice HO345.out; subst eo84; obtain ⟨Ao85, co85, eo85⟩ := Kd.R_slice HO351.out; subst eo85) | (go_at_call 25; (with_reducible refine (sextonref09_Same.calls kj4 _ _ t343 _ _ t347 true _ ?side1 ?side2 ?side3 ?side4 A55.out).mono ?_); (case side1 => repeat (first | exact (Kd.R_reads' HO345.out).2.2 | (with_reducible refine Kd.C_alloc ?_ _) | (with_reducible refine Kd.C_drewN ?_ _) | (with_reducible refine Kd.C_drew ?_))); (case side2 => exact (Kd.R_reads' HO345.out).2.1); (case side3 => repeat (first | exact (Kd.R_reads' HO351.out).2.2 | (with_reducible refine Kd.C_alloc ?_ _) | (with_reducible refine Kd.C_drewN ?_ _) | (with_reducible refine Kd.C_drew ?_))); (case side4 => exact (Kd.R_reads' HO351.out).2.1); rintro e w' ⟨rfl, ⟨nd, rfl⟩⟩; obtain ⟨Ao86, co86, eo86⟩ := Kd.R_slice HO354.out; subst eo86; obtain ⟨Ao87, co87, eo87⟩ := Kd.R_slice HO363.out; subst eo87) | (go_at_call 25; (with_reducible refine (sextonref09_Same.calls kj4 _ _ t352 _ _ t359 true _ ?side1 ?side2 ?side3 ?side4 A57.out).mono ?_); (case side1 => repeat (first | exact (Kd.R_reads' HO354.out).2.2 | (with_reducible refine Kd.C_alloc ?_ _) | (with_reducible refine Kd.C_drewN ?_ _) | (with_reducible refine Kd.C_drew ?_))); (case side2 => exact (Kd.R_reads' HO354.out).2.1); (case side3 => repeat (first | exact (Kd.R_reads' HO363.out).2.2 | (with_reducible refine Kd.C_alloc ?_ _) | (with_reducible refine Kd.C_drewN ?_ _) | (with_reducible refine Kd.C_drew ?_))); (case side4 => exact (Kd.R_reads' HO363.out).2.1); rintro e w' ⟨rfl, ⟨nd, rfl⟩⟩; obtain ⟨Ao88, co88, eo88⟩ := Kd.R_slice HO357.out; subst eo88; obtain ⟨Ao89, co89, eo89⟩ := Kd.R_slice HO365.out; subst eo89) | (go_at_call 25; (with_reducible refine (sextonref09_Same.calls kj4 _ _ t355 _ _ t360 true _ ?side1 ?side2 ?side3 ?side4 A59.out).mono ?_); (case side1 => repeat (first | exact (Kd.R_reads' HO357.out).2.2 | (with_reducible refine Kd.C_alloc ?_ _) | (with_reducible refine Kd.C_drewN ?_ _) | (with_reducible refine Kd.C_drew ?_))); (case side2 => exact (Kd.R_reads' HO357.out).2.1); (case side3 => repeat (first | exact (Kd.R_reads' HO365.out).2.2 | (with_reducible refine Kd.C_alloc ?_ _) | (with_reducible refine Kd.C_drewN ?_ _) | (with_reducible refine Kd.C_drew ?_))); (case side4 => exact (Kd.R_reads' HO365.out).2.1); rintro e w' ⟨rfl, ⟨nd, rfl⟩⟩))
                            go_meet
                            case rel => exact ⟨_, (false), (by first | rfl | (simp; done) | (simp [*]; done)), H', ⟨by have := HJ4.out; first | omega | exact Nat.le_refl _⟩, ⟨by (with_reducible repeat (first | apply Kd.R_alloc | apply Kd.R_drewN | apply Kd.R_drew)); exact Kd.R_mono HO323.out (fun _ hk => ⟨hk.1.1.1.1.1.1.1.1.1.1.1.2, ⟨hk.1.1.1.1.1.1.1.1.1.2, ⟨hk.1.1.1.1.1.1.1.2, ⟨hk.1.1.1.1.1.1.2, ⟨hk.1.1.1.2, hk.1.1.1.1.1.1.1.1.1.1.1.1.2⟩⟩⟩⟩⟩)⟩, ⟨by (with_reducible repeat (first | apply Kd.R_alloc | apply Kd.R_drewN | apply Kd.R_drew)); exact Kd.R_mono HO330.out (fun _ hk => ⟨hk.1.1.1.1.1.1.1.1.1.1.1.1.2, ⟨hk.1.1.1.1.1.1.1.1.1.2, ⟨hk.1.1.1.1.1.1.1.2, ⟨hk.1.1.1.1.1.1.2, ⟨hk.1.1.1.2, hk.1.1.1.1.1.1.1.1.1.1.1.2⟩⟩⟩⟩⟩)⟩, ⟨by (with_reducible repeat (first | apply Kd.R_alloc | apply Kd.R_drewN | apply Kd.R_drew)); exact Kd.R_mono HO336.out (fun _ hk => ⟨hk.1.1.1.1.1.1.1.1.1.1.1.1.2, ⟨hk.1.1.1.1.1.1.1.1.1.1.1.2, ⟨hk.1.1.1.1.1.1.1.2, ⟨hk.1.1.1.1.1.1.2, ⟨hk.1.1.1.2, hk.1.1.1.1.1.1.1.1.1.2⟩⟩⟩⟩⟩)⟩, ⟨by (with_reducible repeat (first | apply Kd.R_alloc | apply Kd.R_drewN | apply Kd.R_drew)); exact Kd.R_mono HO342.out (fun _ hk => ⟨hk.1.1.1.1.1.1.1.1.1.1.1.2, ⟨hk.1.1.1.1.1.1.1.1.1.1.2, ⟨hk.1.1.1.1.1.1.1.1.2, ⟨hk.1.1.1.1.1.1.1.1.1.1.1.1, ⟨hk.1.1.1.2, hk.1.1.1.1.1.1.2⟩⟩⟩⟩⟩)⟩, ⟨by (with_reducible repeat (first | apply Kd.R_alloc | apply Kd.R_drewN | apply Kd.R_drew)); exact Kd.R_mono HO345.out (fun _ hk => ⟨hk.1.1.1.1.1.1.1.1.1.1.1.2, ⟨hk.1.1.1.1.1.1.1.1.1.1.2, ⟨hk.1.1.1.1.1.1.1.1.2, ⟨hk.1.1.1.1.1.1.1.1.1.1.1.1, ⟨hk.1.1.1.2, hk.1.1.1.1.1.1.2⟩⟩⟩⟩⟩)⟩, ⟨by (with_reducible repeat (first | apply Kd.R_alloc | apply Kd.R_drewN | apply Kd.R_drew)); exact Kd.R_mono HO354.out (fun _ hk => ⟨hk.1.1.1.1.1.1.1.1.1.1.1.2, ⟨hk.1.1.1.1.1.1.1.1.1.1.2, ⟨hk.1.1.1.1.1.1.1.1.2, ⟨hk.1.1.1.1.1.1.2, ⟨hk.1.1.1.1.1.2, hk.1.1.2⟩⟩⟩⟩⟩)⟩, ⟨by (with_reducible repeat (first | refine blk_drewN ?_ _ | refine blk_drew ?_ | refine blk_alloc ?_ _)); exact BK314.out⟩, ⟨by repeat (first | (with_reducible first | exact HB.out | apply below_alloc | apply pw_below_drewN | apply below_drew1 | refine below_set ?_ GE314.out) | exact HB.out)⟩⟩
                        · replace c60 := Bool.eq_false_iff.mpr c60
                          subst c60
                          have H1 : (sextonlaw09_NodeDoes.j1 kj4 l0 t321 t328 t334 t340 t343 t352 false) = some r := by rw [if_neg (show ¬ (false = true) by decide)] at H; exact H
                          clear H
                          have H := H1
                          clear H1
                          have H' := Aside0.mk H
                          clear H
                          obtain ⟨Ao90, co90, eo90⟩ := Kd.R_slice HO330.out
                          subst eo90
                          obtain ⟨Ao91, co91, eo91⟩ := Kd.R_slice HO333.out
                          subst eo91
                          go_wp2_with (first | (go_at_call 25; (with_reducible refine (sextonref09_Same.calls kj4 _ _ t328 _ _ t331 true _ ?side1 ?side2 ?side3 ?side4 A49.out).mono ?_); (case side1 => repeat (first | exact (Kd.R_reads' HO330.out).2.2 | (with_reducible refine Kd.C_alloc ?_ _) | (with_reducible refine Kd.C_drewN ?_ _) | (with_reducible refine Kd.C_drew ?_))); (case side2 => exact (Kd.R_reads' HO330.out).2.1); (case side3 => repeat (first | exact (Kd.R_reads' HO333.out).2.2 | (with_reducible refine Kd.C_alloc ?_ _) | (with_reducible refine Kd.C_drewN ?_ _) | (with_reducible refine Kd.C_drew ?_))); (case side4 => exact (Kd.R_reads' HO333.out).2.1); rintro e w' ⟨rfl, ⟨nd, rfl⟩⟩; obtain ⟨Ao92, co92, eo92⟩ := Kd.R_slice HO336.out; subst eo92; obtain ⟨Ao93, co93, eo93⟩ := Kd.R_slice HO339.out; subst eo93) | (go_at_call 25; (with_reducible refine (sextonref09_Same.calls kj4 _ _ t334 _ _ t337 true _ ?side1 ?side2 ?side3 ?side4 A51.out).mono ?_); (case side1 => repeat (first | exact (Kd.R_reads' HO336.out).2.2 | (with_reducible refine Kd.C_alloc ?_ _) | (with_reducible refine Kd.C_drewN ?_ _) | (with_reducible refine Kd.C_drew ?_))); (case side2 => exact (Kd.R_reads' HO336.out).2.1); (case side3 => repeat (first | exact (Kd.R_reads' HO339.out).2.2 | (with_reducible refine Kd.C_alloc ?_ _) | (with_reducible refine Kd.C_drewN ?_ _) | (with_reducible refine Kd.C_drew ?_))); (case side4 => exact (Kd.R_reads' HO339.out).2.1); rintro e w' ⟨rfl, ⟨nd, rfl⟩⟩; obtain ⟨Ao94, co94, eo94⟩ := Kd.R_slice HO342.out; subst eo94; obtain ⟨Ao95, co95, eo95⟩ := Kd.R_slice HO349.out; subst eo95) | (go_at_call 25; (with_reducible refine (sextonref09_Same.calls kj4 _ _ t340 _ _ t346 true _ ?side1 ?side2 ?side3 ?side4 A53.out).mono ?_); (case side1 => repeat (first | exact (Kd.R_reads' HO342.out).2.2 | (with_reducible refine Kd.C_alloc ?_ _) | (with_reducible refine Kd.C_drewN ?_ _) | (with_reducible refine Kd.C_drew ?_))); (case side2 => exact (Kd.R_reads' HO342.out).2.1); (case side3 => repeat (first | exact (Kd.R_reads' HO349.out).2.2 | (with_reducible refine Kd.C_alloc ?_ _) | (with_reducible refine Kd.C_drewN ?_ _) | (with_reducible refine Kd.C_drew ?_))); (case side4 => exact (Kd.R_reads' HO349.out).2.1); rintro e w' ⟨rfl, ⟨nd, rfl⟩⟩; obtain ⟨Ao96, co96, eo96⟩ := Kd.R_slice HO345.out; subst eo96; obtain ⟨Ao97, co97, eo97⟩ := Kd.R_slice HO351.out; subst eo97) | (go_at_call 25; (with_reducible refine (sextonref09_Same.calls kj4 _ _ t343 _ _ t347 true _ ?side1 ?side2 ?side3 ?side4 A55.out).mono ?_); (case side1 => repeat (first | exact (Kd.R_reads' HO345.out).2.2 | (with_reducible refine Kd.C_alloc ?_ _) | (with_reducible refine Kd.C_drewN ?_ _) | (with_reducible refine Kd.C_drew ?_))); (case side2 => exact (Kd.R_reads' HO345.out).2.1); (case side3 => repeat (first | exact (Kd.R_reads' HO351.out).2.2 | (with_reducible refine Kd.C_alloc ?_ _) | (with_reducible refine Kd.C_drewN ?_ _) | (with_reducible refine Kd.C_drew ?_))); (case side4 => exact (Kd.R_reads' HO351.out).2.1); rintro e w' ⟨rfl, ⟨nd, rfl⟩⟩; obtain ⟨Ao98, co98, eo98⟩ := Kd.R_slice HO354.out; subst eo98; obtain ⟨Ao99, co99, eo99⟩ := Kd.R_slice HO363.out; subst eo99) | (go_at_call 25; (with_reducible refine (sextonref09_Same.calls kj4 _ _ t352 _ _ t359 true _ ?side1 ?side2 ?side3 ?side4 A57.out).mono ?_); (case side1 => repeat (first | exact (Kd.R_reads' HO354.out).2.2 | (with_reducible refine Kd.C_alloc ?_ _) | (with_reducible refine Kd.C_drewN ?_ _) | (with_reducible refine Kd.C_drew ?_))); (case side2 => exact (Kd.R_reads' HO354.out).2.1); (case side3 => repeat (first | exact (Kd.R_reads' HO363.out).2.2 | (with_reducible refine Kd.C_alloc ?_ _) | (with_reducible refine Kd.C_drewN ?_ _) | (with_reducible refine Kd.C_drew ?_))); (case side4 => exact (Kd.R_reads' HO363.out).2.1); rintro e w' ⟨rfl, ⟨nd, rfl⟩⟩; obtain ⟨Ao100, co100, eo100⟩ := Kd.R_slice HO357.out; subst eo100; obtain ⟨Ao101, co101, eo101⟩ := Kd.R_slice HO365.out; subst eo101) | (go_at_call 25; (with_reducible refine (sextonref09_Same.calls kj4 _ _ t355 _ _ t360 false _ ?side1 ?side2 ?side3 ?side4 A59.out).mono ?_); (case side1 => repeat (first | exact (Kd.R_reads' HO357.out).2.2 | (with_reducible refine Kd.C_alloc ?_ _) | (with_reducible refine Kd.C_drewN ?_ _) | (with_reducible refine Kd.C_drew ?_))); (case side2 => exact (Kd.R_reads' HO357.out).2.1); (case side3 => repeat (first | exact (Kd.R_reads' HO365.out).2.2 | (with_reducible refine Kd.C_alloc ?_ _) | (with_reducible refine Kd.C_drewN ?_ _) | (with_reducible refine Kd.C_drew ?_))); (case side4 => exact (Kd.R_reads' HO365.out).2.1); rintro e w' ⟨rfl, ⟨nd, rfl⟩⟩))
                          go_meet
                          case rel => exact ⟨_, (false), (by first | rfl | (simp; done) | (simp [*]; done)), H', ⟨by have := HJ4.out; first | omega | exact Nat.le_refl _⟩, ⟨by (with_reducible repeat (first | apply Kd.R_alloc | apply Kd.R_drewN | apply Kd.R_drew)); exact Kd.R_mono HO323.out (fun _ hk => ⟨hk.1.1.1.1.1.1.1.1.1.1.1.2, ⟨hk.1.1.1.1.1.1.1.1.1.2, ⟨hk.1.1.1.1.1.1.1.2, ⟨hk.1.1.1.1.1.1.2, ⟨hk.1.1.1.2, hk.1.1.1.1.1.1.1.1.1.1.1.1.2⟩⟩⟩⟩⟩)⟩, ⟨by (with_reducible repeat (first | apply Kd.R_alloc | apply Kd.R_drewN | apply Kd.R_drew)); exact Kd.R_mono HO330.out (fun _ hk => ⟨hk.1.1.1.1.1.1.1.1.1.1.1.1.2, ⟨hk.1.1.1.1.1.1.1.1.1.2, ⟨hk.1.1.1.1.1.1.1.2, ⟨hk.1.1.1.1.1.1.2, ⟨hk.1.1.1.2, hk.1.1.1.1.1.1.1.1.1.1.1.2⟩⟩⟩⟩⟩)⟩, ⟨by (with_reducible repeat (first | apply Kd.R_alloc | apply Kd.R_drewN | apply Kd.R_drew)); exact Kd.R_mono HO336.out (fun _ hk => ⟨hk.1.1.1.1.1.1.1.1.1.1.1.1.2, ⟨hk.1.1.1.1.1.1.1.1.1.1.1.2, ⟨hk.1.1.1.1.1.1.1.2, ⟨hk.1.1.1.1.1.1.2, ⟨hk.1.1.1.2, hk.1.1.1.1.1.1.1.1.1.2⟩⟩⟩⟩⟩)⟩, ⟨by (with_reducible repeat (first | apply Kd.R_alloc | apply Kd.R_drewN | apply Kd.R_drew)); exact Kd.R_mono HO342.out (fun _ hk => ⟨hk.1.1.1.1.1.1.1.1.1.1.1.2, ⟨hk.1.1.1.1.1.1.1.1.1.1.2, ⟨hk.1.1.1.1.1.1.1.1.2, ⟨hk.1.1.1.1.1.1.1.1.1.1.1.1, ⟨hk.1.1.1.2, hk.1.1.1.1.1.1.2⟩⟩⟩⟩⟩)⟩, ⟨by (with_reducible repeat (first | apply Kd.R_alloc | apply Kd.R_drewN | apply Kd.R_drew)); exact Kd.R_mono HO345.out (fun _ hk => ⟨hk.1.1.1.1.1.1.1.1.1.1.1.2, ⟨hk.1.1.1.1.1.1.1.1.1.1.2, ⟨hk.1.1.1.1.1.1.1.1.2, ⟨hk.1.1.1.1.1.1.1.1.1.1.1.1, ⟨hk.1.1.1.2, hk.1.1.1.1.1.1.2⟩⟩⟩⟩⟩)⟩, ⟨by (with_reducible repeat (first | apply Kd.R_alloc | apply Kd.R_drewN | apply Kd.R_drew)); exact Kd.R_mono HO354.out (fun _ hk => ⟨hk.1.1.1.1.1.1.1.1.1.1.1.2, ⟨hk.1.1.1.1.1.1.1.1.1.1.2, ⟨hk.1.1.1.1.1.1.1.1.2, ⟨hk.1.1.1.1.1.1.2, ⟨hk.1.1.1.1.1.2, hk.1.1.2⟩⟩⟩⟩⟩)⟩, ⟨by (with_reducible repeat (first | refine blk_drewN ?_ _ | refine blk_drew ?_ | refine blk_alloc ?_ _)); exact BK314.out⟩, ⟨by repeat (first | (with_reducible first | exact HB.out | apply below_alloc | apply pw_below_drewN | apply below_drew1 | refine below_set ?_ GE314.out) | exact HB.out)⟩⟩
                      · replace c58 := Bool.eq_false_iff.mpr c58
                        subst c58
                        have H1 : (sextonlaw09_NodeDoes.j1 kj4 l0 t321 t328 t334 t340 t343 t352 false) = some r := by rw [if_neg (show ¬ (false = true) by decide)] at H; exact H
                        clear H
                        have H := H1
                        clear H1
                        have H' := Aside0.mk H
                        clear H
                        obtain ⟨Ao102, co102, eo102⟩ := Kd.R_slice HO330.out
                        subst eo102
                        obtain ⟨Ao103, co103, eo103⟩ := Kd.R_slice HO333.out
                        subst eo103
                        go_wp2_with (first | (go_at_call 25; (with_reducible refine (sextonref09_Same.calls kj4 _ _ t328 _ _ t331 true _ ?side1 ?side2 ?side3 ?side4 A49.out).mono ?_); (case side1 => repeat (first | exact (Kd.R_reads' HO330.out).2.2 | (with_reducible refine Kd.C_alloc ?_ _) | (with_reducible refine Kd.C_drewN ?_ _) | (with_reducible refine Kd.C_drew ?_))); (case side2 => exact (Kd.R_reads' HO330.out).2.1); (case side3 => repeat (first | exact (Kd.R_reads' HO333.out).2.2 | (with_reducible refine Kd.C_alloc ?_ _) | (with_reducible refine Kd.C_drewN ?_ _) | (with_reducible refine Kd.C_drew ?_))); (case side4 => exact (Kd.R_reads' HO333.out).2.1); rintro e w' ⟨rfl, ⟨nd, rfl⟩⟩; obtain ⟨Ao104, co104, eo104⟩ := Kd.R_slice HO336.out; subst eo104; obtain ⟨Ao105, co105, eo105⟩ := Kd.R_slice HO339.out; subst eo105) | (go_at_call 25; (with_reducible refine (sextonref09_Same.calls kj4 _ _ t334 _ _ t337 true _ ?side1 ?side2 ?side3 ?side4 A51.out).mono ?_); (case side1 => repeat (first | exact (Kd.R_reads' HO336.out).2.2 | (with_reducible refine Kd.C_alloc ?_ _) | (with_reducible refine Kd.C_drewN ?_ _) | (with_reducible refine Kd.C_drew ?_))); (case side2 => exact (Kd.R_reads' HO336.out).2.1); (case side3 => repeat (first | exact (Kd.R_reads' HO339.out).2.2 | (with_reducible refine Kd.C_alloc ?_ _) | (with_reducible refine Kd.C_drewN ?_ _) | (with_reducible refine Kd.C_drew ?_))); (case side4 => exact (Kd.R_reads' HO339.out).2.1); rintro e w' ⟨rfl, ⟨nd, rfl⟩⟩; obtain ⟨Ao106, co106, eo106⟩ := Kd.R_slice HO342.out; subst eo106; obtain ⟨Ao107, co107, eo107⟩ := Kd.R_slice HO349.out; subst eo107) | (go_at_call 25; (with_reducible refine (sextonref09_Same.calls kj4 _ _ t340 _ _ t346 true _ ?side1 ?side2 ?side3 ?side4 A53.out).mono ?_); (case side1 => repeat (first | exact (Kd.R_reads' HO342.out).2.2 | (with_reducible refine Kd.C_alloc ?_ _) | (with_reducible refine Kd.C_drewN ?_ _) | (with_reducible refine Kd.C_drew ?_))); (case side2 => exact (Kd.R_reads' HO342.out).2.1); (case side3 => repeat (first | exact (Kd.R_reads' HO349.out).2.2 | (with_reducible refine Kd.C_alloc ?_ _) | (with_reducible refine Kd.C_drewN ?_ _) | (with_reducible refine Kd.C_drew ?_))); (case side4 => exact (Kd.R_reads' HO349.out).2.1); rintro e w' ⟨rfl, ⟨nd, rfl⟩⟩; obtain ⟨Ao108, co108, eo108⟩ := Kd.R_slice HO345.out; subst eo108; obtain ⟨Ao109, co109, eo109⟩ := Kd.R_slice HO351.out; subst eo109) | (go_at_call 25; (with_reducible refine (sextonref09_Same.calls kj4 _ _ t343 _ _ t347 true _ ?side1 ?side2 ?side3 ?side4 A55.out).mono ?_); (case side1 => repeat (first | exact (Kd.R_reads' HO345.out).2.2 | (with_reducible refine Kd.C_alloc ?_ _) | (with_reducible refine Kd.C_drewN ?_ _) | (with_reducible refine Kd.C_drew ?_))); (case side2 => exact (Kd.R_reads' HO345.out).2.1); (case side3 => repeat (first | exact (Kd.R_reads' HO351.out).2.2 | (with_reducible refine Kd.C_alloc ?_ _) | (with_reducible refine Kd.C_drewN ?_ _) | (with_reducible refine Kd.C_drew ?_))); (case side4 => exact (Kd.R_reads' HO351.out).2.1); rintro e w' ⟨rfl, ⟨nd, rfl⟩⟩; obtain ⟨Ao110, co110, eo110⟩ := Kd.R_slice HO354.out; subst eo110; obtain ⟨Ao111, co111, eo111⟩ := Kd.R_slice HO363.out; subst eo111) | (go_at_call 25; (with_reducible refine (sextonref09_Same.calls kj4 _ _ t352 _ _ t359 false _ ?side1 ?side2 ?side3 ?side4 A57.out).mono ?_); (case side1 => repeat (first | exact (Kd.R_reads' HO354.out).2.2 | (with_reducible refine Kd.C_alloc ?_ _) | (with_reducible refine Kd.C_drewN ?_ _) | (with_reducible refine Kd.C_drew ?_))); (case side2 => exact (Kd.R_reads' HO354.out).2.1); (case side3 => repeat (first | exact (Kd.R_reads' HO363.out).2.2 | (with_reducible refine Kd.C_alloc ?_ _) | (with_reducible refine Kd.C_drewN ?_ _) | (with_reducible refine Kd.C_drew ?_))); (case side4 => exact (Kd.R_reads' HO363.out).2.1); rintro e w' ⟨rfl, ⟨nd, rfl⟩⟩))
                        go_meet
                        case rel => exact ⟨_, (false), (by first | rfl | (simp; done) | (simp [*]; done)), H', ⟨by have := HJ4.out; first | omega | exact Nat.le_refl _⟩, ⟨by (with_reducible repeat (first | apply Kd.R_alloc | apply Kd.R_drewN | apply Kd.R_drew)); exact Kd.R_mono HO323.out (fun _ hk => ⟨hk.1.1.1.1.1.1.1.1.1.1.1.2, ⟨hk.1.1.1.1.1.1.1.1.1.2, ⟨hk.1.1.1.1.1.1.1.2, ⟨hk.1.1.1.1.1.1.2, ⟨hk.1.1.1.2, hk.1.1.1.1.1.1.1.1.1.1.1.1.2⟩⟩⟩⟩⟩)⟩, ⟨by (with_reducible repeat (first | apply Kd.R_alloc | apply Kd.R_drewN | apply Kd.R_drew)); exact Kd.R_mono HO330.out (fun _ hk => ⟨hk.1.1.1.1.1.1.1.1.1.1.1.1.2, ⟨hk.1.1.1.1.1.1.1.1.1.2, ⟨hk.1.1.1.1.1.1.1.2, ⟨hk.1.1.1.1.1.1.2, ⟨hk.1.1.1.2, hk.1.1.1.1.1.1.1.1.1.1.1.2⟩⟩⟩⟩⟩)⟩, ⟨by (with_reducible repeat (first | apply Kd.R_alloc | apply Kd.R_drewN | apply Kd.R_drew)); exact Kd.R_mono HO336.out (fun _ hk => ⟨hk.1.1.1.1.1.1.1.1.1.1.1.1.2, ⟨hk.1.1.1.1.1.1.1.1.1.1.1.2, ⟨hk.1.1.1.1.1.1.1.2, ⟨hk.1.1.1.1.1.1.2, ⟨hk.1.1.1.2, hk.1.1.1.1.1.1.1.1.1.2⟩⟩⟩⟩⟩)⟩, ⟨by (with_reducible repeat (first | apply Kd.R_alloc | apply Kd.R_drewN | apply Kd.R_drew)); exact Kd.R_mono HO342.out (fun _ hk => ⟨hk.1.1.1.1.1.1.1.1.1.1.1.2, ⟨hk.1.1.1.1.1.1.1.1.1.1.2, ⟨hk.1.1.1.1.1.1.1.1.2, ⟨hk.1.1.1.1.1.1.1.1.1.1.1.1, ⟨hk.1.1.1.2, hk.1.1.1.1.1.1.2⟩⟩⟩⟩⟩)⟩, ⟨by (with_reducible repeat (first | apply Kd.R_alloc | apply Kd.R_drewN | apply Kd.R_drew)); exact Kd.R_mono HO345.out (fun _ hk => ⟨hk.1.1.1.1.1.1.1.1.1.1.1.2, ⟨hk.1.1.1.1.1.1.1.1.1.1.2, ⟨hk.1.1.1.1.1.1.1.1.2, ⟨hk.1.1.1.1.1.1.1.1.1.1.1.1, ⟨hk.1.1.1.2, hk.1.1.1.1.1.1.2⟩⟩⟩⟩⟩)⟩, ⟨by (with_reducible repeat (first | apply Kd.R_alloc | apply Kd.R_drewN | apply Kd.R_drew)); exact Kd.R_mono HO354.out (fun _ hk => ⟨hk.1.1.1.1.1.1.1.1.1.1.1.2, ⟨hk.1.1.1.1.1.1.1.1.1.1.2, ⟨hk.1.1.1.1.1.1.1.1.2, ⟨hk.1.1.1.1.1.1.2, ⟨hk.1.1.1.1.1.2, hk.1.1.2⟩⟩⟩⟩⟩)⟩, ⟨by (with_reducible repeat (first | refine blk_drewN ?_ _ | refine blk_drew ?_ | refine blk_alloc ?_ _)); exact BK314.out⟩, ⟨by repeat (first | (with_reducible first | exact HB.out | apply below_alloc | apply pw_below_drewN | apply below_drew1 | refine below_set ?_ GE314.out) | exact HB.out)⟩⟩
                    · replace c56 := Bool.eq_false_iff.mpr c56
                      subst c56
                      have H1 : (sextonlaw09_NodeDoes.j1 kj4 l0 t321 t328 t334 t340 t343 t352 false) = some r := by rw [if_neg (show ¬ (false = true) by decide)] at H; exact H
                      clear H
                      have H := H1
                      clear H1
                      have H' := Aside0.mk H
                      clear H
                      obtain ⟨Ao112, co112, eo112⟩ := Kd.R_slice HO330.out
                      subst eo112
                      obtain ⟨Ao113, co113, eo113⟩ := Kd.R_slice HO333.out
                      subst eo113
                      go_wp2_with (first | (go_at_call 25; (with_reducible refine (sextonref09_Same.calls kj4 _ _ t328 _ _ t331 true _ ?side1 ?side2 ?side3 ?side4 A49.out).mono ?_); (case side1 => repeat (first | exact (Kd.R_reads' HO330.out).2.2 | (with_reducible refine Kd.C_alloc ?_ _) | (with_reducible refine Kd.C_drewN ?_ _) | (with_reducible refine Kd.C_drew ?_))); (case side2 => exact (Kd.R_reads' HO330.out).2.1); (case side3 => repeat (first | exact (Kd.R_reads' HO333.out).2.2 | (with_reducible refine Kd.C_alloc ?_ _) | (with_reducible refine Kd.C_drewN ?_ _) | (with_reducible refine Kd.C_drew ?_))); (case side4 => exact (Kd.R_reads' HO333.out).2.1); rintro e w' ⟨rfl, ⟨nd, rfl⟩⟩; obtain ⟨Ao114, co114, eo114⟩ := Kd.R_slice HO336.out; subst eo114; obtain ⟨Ao115, co115, eo115⟩ := Kd.R_slice HO339.out; subst eo115) | (go_at_call 25; (with_reducible refine (sextonref09_Same.calls kj4 _ _ t334 _ _ t337 true _ ?side1 ?side2 ?side3 ?side4 A51.out).mono ?_); (case side1 => repeat (first | exact (Kd.R_reads' HO336.out).2.2 | (with_reducible refine Kd.C_alloc ?_ _) | (with_reducible refine Kd.C_drewN ?_ _) | (with_reducible refine Kd.C_drew ?_))); (case side2 => exact (Kd.R_reads' HO336.out).2.1); (case side3 => repeat (first | exact (Kd.R_reads' HO339.out).2.2 | (with_reducible refine Kd.C_alloc ?_ _) | (with_reducible refine Kd.C_drewN ?_ _) | (with_reducible refine Kd.C_drew ?_))); (case side4 => exact (Kd.R_reads' HO339.out).2.1); rintro e w' ⟨rfl, ⟨nd, rfl⟩⟩; obtain ⟨Ao116, co116, eo116⟩ := Kd.R_slice HO342.out; subst eo116; obtain ⟨Ao117, co117, eo117⟩ := Kd.R_slice HO349.out; subst eo117) | (go_at_call 25; (with_reducible refine (sextonref09_Same.calls kj4 _ _ t340 _ _ t346 true _ ?side1 ?side2 ?side3 ?side4 A53.out).mono ?_); (case side1 => repeat (first | exact (Kd.R_reads' HO342.out).2.2 | (with_reducible refine Kd.C_alloc ?_ _) | (with_reducible refine Kd.C_drewN ?_ _) | (with_reducible refine Kd.C_drew ?_))); (case side2 => exact (Kd.R_reads' HO342.out).2.1); (case side3 => repeat (first | exact (Kd.R_reads' HO349.out).2.2 | (with_reducible refine Kd.C_alloc ?_ _) | (with_reducible refine Kd.C_drewN ?_ _) | (with_reducible refine Kd.C_drew ?_))); (case side4 => exact (Kd.R_reads' HO349.out).2.1); rintro e w' ⟨rfl, ⟨nd, rfl⟩⟩; obtain ⟨Ao118, co118, eo118⟩ := Kd.R_slice HO345.out; subst eo118; obtain ⟨Ao119, co119, eo119⟩ := Kd.R_slice HO351.out; subst eo119) | (go_at_call 25; (with_reducible refine (sextonref09_Same.calls kj4 _ _ t343 _ _ t347 false _ ?side1 ?side2 ?side3 ?side4 A55.out).mono ?_); (case side1 => repeat (first | exact (Kd.R_reads' HO345.out).2.2 | (with_reducible refine Kd.C_alloc ?_ _) | (with_reducible refine Kd.C_drewN ?_ _) | (with_reducible refine Kd.C_drew ?_))); (case side2 => exact (Kd.R_reads' HO345.out).2.1); (case side3 => repeat (first | exact (Kd.R_reads' HO351.out).2.2 | (with_reducible refine Kd.C_alloc ?_ _) | (with_reducible refine Kd.C_drewN ?_ _) | (with_reducible refine Kd.C_drew ?_))); (case side4 => exact (Kd.R_reads' HO351.out).2.1); rintro e w' ⟨rfl, ⟨nd, rfl⟩⟩))
                      go_meet
                      case rel => exact ⟨_, (false), (by first | rfl | (simp; done) | (simp [*]; done)), H', ⟨by have := HJ4.out; first | omega | exact Nat.le_refl _⟩, ⟨by (with_reducible repeat (first | apply Kd.R_alloc | apply Kd.R_drewN | apply Kd.R_drew)); exact Kd.R_mono HO323.out (fun _ hk => ⟨hk.1.1.1.1.1.1.1.1.1.1.1.2, ⟨hk.1.1.1.1.1.1.1.1.1.2, ⟨hk.1.1.1.1.1.1.1.2, ⟨hk.1.1.1.1.1.1.2, ⟨hk.1.1.1.2, hk.1.1.1.1.1.1.1.1.1.1.1.1.2⟩⟩⟩⟩⟩)⟩, ⟨by (with_reducible repeat (first | apply Kd.R_alloc | apply Kd.R_drewN | apply Kd.R_drew)); exact Kd.R_mono HO330.out (fun _ hk => ⟨hk.1.1.1.1.1.1.1.1.1.1.1.1.2, ⟨hk.1.1.1.1.1.1.1.1.1.2, ⟨hk.1.1.1.1.1.1.1.2, ⟨hk.1.1.1.1.1.1.2, ⟨hk.1.1.1.2, hk.1.1.1.1.1.1.1.1.1.1.1.2⟩⟩⟩⟩⟩)⟩, ⟨by (with_reducible repeat (first | apply Kd.R_alloc | apply Kd.R_drewN | apply Kd.R_drew)); exact Kd.R_mono HO336.out (fun _ hk => ⟨hk.1.1.1.1.1.1.1.1.1.1.1.1.2, ⟨hk.1.1.1.1.1.1.1.1.1.1.1.2, ⟨hk.1.1.1.1.1.1.1.2, ⟨hk.1.1.1.1.1.1.2, ⟨hk.1.1.1.2, hk.1.1.1.1.1.1.1.1.1.2⟩⟩⟩⟩⟩)⟩, ⟨by (with_reducible repeat (first | apply Kd.R_alloc | apply Kd.R_drewN | apply Kd.R_drew)); exact Kd.R_mono HO342.out (fun _ hk => ⟨hk.1.1.1.1.1.1.1.1.1.1.1.2, ⟨hk.1.1.1.1.1.1.1.1.1.1.2, ⟨hk.1.1.1.1.1.1.1.1.2, ⟨hk.1.1.1.1.1.1.1.1.1.1.1.1, ⟨hk.1.1.1.2, hk.1.1.1.1.1.1.2⟩⟩⟩⟩⟩)⟩, ⟨by (with_reducible repeat (first | apply Kd.R_alloc | apply Kd.R_drewN | apply Kd.R_drew)); exact Kd.R_mono HO345.out (fun _ hk => ⟨hk.1.1.1.1.1.1.1.1.1.1.1.2, ⟨hk.1.1.1.1.1.1.1.1.1.1.2, ⟨hk.1.1.1.1.1.1.1.1.2, ⟨hk.1.1.1.1.1.1.1.1.1.1.1.1, ⟨hk.1.1.1.2, hk.1.1.1.1.1.1.2⟩⟩⟩⟩⟩)⟩, ⟨by (with_reducible repeat (first | apply Kd.R_alloc | apply Kd.R_drewN | apply Kd.R_drew)); exact Kd.R_mono HO354.out (fun _ hk => ⟨hk.1.1.1.1.1.1.1.1.1.1.1.2, ⟨hk.1.1.1.1.1.1.1.1.1.1.2, ⟨hk.1.1.1.1.1.1.1.1.2, ⟨hk.1.1.1.1.1.1.2, ⟨hk.1.1.1.1.1.2, hk.1.1.2⟩⟩⟩⟩⟩)⟩, ⟨by (with_reducible repeat (first | refine blk_drewN ?_ _ | refine blk_drew ?_ | refine blk_alloc ?_ _)); exact BK314.out⟩, ⟨by repeat (first | (with_reducible first | exact HB.out | apply below_alloc | apply pw_below_drewN | apply below_drew1 | refine below_set ?_ GE314.out) | exact HB.out)⟩⟩
                  · replace c54 := Bool.eq_false_iff.mpr c54
                    subst c54
                    have H1 : (sextonlaw09_NodeDoes.j1 kj4 l0 t321 t328 t334 t340 t343 t352 false) = some r := by rw [if_neg (show ¬ (false = true) by decide)] at H; exact H
                    clear H
                    have H := H1
                    clear H1
                    have H' := Aside0.mk H
                    clear H
                    obtain ⟨Ao120, co120, eo120⟩ := Kd.R_slice HO330.out
                    subst eo120
                    obtain ⟨Ao121, co121, eo121⟩ := Kd.R_slice HO333.out
                    subst eo121
                    go_wp2_with (first | (go_at_call 25; (with_reducible refine (sextonref09_Same.calls kj4 _ _ t328 _ _ t331 true _ ?side1 ?side2 ?side3 ?side4 A49.out).mono ?_); (case side1 => repeat (first | exact (Kd.R_reads' HO330.out).2.2 | (with_reducible refine Kd.C_alloc ?_ _) | (with_reducible refine Kd.C_drewN ?_ _) | (with_reducible refine Kd.C_drew ?_))); (case side2 => exact (Kd.R_reads' HO330.out).2.1); (case side3 => repeat (first | exact (Kd.R_reads' HO333.out).2.2 | (with_reducible refine Kd.C_alloc ?_ _) | (with_reducible refine Kd.C_drewN ?_ _) | (with_reducible refine Kd.C_drew ?_))); (case side4 => exact (Kd.R_reads' HO333.out).2.1); rintro e w' ⟨rfl, ⟨nd, rfl⟩⟩; obtain ⟨Ao122, co122, eo122⟩ := Kd.R_slice HO336.out; subst eo122; obtain ⟨Ao123, co123, eo123⟩ := Kd.R_slice HO339.out; subst eo123) | (go_at_call 25; (with_reducible refine (sextonref09_Same.calls kj4 _ _ t334 _ _ t337 true _ ?side1 ?side2 ?side3 ?side4 A51.out).mono ?_); (case side1 => repeat (first | exact (Kd.R_reads' HO336.out).2.2 | (with_reducible refine Kd.C_alloc ?_ _) | (with_reducible refine Kd.C_drewN ?_ _) | (with_reducible refine Kd.C_drew ?_))); (case side2 => exact (Kd.R_reads' HO336.out).2.1); (case side3 => repeat (first | exact (Kd.R_reads' HO339.out).2.2 | (with_reducible refine Kd.C_alloc ?_ _) | (with_reducible refine Kd.C_drewN ?_ _) | (with_reducible refine Kd.C_drew ?_))); (case side4 => exact (Kd.R_reads' HO339.out).2.1); rintro e w' ⟨rfl, ⟨nd, rfl⟩⟩; obtain ⟨Ao124, co124, eo124⟩ := Kd.R_slice HO342.out; subst eo124; obtain ⟨Ao125, co125, eo125⟩ := Kd.R_slice HO349.out; subst eo125) | (go_at_call 25; (with_reducible refine (sextonref09_Same.calls kj4 _ _ t340 _ _ t346 false _ ?side1 ?side2 ?side3 ?side4 A53.out).mono ?_); (case side1 => repeat (first | exact (Kd.R_reads' HO342.out).2.2 | (with_reducible refine Kd.C_alloc ?_ _) | (with_reducible refine Kd.C_drewN ?_ _) | (with_reducible refine Kd.C_drew ?_))); (case side2 => exact (Kd.R_reads' HO342.out).2.1); (case side3 => repeat (first | exact (Kd.R_reads' HO349.out).2.2 | (with_reducible refine Kd.C_alloc ?_ _) | (with_reducible refine Kd.C_drewN ?_ _) | (with_reducible refine Kd.C_drew ?_))); (case side4 => exact (Kd.R_reads' HO349.out).2.1); rintro e w' ⟨rfl, ⟨nd, rfl⟩⟩))
                    go_meet
                    case rel => exact ⟨_, (false), (by first | rfl | (simp; done) | (simp [*]; done)), H', ⟨by have := HJ4.out; first | omega | exact Nat.le_refl _⟩, ⟨by (with_reducible repeat (first | apply Kd.R_alloc | apply Kd.R_drewN | apply Kd.R_drew)); exact Kd.R_mono HO323.out (fun _ hk => ⟨hk.1.1.1.1.1.1.1.1.1.1.1.2, ⟨hk.1.1.1.1.1.1.1.1.1.2, ⟨hk.1.1.1.1.1.1.1.2, ⟨hk.1.1.1.1.1.1.2, ⟨hk.1.1.1.2, hk.1.1.1.1.1.1.1.1.1.1.1.1.2⟩⟩⟩⟩⟩)⟩, ⟨by (with_reducible repeat (first | apply Kd.R_alloc | apply Kd.R_drewN | apply Kd.R_drew)); exact Kd.R_mono HO330.out (fun _ hk => ⟨hk.1.1.1.1.1.1.1.1.1.1.1.1.2, ⟨hk.1.1.1.1.1.1.1.1.1.2, ⟨hk.1.1.1.1.1.1.1.2, ⟨hk.1.1.1.1.1.1.2, ⟨hk.1.1.1.2, hk.1.1.1.1.1.1.1.1.1.1.1.2⟩⟩⟩⟩⟩)⟩, ⟨by (with_reducible repeat (first | apply Kd.R_alloc | apply Kd.R_drewN | apply Kd.R_drew)); exact Kd.R_mono HO336.out (fun _ hk => ⟨hk.1.1.1.1.1.1.1.1.1.1.1.1.2, ⟨hk.1.1.1.1.1.1.1.1.1.1.1.2, ⟨hk.1.1.1.1.1.1.1.2, ⟨hk.1.1.1.1.1.1.2, ⟨hk.1.1.1.2, hk.1.1.1.1.1.1.1.1.1.2⟩⟩⟩⟩⟩)⟩, ⟨by (with_reducible repeat (first | apply Kd.R_alloc | apply Kd.R_drewN | apply Kd.R_drew)); exact Kd.R_mono HO342.out (fun _ hk => ⟨hk.1.1.1.1.1.1.1.1.1.1.1.2, ⟨hk.1.1.1.1.1.1.1.1.1.1.2, ⟨hk.1.1.1.1.1.1.1.1.2, ⟨hk.1.1.1.1.1.1.1.1.1.1.1.1, ⟨hk.1.1.1.2, hk.1.1.1.1.1.1.2⟩⟩⟩⟩⟩)⟩, ⟨by (with_reducible repeat (first | apply Kd.R_alloc | apply Kd.R_drewN | apply Kd.R_drew)); exact Kd.R_mono HO345.out (fun _ hk => ⟨hk.1.1.1.1.1.1.1.1.1.1.1.2, ⟨hk.1.1.1.1.1.1.1.1.1.1.2, ⟨hk.1.1.1.1.1.1.1.1.2, ⟨hk.1.1.1.1.1.1.1.1.1.1.1.1, ⟨hk.1.1.1.2, hk.1.1.1.1.1.1.2⟩⟩⟩⟩⟩)⟩, ⟨by (with_reducible repeat (first | apply Kd.R_alloc | apply Kd.R_drewN | apply Kd.R_drew)); exact Kd.R_mono HO354.out (fun _ hk => ⟨hk.1.1.1.1.1.1.1.1.1.1.1.2, ⟨hk.1.1.1.1.1.1.1.1.1.1.2, ⟨hk.1.1.1.1.1.1.1.1.2, ⟨hk.1.1.1.1.1.1.2, ⟨hk.1.1.1.1.1.2, hk.1.1.2⟩⟩⟩⟩⟩)⟩, ⟨by (with_reducible repeat (first | refine blk_drewN ?_ _ | refine blk_drew ?_ | refine blk_alloc ?_ _)); exact BK314.out⟩, ⟨by repeat (first | (with_reducible first | exact HB.out | apply below_alloc | apply pw_below_drewN | apply below_drew1 | refine below_set ?_ GE314.out) | exact HB.out)⟩⟩
                · replace c52 := Bool.eq_false_iff.mpr c52
                  subst c52
                  have H1 : (sextonlaw09_NodeDoes.j1 kj4 l0 t321 t328 t334 t340 t343 t352 false) = some r := by rw [if_neg (show ¬ (false = true) by decide)] at H; exact H
                  clear H
                  have H := H1
                  clear H1
                  have H' := Aside0.mk H
                  clear H
                  obtain ⟨Ao126, co126, eo126⟩ := Kd.R_slice HO330.out
                  subst eo126
                  obtain ⟨Ao127, co127, eo127⟩ := Kd.R_slice HO333.out
                  subst eo127
                  go_wp2_with (first | (go_at_call 25; (with_reducible refine (sextonref09_Same.calls kj4 _ _ t328 _ _ t331 true _ ?side1 ?side2 ?side3 ?side4 A49.out).mono ?_); (case side1 => repeat (first | exact (Kd.R_reads' HO330.out).2.2 | (with_reducible refine Kd.C_alloc ?_ _) | (with_reducible refine Kd.C_drewN ?_ _) | (with_reducible refine Kd.C_drew ?_))); (case side2 => exact (Kd.R_reads' HO330.out).2.1); (case side3 => repeat (first | exact (Kd.R_reads' HO333.out).2.2 | (with_reducible refine Kd.C_alloc ?_ _) | (with_reducible refine Kd.C_drewN ?_ _) | (with_reducible refine Kd.C_drew ?_))); (case side4 => exact (Kd.R_reads' HO333.out).2.1); rintro e w' ⟨rfl, ⟨nd, rfl⟩⟩; obtain ⟨Ao128, co128, eo128⟩ := Kd.R_slice HO336.out; subst eo128; obtain ⟨Ao129, co129, eo129⟩ := Kd.R_slice HO339.out; subst eo129) | (go_at_call 25; (with_reducible refine (sextonref09_Same.calls kj4 _ _ t334 _ _ t337 false _ ?side1 ?side2 ?side3 ?side4 A51.out).mono ?_); (case side1 => repeat (first | exact (Kd.R_reads' HO336.out).2.2 | (with_reducible refine Kd.C_alloc ?_ _) | (with_reducible refine Kd.C_drewN ?_ _) | (with_reducible refine Kd.C_drew ?_))); (case side2 => exact (Kd.R_reads' HO336.out).2.1); (case side3 => repeat (first | exact (Kd.R_reads' HO339.out).2.2 | (with_reducible refine Kd.C_alloc ?_ _) | (with_reducible refine Kd.C_drewN ?_ _) | (with_reducible refine Kd.C_drew ?_))); (case side4 => exact (Kd.R_reads' HO339.out).2.1); rintro e w' ⟨rfl, ⟨nd, rfl⟩⟩))
                  go_meet
                  case rel => exact ⟨_, (false), (by first | rfl | (simp; done) | (simp [*]; done)), H', ⟨by have := HJ4.out; first | omega | exact Nat.le_refl _⟩, ⟨by (with_reducible repeat (first | apply Kd.R_alloc | apply Kd.R_drewN | apply Kd.R_drew)); exact Kd.R_mono HO323.out (fun _ hk => ⟨hk.1.1.1.1.1.1.1.1.1.1.1.2, ⟨hk.1.1.1.1.1.1.1.1.1.2, ⟨hk.1.1.1.1.1.1.1.2, ⟨hk.1.1.1.1.1.1.2, ⟨hk.1.1.1.2, hk.1.1.1.1.1.1.1.1.1.1.1.1.2⟩⟩⟩⟩⟩)⟩, ⟨by (with_reducible repeat (first | apply Kd.R_alloc | apply Kd.R_drewN | apply Kd.R_drew)); exact Kd.R_mono HO330.out (fun _ hk => ⟨hk.1.1.1.1.1.1.1.1.1.1.1.1.2, ⟨hk.1.1.1.1.1.1.1.1.1.2, ⟨hk.1.1.1.1.1.1.1.2, ⟨hk.1.1.1.1.1.1.2, ⟨hk.1.1.1.2, hk.1.1.1.1.1.1.1.1.1.1.1.2⟩⟩⟩⟩⟩)⟩, ⟨by (with_reducible repeat (first | apply Kd.R_alloc | apply Kd.R_drewN | apply Kd.R_drew)); exact Kd.R_mono HO336.out (fun _ hk => ⟨hk.1.1.1.1.1.1.1.1.1.1.1.1.2, ⟨hk.1.1.1.1.1.1.1.1.1.1.1.2, ⟨hk.1.1.1.1.1.1.1.2, ⟨hk.1.1.1.1.1.1.2, ⟨hk.1.1.1.2, hk.1.1.1.1.1.1.1.1.1.2⟩⟩⟩⟩⟩)⟩, ⟨by (with_reducible repeat (first | apply Kd.R_alloc | apply Kd.R_drewN | apply Kd.R_drew)); exact Kd.R_mono HO342.out (fun _ hk => ⟨hk.1.1.1.1.1.1.1.1.1.1.1.2, ⟨hk.1.1.1.1.1.1.1.1.1.1.2, ⟨hk.1.1.1.1.1.1.1.1.2, ⟨hk.1.1.1.1.1.1.1.1.1.1.1.1, ⟨hk.1.1.1.2, hk.1.1.1.1.1.1.2⟩⟩⟩⟩⟩)⟩, ⟨by (with_reducible repeat (first | apply Kd.R_alloc | apply Kd.R_drewN | apply Kd.R_drew)); exact Kd.R_mono HO345.out (fun _ hk => ⟨hk.1.1.1.1.1.1.1.1.1.1.1.2, ⟨hk.1.1.1.1.1.1.1.1.1.1.2, ⟨hk.1.1.1.1.1.1.1.1.2, ⟨hk.1.1.1.1.1.1.1.1.1.1.1.1, ⟨hk.1.1.1.2, hk.1.1.1.1.1.1.2⟩⟩⟩⟩⟩)⟩, ⟨by (with_reducible repeat (first | apply Kd.R_alloc | apply Kd.R_drewN | apply Kd.R_drew)); exact Kd.R_mono HO354.out (fun _ hk => ⟨hk.1.1.1.1.1.1.1.1.1.1.1.2, ⟨hk.1.1.1.1.1.1.1.1.1.1.2, ⟨hk.1.1.1.1.1.1.1.1.2, ⟨hk.1.1.1.1.1.1.2, ⟨hk.1.1.1.1.1.2, hk.1.1.2⟩⟩⟩⟩⟩)⟩, ⟨by (with_reducible repeat (first | refine blk_drewN ?_ _ | refine blk_drew ?_ | refine blk_alloc ?_ _)); exact BK314.out⟩, ⟨by repeat (first | (with_reducible first | exact HB.out | apply below_alloc | apply pw_below_drewN | apply below_drew1 | refine below_set ?_ GE314.out) | exact HB.out)⟩⟩
              · replace c50 := Bool.eq_false_iff.mpr c50
                subst c50
                have H1 : (sextonlaw09_NodeDoes.j1 kj4 l0 t321 t328 t334 t340 t343 t352 false) = some r := by rw [if_neg (show ¬ (false = true) by decide)] at H; exact H
                clear H
                have H := H1
                clear H1
                have H' := Aside0.mk H
                clear H
                obtain ⟨Ao130, co130, eo130⟩ := Kd.R_slice HO330.out
                subst eo130
                obtain ⟨Ao131, co131, eo131⟩ := Kd.R_slice HO333.out
                subst eo131
                go_wp2_with (first | (go_at_call 25; (with_reducible refine (sextonref09_Same.calls kj4 _ _ t328 _ _ t331 false _ ?side1 ?side2 ?side3 ?side4 A49.out).mono ?_); (case side1 => repeat (first | exact (Kd.R_reads' HO330.out).2.2 | (with_reducible refine Kd.C_alloc ?_ _) | (with_reducible refine Kd.C_drewN ?_ _) | (with_reducible refine Kd.C_drew ?_))); (case side2 => exact (Kd.R_reads' HO330.out).2.1); (case side3 => repeat (first | exact (Kd.R_reads' HO333.out).2.2 | (with_reducible refine Kd.C_alloc ?_ _) | (with_reducible refine Kd.C_drewN ?_ _) | (with_reducible refine Kd.C_drew ?_))); (case side4 => exact (Kd.R_reads' HO333.out).2.1); rintro e w' ⟨rfl, ⟨nd, rfl⟩⟩))
                go_meet
                case rel => exact ⟨_, (false), (by first | rfl | (simp; done) | (simp [*]; done)), H', ⟨by have := HJ4.out; first | omega | exact Nat.le_refl _⟩, ⟨by (with_reducible repeat (first | apply Kd.R_alloc | apply Kd.R_drewN | apply Kd.R_drew)); exact Kd.R_mono HO323.out (fun _ hk => ⟨hk.1.1.1.1.1.1.1.1.1.1.1.2, ⟨hk.1.1.1.1.1.1.1.1.1.2, ⟨hk.1.1.1.1.1.1.1.2, ⟨hk.1.1.1.1.1.1.2, ⟨hk.1.1.1.2, hk.1.1.1.1.1.1.1.1.1.1.1.1.2⟩⟩⟩⟩⟩)⟩, ⟨by (with_reducible repeat (first | apply Kd.R_alloc | apply Kd.R_drewN | apply Kd.R_drew)); exact Kd.R_mono HO330.out (fun _ hk => ⟨hk.1.1.1.1.1.1.1.1.1.1.1.1.2, ⟨hk.1.1.1.1.1.1.1.1.1.2, ⟨hk.1.1.1.1.1.1.1.2, ⟨hk.1.1.1.1.1.1.2, ⟨hk.1.1.1.2, hk.1.1.1.1.1.1.1.1.1.1.1.2⟩⟩⟩⟩⟩)⟩, ⟨by (with_reducible repeat (first | apply Kd.R_alloc | apply Kd.R_drewN | apply Kd.R_drew)); exact Kd.R_mono HO336.out (fun _ hk => ⟨hk.1.1.1.1.1.1.1.1.1.1.1.1.2, ⟨hk.1.1.1.1.1.1.1.1.1.1.1.2, ⟨hk.1.1.1.1.1.1.1.2, ⟨hk.1.1.1.1.1.1.2, ⟨hk.1.1.1.2, hk.1.1.1.1.1.1.1.1.1.2⟩⟩⟩⟩⟩)⟩, ⟨by (with_reducible repeat (first | apply Kd.R_alloc | apply Kd.R_drewN | apply Kd.R_drew)); exact Kd.R_mono HO342.out (fun _ hk => ⟨hk.1.1.1.1.1.1.1.1.1.1.1.2, ⟨hk.1.1.1.1.1.1.1.1.1.1.2, ⟨hk.1.1.1.1.1.1.1.1.2, ⟨hk.1.1.1.1.1.1.1.1.1.1.1.1, ⟨hk.1.1.1.2, hk.1.1.1.1.1.1.2⟩⟩⟩⟩⟩)⟩, ⟨by (with_reducible repeat (first | apply Kd.R_alloc | apply Kd.R_drewN | apply Kd.R_drew)); exact Kd.R_mono HO345.out (fun _ hk => ⟨hk.1.1.1.1.1.1.1.1.1.1.1.2, ⟨hk.1.1.1.1.1.1.1.1.1.1.2, ⟨hk.1.1.1.1.1.1.1.1.2, ⟨hk.1.1.1.1.1.1.1.1.1.1.1.1, ⟨hk.1.1.1.2, hk.1.1.1.1.1.1.2⟩⟩⟩⟩⟩)⟩, ⟨by (with_reducible repeat (first | apply Kd.R_alloc | apply Kd.R_drewN | apply Kd.R_drew)); exact Kd.R_mono HO354.out (fun _ hk => ⟨hk.1.1.1.1.1.1.1.1.1.1.1.2, ⟨hk.1.1.1.1.1.1.1.1.1.1.2, ⟨hk.1.1.1.1.1.1.1.1.2, ⟨hk.1.1.1.1.1.1.2, ⟨hk.1.1.1.1.1.2, hk.1.1.2⟩⟩⟩⟩⟩)⟩, ⟨by (with_reducible repeat (first | refine blk_drewN ?_ _ | refine blk_drew ?_ | refine blk_alloc ?_ _)); exact BK314.out⟩, ⟨by repeat (first | (with_reducible first | exact HB.out | apply below_alloc | apply pw_below_drewN | apply below_drew1 | refine below_set ?_ GE314.out) | exact HB.out)⟩⟩
            · rw [if_neg c48] at H
              have c48b0 : (t325 == t327) = false := by simpa using c48
              (try (have c48b1 : decide (t325 = t327) = false := by simpa using c48))
              (try (have c48b2 : (t325 == t327) = false := by simpa using c48))
              (try (have c48b3 : ¬ (t325 = t327) := by simpa using c48))
              clear c48
              have H' := Aside0.mk H
              clear H
              go_wp2
              go_meet
              case rel => exact ⟨_, (false), (by first | rfl | (simp; done) | (simp [*]; done)), H', ⟨by have := HJ4.out; first | omega | exact Nat.le_refl _⟩, ⟨by (with_reducible repeat (first | apply Kd.R_alloc | apply Kd.R_drewN | apply Kd.R_drew)); exact Kd.R_mono HO323.out (fun _ hk => ⟨hk.1.1.1.1.1.1.1.1.1.1.1.2, ⟨hk.1.1.1.1.1.1.1.1.1.2, ⟨hk.1.1.1.1.1.1.1.2, ⟨hk.1.1.1.1.1.1.2, ⟨hk.1.1.1.2, hk.1.1.1.1.1.1.1.1.1.1.1.1.2⟩⟩⟩⟩⟩)⟩, ⟨by (with_reducible repeat (first | apply Kd.R_alloc | apply Kd.R_drewN | apply Kd.R_drew)); exact Kd.R_mono HO330.out (fun _ hk => ⟨hk.1.1.1.1.1.1.1.1.1.1.1.1.2, ⟨hk.1.1.1.1.1.1.1.1.1.2, ⟨hk.1.1.1.1.1.1.1.2, ⟨hk.1.1.1.1.1.1.2, ⟨hk.1.1.1.2, hk.1.1.1.1.1.1.1.1.1.1.1.2⟩⟩⟩⟩⟩)⟩, ⟨by (with_reducible repeat (first | apply Kd.R_alloc | apply Kd.R_drewN | apply Kd.R_drew)); exact Kd.R_mono HO336.out (fun _ hk => ⟨hk.1.1.1.1.1.1.1.1.1.1.1.1.2, ⟨hk.1.1.1.1.1.1.1.1.1.1.1.2, ⟨hk.1.1.1.1.1.1.1.2, ⟨hk.1.1.1.1.1.1.2, ⟨hk.1.1.1.2, hk.1.1.1.1.1.1.1.1.1.2⟩⟩⟩⟩⟩)⟩, ⟨by (with_reducible repeat (first | apply Kd.R_alloc | apply Kd.R_drewN | apply Kd.R_drew)); exact Kd.R_mono HO342.out (fun _ hk => ⟨hk.1.1.1.1.1.1.1.1.1.1.1.2, ⟨hk.1.1.1.1.1.1.1.1.1.1.2, ⟨hk.1.1.1.1.1.1.1.1.2, ⟨hk.1.1.1.1.1.1.1.1.1.1.1.1, ⟨hk.1.1.1.2, hk.1.1.1.1.1.1.2⟩⟩⟩⟩⟩)⟩, ⟨by (with_reducible repeat (first | apply Kd.R_alloc | apply Kd.R_drewN | apply Kd.R_drew)); exact Kd.R_mono HO345.out (fun _ hk => ⟨hk.1.1.1.1.1.1.1.1.1.1.1.2, ⟨hk.1.1.1.1.1.1.1.1.1.1.2, ⟨hk.1.1.1.1.1.1.1.1.2, ⟨hk.1.1.1.1.1.1.1.1.1.1.1.1, ⟨hk.1.1.1.2, hk.1.1.1.1.1.1.2⟩⟩⟩⟩⟩)⟩, ⟨by (with_reducible repeat (first | apply Kd.R_alloc | apply Kd.R_drewN | apply Kd.R_drew)); exact Kd.R_mono HO354.out (fun _ hk => ⟨hk.1.1.1.1.1.1.1.1.1.1.1.2, ⟨hk.1.1.1.1.1.1.1.1.1.1.2, ⟨hk.1.1.1.1.1.1.1.1.2, ⟨hk.1.1.1.1.1.1.2, ⟨hk.1.1.1.1.1.2, hk.1.1.2⟩⟩⟩⟩⟩)⟩, ⟨by (with_reducible repeat (first | refine blk_drewN ?_ _ | refine blk_drew ?_ | refine blk_alloc ?_ _)); exact BK314.out⟩, ⟨by repeat (first | (with_reducible first | exact HB.out | apply below_alloc | apply pw_below_drewN | apply below_drew1 | refine below_set ?_ GE314.out) | exact HB.out)⟩⟩
          · rw [if_neg c47] at H
            have c47b0 : (t324 == t326) = false := beq_eq_false_iff_ne.mpr c47
            have c47b1 : (t324 != t326) = true := bne_iff_ne.mpr c47
            (first | rw [c47b0] | (simp only [i64_w, i32_w]; rw [c47b0]) | skip)
            have H' := Aside0.mk H
            clear H
            go_wp2
            go_meet
            case rel => exact ⟨_, (false), (by first | rfl | (simp; done) | (simp [*]; done)), H', ⟨by have := HJ4.out; first | omega | exact Nat.le_refl _⟩, ⟨by (with_reducible repeat (first | apply Kd.R_alloc | apply Kd.R_drewN | apply Kd.R_drew)); exact Kd.R_mono HO323.out (fun _ hk => ⟨hk.1.1.1.1.1.1.1.1.1.1.1.2, ⟨hk.1.1.1.1.1.1.1.1.1.2, ⟨hk.1.1.1.1.1.1.1.2, ⟨hk.1.1.1.1.1.1.2, ⟨hk.1.1.1.2, hk.1.1.1.1.1.1.1.1.1.1.1.1.2⟩⟩⟩⟩⟩)⟩, ⟨by (with_reducible repeat (first | apply Kd.R_alloc | apply Kd.R_drewN | apply Kd.R_drew)); exact Kd.R_mono HO330.out (fun _ hk => ⟨hk.1.1.1.1.1.1.1.1.1.1.1.1.2, ⟨hk.1.1.1.1.1.1.1.1.1.2, ⟨hk.1.1.1.1.1.1.1.2, ⟨hk.1.1.1.1.1.1.2, ⟨hk.1.1.1.2, hk.1.1.1.1.1.1.1.1.1.1.1.2⟩⟩⟩⟩⟩)⟩, ⟨by (with_reducible repeat (first | apply Kd.R_alloc | apply Kd.R_drewN | apply Kd.R_drew)); exact Kd.R_mono HO336.out (fun _ hk => ⟨hk.1.1.1.1.1.1.1.1.1.1.1.1.2, ⟨hk.1.1.1.1.1.1.1.1.1.1.1.2, ⟨hk.1.1.1.1.1.1.1.2, ⟨hk.1.1.1.1.1.1.2, ⟨hk.1.1.1.2, hk.1.1.1.1.1.1.1.1.1.2⟩⟩⟩⟩⟩)⟩, ⟨by (with_reducible repeat (first | apply Kd.R_alloc | apply Kd.R_drewN | apply Kd.R_drew)); exact Kd.R_mono HO342.out (fun _ hk => ⟨hk.1.1.1.1.1.1.1.1.1.1.1.2, ⟨hk.1.1.1.1.1.1.1.1.1.1.2, ⟨hk.1.1.1.1.1.1.1.1.2, ⟨hk.1.1.1.1.1.1.1.1.1.1.1.1, ⟨hk.1.1.1.2, hk.1.1.1.1.1.1.2⟩⟩⟩⟩⟩)⟩, ⟨by (with_reducible repeat (first | apply Kd.R_alloc | apply Kd.R_drewN | apply Kd.R_drew)); exact Kd.R_mono HO345.out (fun _ hk => ⟨hk.1.1.1.1.1.1.1.1.1.1.1.2, ⟨hk.1.1.1.1.1.1.1.1.1.1.2, ⟨hk.1.1.1.1.1.1.1.1.2, ⟨hk.1.1.1.1.1.1.1.1.1.1.1.1, ⟨hk.1.1.1.2, hk.1.1.1.1.1.1.2⟩⟩⟩⟩⟩)⟩, ⟨by (with_reducible repeat (first | apply Kd.R_alloc | apply Kd.R_drewN | apply Kd.R_drew)); exact Kd.R_mono HO354.out (fun _ hk => ⟨hk.1.1.1.1.1.1.1.1.1.1.1.2, ⟨hk.1.1.1.1.1.1.1.1.1.1.2, ⟨hk.1.1.1.1.1.1.1.1.2, ⟨hk.1.1.1.1.1.1.2, ⟨hk.1.1.1.1.1.2, hk.1.1.2⟩⟩⟩⟩⟩)⟩, ⟨by (with_reducible repeat (first | refine blk_drewN ?_ _ | refine blk_drew ?_ | refine blk_alloc ?_ _)); exact BK314.out⟩, ⟨by repeat (first | (with_reducible first | exact HB.out | apply below_alloc | apply pw_below_drewN | apply below_drew1 | refine below_set ?_ GE314.out) | exact HB.out)⟩⟩
        case rest =>
          clear HC28
          try clear c1
          try clear c2
          try clear p2
          try clear c3
          try clear c4
          try clear c5
          try clear c6
          try clear c8
          try clear c10
          try clear c13
          try clear c14
          try clear c15
          try clear c16
          try clear c17
          try clear c18
          try clear c19
          try clear c20
          try clear c21
          try clear c22
          try clear c23
          try clear c24
          try clear c47
          try clear c47b0
          try clear c47b1
          try clear c48
          try clear c48b0
          try clear c48b1
          try clear c48b2
          try clear c50
          try clear c52
          try clear c54
          try clear c56
          try clear c58
          try clear c60
          try clear c61
          try clear c61b0
          try clear c61b1
          try clear hcz12_0
          try clear hcz12_1
          try clear hcz12_2
          try clear hcz30_0
          try clear hcz30_1
          try clear hcz30_2
          try clear hcz32_0
          try clear hcz32_1
          try clear hcz32_2
          try clear hcz35_0
          try clear hcz35_1
          try clear hcz35_2
          try clear hcz37_0
          try clear hcz37_1
          try clear hcz37_2
          try clear hcz39_0
          try clear hcz39_1
          try clear hcz39_2
          try clear hcz41_0
          try clear hcz41_1
          try clear hcz41_2
          try clear hfz12_0
          try clear hfz12_1
          try clear hfz12_2
          try clear hfz30_0
          try clear hfz30_1
          try clear hfz30_2
          try clear hfz32_0
          try clear hfz32_1
          try clear hfz32_2
          try clear hfz35_0
          try clear hfz35_1
          try clear hfz35_2
          try clear hfz37_0
          try clear hfz37_1
          try clear hfz37_2
          try clear hfz39_0
          try clear hfz39_1
          try clear hfz39_2
          try clear hfz41_0
          try clear hfz41_1
          try clear hfz41_2
          try clear p2
          obtain ⟨kq, x28_27, rfl, HA, HJ27, HO_9, HO_14, HO_16, HO_18, HO_19, HO_22, BK314, HB⟩ := hcut
          cases kq with
          | zero => exact absurd HA.out (by simp [sextonlaw09_NodeDoes.j1])
          | succ kj27 =>
            have H := HA.out
            clear HA
            simp only [sextonlaw09_NodeDoes.j1] at H
            replace H := Option.bind_eq_some_iff.mp H
            obtain ⟨t374, A1320, H⟩ := H
            replace H : ((sextonlaw09_smudge.f kj27 t334).bind fun t375 => ((sextonlaw09_smudge.f kj27 t340).bind fun t376 => ((sextonlaw09_smudge.f kj27 t343).bind fun t377 => ((sextonlaw09_smudge.f kj27 t352).bind fun t378 => ((sextonlaw09_nodes.f).bind fun t379 => (if t379 = true then (if x28_27 = true then ((sextonref09_Same.f kj27 l0 t321).bind fun t380 => (some t380)) else (some false)) else (some false))))))) = some r := H
            have A132 := Aside0.mk A1320
            clear A1320
            replace H := Option.bind_eq_some_iff.mp H
            obtain ⟨t375, A1330, H⟩ := H
            replace H : ((sextonlaw09_smudge.f kj27 t340).bind fun t376 => ((sextonlaw09_smudge.f kj27 t343).bind fun t377 => ((sextonlaw09_smudge.f kj27 t352).bind fun t378 => ((sextonlaw09_nodes.f).bind fun t379 => (if t379 = true then (if x28_27 = true then ((sextonref09_Same.f kj27 l0 t321).bind fun t380 => (some t380)) else (some false)) else (some false)))))) = some r := H
            have A133 := Aside0.mk A1330
            clear A1330
            replace H := Option.bind_eq_some_iff.mp H
            obtain ⟨t376, A1340, H⟩ := H
            replace H : ((sextonlaw09_smudge.f kj27 t343).bind fun t377 => ((sextonlaw09_smudge.f kj27 t352).bind fun t378 => ((sextonlaw09_nodes.f).bind fun t379 => (if t379 = true then (if x28_27 = true then ((sextonref09_Same.f kj27 l0 t321).bind fun t380 => (some t380)) else (some false)) else (some false))))) = some r := H
            have A134 := Aside0.mk A1340
            clear A1340
            replace H := Option.bind_eq_some_iff.mp H
            obtain ⟨t377, A1350, H⟩ := H
            replace H : ((sextonlaw09_smudge.f kj27 t352).bind fun t378 => ((sextonlaw09_nodes.f).bind fun t379 => (if t379 = true then (if x28_27 = true then ((sextonref09_Same.f kj27 l0 t321).bind fun t380 => (some t380)) else (some false)) else (some false)))) = some r := H
            have A135 := Aside0.mk A1350
            clear A1350
            replace H := Option.bind_eq_some_iff.mp H
            obtain ⟨t378, A1360, H⟩ := H
            replace H : ((sextonlaw09_nodes.f).bind fun t379 => (if t379 = true then (if x28_27 = true then ((sextonref09_Same.f kj27 l0 t321).bind fun t380 => (some t380)) else (some false)) else (some false))) = some r := H
            have A136 := Aside0.mk A1360
            clear A1360
            replace H := Option.bind_eq_some_iff.mp H
            obtain ⟨t379, A1370, H⟩ := H
            replace H : (if t379 = true then (if x28_27 = true then ((sextonref09_Same.f kj27 l0 t321).bind fun t380 => (some t380)) else (some false)) else (some false)) = some r := H
            have A137 := Aside0.mk A1370
            clear A1370
            by_cases c138 : t379 = true
            · subst c138
              have H1 : (if x28_27 = true then ((sextonref09_Same.f kj27 l0 t321).bind fun t380 => (some t380)) else (some false)) = some r := by rw [if_pos rfl] at H; exact H
              clear H
              have H := H1
              clear H1
              by_cases c139 : x28_27 = true
              · subst c139
                have H1 : ((sextonref09_Same.f kj27 l0 t321).bind fun t380 => (some t380)) = some r := by rw [if_pos rfl] at H; exact H
                clear H
                have H := H1
                clear H1
                replace H := Option.bind_eq_some_iff.mp H
                obtain ⟨t380, A1400, H⟩ := H
                replace H : (some t380) = some r := H
                have A140 := Aside0.mk A1400
                clear A1400
                obtain rfl := Option.some.inj H
                obtain ⟨Ao141, co141, eo141⟩ := Kd.R_slice HO_14.out
                subst eo141
                go_wp2_with (first | ((with_reducible refine gate_callee (f := 28) rfl ?_); refine goesL_ (some 147) rfl rfl Try.func28 (by kernel_rfl) rfl #[.slice Ao141 t328.length co141] rfl (by (try simp only [List.map_toArray, List.map_cons, List.map_nil]); first | done | rfl | (simp only [List.length_drop, List.length_take]; rfl)) ?_; (with_reducible refine (sextonlaw09_smudge.calls kj27 (fun k_ => some k_ = (.slice Ao141 t328.length co141 : Value).ownBlock) (.slice Ao141 t328.length co141) t328 t374 w _ ?side1 ?side2 A132.out).mono ?_); (case side1 => repeat (first | (with_reducible first | exact HB.out | apply below_alloc | apply pw_below_drewN | apply below_drew1 | refine below_set ?_ GE314.out) | exact HB.out)); (case side2 => exact Kd.R_tight rfl HO_14.out); rintro e w142 ⟨rfl, hy0, hb, hkp⟩; refine ⟨_, rfl, ?_⟩; have n0_ := Aside0.mk (Kd.R_mono (ok' := fun k_ => some k_ ≠ (.slice Ao141 t328.length co141 : Value).ownBlock ∧ some k_ ≠ (v335 : Value).ownBlock ∧ some k_ ≠ (v341 : Value).ownBlock ∧ some k_ ≠ (v344 : Value).ownBlock ∧ some k_ ≠ (v353 : Value).ownBlock ∧ k_ ≠ gb314) (Kd.R_keptB (HO_9.out) hkp (fun k_ hk_ hs_ => (hk_.1) hs_)) (fun k_ hk_ => ⟨hk_.1.1, hk_.1.2.1, hk_.1.2.2.1, hk_.1.2.2.2.1, hk_.1.2.2.2.2.1, hk_.1.2.2.2.2.2⟩)); have n1_ := Aside0.mk (Kd.R_reok rfl hy0 (fun k_ e_ => HO_14.out.1 k_ e_)); have n2_ := Aside0.mk (Kd.R_mono (ok' := fun k_ => some k_ ≠ (.slice Ao33 t321.length co33 : Value).ownBlock ∧ some k_ ≠ (.slice Ao141 t328.length co141 : Value).ownBlock ∧ some k_ ≠ (v341 : Value).ownBlock ∧ some k_ ≠ (v344 : Value).ownBlock ∧ some k_ ≠ (v353 : Value).ownBlock ∧ k_ ≠ gb314) (Kd.R_keptB (HO_16.out) hkp (fun k_ hk_ hs_ => (hk_.2.1) hs_)) (fun k_ hk_ => ⟨hk_.1.1, hk_.1.2.1, hk_.1.2.2.1, hk_.1.2.2.2.1, hk_.1.2.2.2.2.1, hk_.1.2.2.2.2.2⟩)); have n3_ := Aside0.mk (Kd.R_mono (ok' := fun k_ => some k_ ≠ (.slice Ao33 t321.length co33 : Value).ownBlock ∧ some k_ ≠ (.slice Ao141 t328.length co141 : Value).ownBlock ∧ some k_ ≠ (v335 : Value).ownBlock ∧ some k_ ≠ (v344 : Value).ownBlock ∧ some k_ ≠ (v353 : Value).ownBlock ∧ k_ ≠ gb314) (Kd.R_keptB (HO_18.out) hkp (fun k_ hk_ hs_ => (hk_.2.1) hs_)) (fun k_ hk_ => ⟨hk_.1.1, hk_.1.2.1, hk_.1.2.2.1, hk_.1.2.2.2.1, hk_.1.2.2.2.2.1, hk_.1.2.2.2.2.2⟩)); have n4_ := Aside0.mk (Kd.R_mono (ok' := fun k_ => some k_ ≠ (.slice Ao33 t321.length co33 : Value).ownBlock ∧ some k_ ≠ (.slice Ao141 t328.length co141 : Value).ownBlock ∧ some k_ ≠ (v335 : Value).ownBlock ∧ some k_ ≠ (v341 : Value).ownBlock ∧ some k_ ≠ (v353 : Value).ownBlock ∧ k_ ≠ gb314) (Kd.R_keptB (HO_19.out) hkp (fun k_ hk_ hs_ => (hk_.2.1) hs_)) (fun k_ hk_ => ⟨hk_.1.1, hk_.1.2.1, hk_.1.2.2.1, hk_.1.2.2.2.1, hk_.1.2.2.2.2.1, hk_.1.2.2.2.2.2⟩)); have n5_ := Aside0.mk (Kd.R_mono (ok' := fun k_ => some k_ ≠ (.slice Ao33 t321.length co33 : Value).ownBlock ∧ some k_ ≠ (.slice Ao141 t328.length co141 : Value).ownBlock ∧ some k_ ≠ (v335 : Value).ownBlock ∧ some k_ ≠ (v341 : Value).ownBlock ∧ some k_ ≠ (v344 : Value).ownBlock ∧ k_ ≠ gb314) (Kd.R_keptB (HO_22.out) hkp (fun k_ hk_ hs_ => (hk_.2.1) hs_)) (fun k_ hk_ => ⟨hk_.1.1, hk_.1.2.1, hk_.1.2.2.1, hk_.1.2.2.2.1, hk_.1.2.2.2.2.1, hk_.1.2.2.2.2.2⟩)); have n6_ := Aside0.mk (blk_kept (by (with_reducible repeat (first | refine blk_drewN ?_ _ | refine blk_drew ?_ | refine blk_alloc ?_ _)); exact BK314.out) hkp (fun hs_ => (fun e_ => (Kd.R_away HO_14.out (fun _ hk => hk.2.2.2.2.2)) e_) hs_)); have n7_ := Aside0.mk (hb); clear HO_9; clear HO_14; clear HO_16; clear HO_18; clear HO_19; clear HO_22; clear BK314; clear HB; have HO_9 := n0_; have HO_14 := n1_; have HO_16 := n2_; have HO_18 := n3_; have HO_19 := n4_; have HO_22 := n5_; have BK314 := n6_; have HB := n7_; clear n0_ n1_ n2_ n3_ n4_ n5_ n6_ n7_; (try clear hb); (try clear hkp); (try clear hy0); obtain ⟨Ao143, co143, eo143⟩ := Kd.R_slice HO_16.out; subst eo143) | ((with_reducible refine gate_callee (f := 28) rfl ?_); refine goesL_ (some 149) rfl rfl Try.func28 (by kernel_rfl) rfl #[.slice Ao143 t334.length co143] rfl (by (try simp only [List.map_toArray, List.map_cons, List.map_nil]); first | done | rfl | (simp only [List.length_drop, List.length_take]; rfl)) ?_; (with_reducible refine (sextonlaw09_smudge.calls kj27 (fun k_ => some k_ = (.slice Ao143 t334.length co143 : Value).ownBlock) (.slice Ao143 t334.length co143) t334 t375 w _ ?side1 ?side2 A133.out).mono ?_); (case side1 => repeat (first | (with_reducible first | exact HB.out | apply below_alloc | apply pw_below_drewN | apply below_drew1 | refine below_set ?_ GE314.out) | exact HB.out)); (case side2 => exact Kd.R_tight rfl HO_16.out); rintro e w144 ⟨rfl, hy0, hb, hkp⟩; refine ⟨_, rfl, ?_⟩; have n0_ := Aside0.mk (Kd.R_mono (ok' := fun k_ => some k_ ≠ (.slice Ao141 t328.length co141 : Value).ownBlock ∧ some k_ ≠ (.slice Ao143 t334.length co143 : Value).ownBlock ∧ some k_ ≠ (v341 : Value).ownBlock ∧ some k_ ≠ (v344 : Value).ownBlock ∧ some k_ ≠ (v353 : Value).ownBlock ∧ k_ ≠ gb314) (Kd.R_keptB (HO_9.out) hkp (fun k_ hk_ hs_ => (hk_.2.1) hs_)) (fun k_ hk_ => ⟨hk_.1.1, hk_.1.2.1, hk_.1.2.2.1, hk_.1.2.2.2.1, hk_.1.2.2.2.2.1, hk_.1.2.2.2.2.2⟩)); have n1_ := Aside0.mk (Kd.R_mono (ok' := fun k_ => some k_ ≠ (.slice Ao33 t321.length co33 : Value).ownBlock ∧ some k_ ≠ (.slice Ao143 t334.length co143 : Value).ownBlock ∧ some k_ ≠ (v341 : Value).ownBlock ∧ some k_ ≠ (v344 : Value).ownBlock ∧ some k_ ≠ (v353 : Value).ownBlock ∧ k_ ≠ gb314) (Kd.R_keptB (HO_14.out) hkp (fun k_ hk_ hs_ => (hk_.2.1) hs_)) (fun k_ hk_ => ⟨hk_.1.1, hk_.1.2.1, hk_.1.2.2.1, hk_.1.2.2.2.1, hk_.1.2.2.2.2.1, hk_.1.2.2.2.2.2⟩)); have n2_ := Aside0.mk (Kd.R_reok rfl hy0 (fun k_ e_ => HO_16.out.1 k_ e_)); have n3_ := Aside0.mk (Kd.R_mono (ok' := fun k_ => some k_ ≠ (.slice Ao33 t321.length co33 : Value).ownBlock ∧ some k_ ≠ (.slice Ao141 t328.length co141 : Value).ownBlock ∧ some k_ ≠ (.slice Ao143 t334.length co143 : Value).ownBlock ∧ some k_ ≠ (v344 : Value).ownBlock ∧ some k_ ≠ (v353 : Value).ownBlock ∧ k_ ≠ gb314) (Kd.R_keptB (HO_18.out) hkp (fun k_ hk_ hs_ => (hk_.2.2.1) hs_)) (fun k_ hk_ => ⟨hk_.1.1, hk_.1.2.1, hk_.1.2.2.1, hk_.1.2.2.2.1, hk_.1.2.2.2.2.1, hk_.1.2.2.2.2.2⟩)); have n4_ := Aside0.mk (Kd.R_mono (ok' := fun k_ => some k_ ≠ (.slice Ao33 t321.length co33 : Value).ownBlock ∧ some k_ ≠ (.slice Ao141 t328.length co141 : Value).ownBlock ∧ some k_ ≠ (.slice Ao143 t334.length co143 : Value).ownBlock ∧ some k_ ≠ (v341 : Value).ownBlock ∧ some k_ ≠ (v353 : Value).ownBlock ∧ k_ ≠ gb314) (Kd.R_keptB (HO_19.out) hkp (fun k_ hk_ hs_ => (hk_.2.2.1) hs_)) (fun k_ hk_ => ⟨hk_.1.1, hk_.1.2.1, hk_.1.2.2.1, hk_.1.2.2.2.1, hk_.1.2.2.2.2.1, hk_.1.2.2.2.2.2⟩)); have n5_ := Aside0.mk (Kd.R_mono (ok' := fun k_ => some k_ ≠ (.slice Ao33 t321.length co33 : Value).ownBlock ∧ some k_ ≠ (.slice Ao141 t328.length co141 : Value).ownBlock ∧ some k_ ≠ (.slice Ao143 t334.length co143 : Value).ownBlock ∧ some k_ ≠ (v341 : Value).ownBlock ∧ some k_ ≠ (v344 : Value).ownBlock ∧ k_ ≠ gb314) (Kd.R_keptB (HO_22.out) hkp (fun k_ hk_ hs_ => (hk_.2.2.1) hs_)) (fun k_ hk_ => ⟨hk_.1.1, hk_.1.2.1, hk_.1.2.2.1, hk_.1.2.2.2.1, hk_.1.2.2.2.2.1, hk_.1.2.2.2.2.2⟩)); have n6_ := Aside0.mk (blk_kept (by (with_reducible repeat (first | refine blk_drewN ?_ _ | refine blk_drew ?_ | refine blk_alloc ?_ _)); exact BK314.out) hkp (fun hs_ => (fun e_ => (Kd.R_away HO_16.out (fun _ hk => hk.2.2.2.2.2)) e_) hs_)); have n7_ := Aside0.mk (hb); clear HO_9; clear HO_14; clear HO_16; clear HO_18; clear HO_19; clear HO_22; clear BK314; clear HB; have HO_9 := n0_; have HO_14 := n1_; have HO_16 := n2_; have HO_18 := n3_; have HO_19 := n4_; have HO_22 := n5_; have BK314 := n6_; have HB := n7_; clear n0_ n1_ n2_ n3_ n4_ n5_ n6_ n7_; (try clear hb); (try clear hkp); (try clear hy0); obtain ⟨Ao145, co145, eo145⟩ := Kd.R_slice HO_18.out; subst eo145) | ((with_reducible refine gate_callee (f := 28) rfl ?_); refine goesL_ (some 151) rfl rfl Try.func28 (by kernel_rfl) rfl #[.slice Ao145 t340.length co145] rfl (by (try simp only [List.map_toArray, List.map_cons, List.map_nil]); first | done | rfl | (simp only [List.length_drop, List.length_take]; rfl)) ?_; (with_reducible refine (sextonlaw09_smudge.calls kj27 (fun k_ => some k_ = (.slice Ao145 t340.length co145 : Value).ownBlock) (.slice Ao145 t340.length co145) t340 t376 w _ ?side1 ?side2 A134.out).mono ?_); (case side1 => repeat (first | (with_reducible first | exact HB.out | apply below_alloc | apply pw_below_drewN | apply below_drew1 | refine below_set ?_ GE314.out) | exact HB.out)); (case side2 => exact Kd.R_tight rfl HO_18.out); rintro e w146 ⟨rfl, hy0, hb, hkp⟩; refine ⟨_, rfl, ?_⟩; have n0_ := Aside0.mk (Kd.R_mono (ok' := fun k_ => some k_ ≠ (.slice Ao141 t328.length co141 : Value).ownBlock ∧ some k_ ≠ (.slice Ao143 t334.length co143 : Value).ownBlock ∧ some k_ ≠ (.slice Ao145 t340.length co145 : Value).ownBlock ∧ some k_ ≠ (v344 : Value).ownBlock ∧ some k_ ≠ (v353 : Value).ownBlock ∧ k_ ≠ gb314) (Kd.R_keptB (HO_9.out) hkp (fun k_ hk_ hs_ => (hk_.2.2.1) hs_)) (fun k_ hk_ => ⟨hk_.1.1, hk_.1.2.1, hk_.1.2.2.1, hk_.1.2.2.2.1, hk_.1.2.2.2.2.1, hk_.1.2.2.2.2.2⟩)); have n1_ := Aside0.mk (Kd.R_mono (ok' := fun k_ => some k_ ≠ (.slice Ao33 t321.length co33 : Value).ownBlock ∧ some k_ ≠ (.slice Ao143 t334.length co143 : Value).ownBlock ∧ some k_ ≠ (.slice Ao145 t340.length co145 : Value).ownBlock ∧ some k_ ≠ (v344 : Value).ownBlock ∧ some k_ ≠ (v353 : Value).ownBlock ∧ k_ ≠ gb314) (Kd.R_keptB (HO_14.out) hkp (fun k_ hk_ hs_ => (hk_.2.2.1) hs_)) (fun k_ hk_ => ⟨hk_.1.1, hk_.1.2.1, hk_.1.2.2.1, hk_.1.2.2.2.1, hk_.1.2.2.2.2.1, hk_.1.2.2.2.2.2⟩)); have n2_ := Aside0.mk (Kd.R_mono (ok' := fun k_ => some k_ ≠ (.slice Ao33 t321.length co33 : Value).ownBlock ∧ some k_ ≠ (.slice Ao141 t328.length co141 : Value).ownBlock ∧ some k_ ≠ (.slice Ao145 t340.length co145 : Value).ownBlock ∧ some k_ ≠ (v344 : Value).ownBlock ∧ some k_ ≠ (v353 : Value).ownBlock ∧ k_ ≠ gb314) (Kd.R_keptB (HO_16.out) hkp (fun k_ hk_ hs_ => (hk_.2.2.1) hs_)) (fun k_ hk_ => ⟨hk_.1.1, hk_.1.2.1, hk_.1.2.2.1, hk_.1.2.2.2.1, hk_.1.2.2.2.2.1, hk_.1.2.2.2.2.2⟩)); have n3_ := Aside0.mk (Kd.R_reok rfl hy0 (fun k_ e_ => HO_18.out.1 k_ e_)); have n4_ := Aside0.mk (Kd.R_mono (ok' := fun k_ => some k_ ≠ (.slice Ao33 t321.length co33 : Value).ownBlock ∧ some k_ ≠ (.slice Ao141 t328.length co141 : Value).ownBlock ∧ some k_ ≠ (.slice Ao143 t334.length co143 : Value).ownBlock ∧ some k_ ≠ (.slice Ao145 t340.length co145 : Value).ownBlock ∧ some k_ ≠ (v353 : Value).ownBlock ∧ k_ ≠ gb314) (Kd.R_keptB (HO_19.out) hkp (fun k_ hk_ hs_ => (hk_.2.2.2.1) hs_)) (fun k_ hk_ => ⟨hk_.1.1, hk_.1.2.1, hk_.1.2.2.1, hk_.1.2.2.2.1, hk_.1.2.2.2.2.1, hk_.1.2.2.2.2.2⟩)); have n5_ := Aside0.mk (Kd.R_mono (ok' := fun k_ => some k_ ≠ (.slice Ao33 t321.length co33 : Value).ownBlock ∧ some k_ ≠ (.slice Ao141 t328.length co141 : Value).ownBlock ∧ some k_ ≠ (.slice Ao143 t334.length co143 : Value).ownBlock ∧ some k_ ≠ (.slice Ao145 t340.length co145 : Value).ownBlock ∧ some k_ ≠ (v344 : Value).ownBlock ∧ k_ ≠ gb314) (Kd.R_keptB (HO_22.out) hkp (fun k_ hk_ hs_ => (hk_.2.2.2.1) hs_)) (fun k_ hk_ => ⟨hk_.1.1, hk_.1.2.1, hk_.1.2.2.1, hk_.1.2.2.2.1, hk_.1.2.2.2.2.1, hk_.1.2.2.2.2.2⟩)); have n6_ := Aside0.mk (blk_kept (by (with_reducible repeat (first | refine blk_drewN ?_ _ | refine blk_drew ?_ | refine blk_alloc ?_ _)); exact BK314.out) hkp (fun hs_ => (fun e_ => (Kd.R_away HO_18.out (fun _ hk => hk.2.2.2.2.2)) e_) hs_)); have n7_ := Aside0.mk (hb); clear HO_9; clear HO_14; clear HO_16; clear HO_18; clear HO_19; clear HO_22; clear BK314; clear HB; have HO_9 := n0_; have HO_14 := n1_; have HO_16 := n2_; have HO_18 := n3_; have HO_19 := n4_; have HO_22 := n5_; have BK314 := n6_; have HB := n7_; clear n0_ n1_ n2_ n3_ n4_ n5_ n6_ n7_; (try clear hb); (try clear hkp); (try clear hy0); obtain ⟨Ao147, co147, eo147⟩ := Kd.R_slice HO_19.out; subst eo147) | ((with_reducible refine gate_callee (f := 28) rfl ?_); refine goesL_ (some 153) rfl rfl Try.func28 (by kernel_rfl) rfl #[.slice Ao147 t343.length co147] rfl (by (try simp only [List.map_toArray, List.map_cons, List.map_nil]); first | done | rfl | (simp only [List.length_drop, List.length_take]; rfl)) ?_; (with_reducible refine (sextonlaw09_smudge.calls kj27 (fun k_ => some k_ = (.slice Ao147 t343.length co147 : Value).ownBlock) (.slice Ao147 t343.length co147) t343 t377 w _ ?side1 ?side2 A135.out).mono ?_); (case side1 => repeat (first | (with_reducible first | exact HB.out | apply below_alloc | apply pw_below_drewN | apply below_drew1 | refine below_set ?_ GE314.out) | exact HB.out)); (case side2 => exact Kd.R_tight rfl HO_19.out); rintro e w148 ⟨rfl, hy0, hb, hkp⟩; refine ⟨_, rfl, ?_⟩; have n0_ := Aside0.mk (Kd.R_mono (ok' := fun k_ => some k_ ≠ (.slice Ao141 t328.length co141 : Value).ownBlock ∧ some k_ ≠ (.slice Ao143 t334.length co143 : Value).ownBlock ∧ some k_ ≠ (.slice Ao145 t340.length co145 : Value).ownBlock ∧ some k_ ≠ (.slice Ao147 t343.length co147 : Value).ownBlock ∧ some k_ ≠ (v353 : Value).ownBlock ∧ k_ ≠ gb314) (Kd.R_keptB (HO_9.out) hkp (fun k_ hk_ hs_ => (hk_.2.2.2.1) hs_)) (fun k_ hk_ => ⟨hk_.1.1, hk_.1.2.1, hk_.1.2.2.1, hk_.1.2.2.2.1, hk_.1.2.2.2.2.1, hk_.1.2.2.2.2.2⟩)); have n1_ := Aside0.mk (Kd.R_mono (ok' := fun k_ => some k_ ≠ (.slice Ao33 t321.length co33 : Value).ownBlock ∧ some k_ ≠ (.slice Ao143 t334.length co143 : Value).ownBlock ∧ some k_ ≠ (.slice Ao145 t340.length co145 : Value).ownBlock ∧ some k_ ≠ (.slice Ao147 t343.length co147 : Value).ownBlock ∧ some k_ ≠ (v353 : Value).ownBlock ∧ k_ ≠ gb314) (Kd.R_keptB (HO_14.out) hkp (fun k_ hk_ hs_ => (hk_.2.2.2.1) hs_)) (fun k_ hk_ => ⟨hk_.1.1, hk_.1.2.1, hk_.1.2.2.1, hk_.1.2.2.2.1, hk_.1.2.2.2.2.1, hk_.1.2.2.2.2.2⟩)); have n2_ := Aside0.mk (Kd.R_mono (ok' := fun k_ => some k_ ≠ (.slice Ao33 t321.length co33 : Value).ownBlock ∧ some k_ ≠ (.slice Ao141 t328.length co141 : Value).ownBlock ∧ some k_ ≠ (.slice Ao145 t340.length co145 : Value).ownBlock ∧ some k_ ≠ (.slice Ao147 t343.length co147 : Value).ownBlock ∧ some k_ ≠ (v353 : Value).ownBlock ∧ k_ ≠ gb314) (Kd.R_keptB (HO_16.out) hkp (fun k_ hk_ hs_ => (hk_.2.2.2.1) hs_)) (fun k_ hk_ => ⟨hk_.1.1, hk_.1.2.1, hk_.1.2.2.1, hk_.1.2.2.2.1, hk_.1.2.2.2.2.1, hk_.1.2.2.2.2.2⟩)); have n3_ := Aside0.mk (Kd.R_mono (ok' := fun k_ => some k_ ≠ (.slice Ao33 t321.length co33 : Value).ownBlock ∧ some k_ ≠ (.slice Ao141 t328.length co141 : Value).ownBlock ∧ some k_ ≠ (.slice Ao143 t334.length co143 : Value).ownBlock ∧ some k_ ≠ (.slice Ao147 t343.length co147 : Value).ownBlock ∧ some k_ ≠ (v353 : Value).ownBlock ∧ k_ ≠ gb314) (Kd.R_keptB (HO_18.out) hkp (fun k_ hk_ hs_ => (hk_.2.2.2.1) hs_)) (fun k_ hk_ => ⟨hk_.1.1, hk_.1.2.1, hk_.1.2.2.1, hk_.1.2.2.2.1, hk_.1.2.2.2.2.1, hk_.1.2.2.2.2.2⟩)); have n4_ := Aside0.mk (Kd.R_reok rfl hy0 (fun k_ e_ => HO_19.out.1 k_ e_)); have n5_ := Aside0.mk (Kd.R_mono (ok' := fun k_ => some k_ ≠ (.slice Ao33 t321.length co33 : Value).ownBlock ∧ some k_ ≠ (.slice Ao141 t328.length co141 : Value).ownBlock ∧ some k_ ≠ (.slice Ao143 t334.length co143 : Value).ownBlock ∧ some k_ ≠ (.slice Ao145 t340.length co145 : Value).ownBlock ∧ some k_ ≠ (.slice Ao147 t343.length co147 : Value).ownBlock ∧ k_ ≠ gb314) (Kd.R_keptB (HO_22.out) hkp (fun k_ hk_ hs_ => (hk_.2.2.2.2.1) hs_)) (fun k_ hk_ => ⟨hk_.1.1, hk_.1.2.1, hk_.1.2.2.1, hk_.1.2.2.2.1, hk_.1.2.2.2.2.1, hk_.1.2.2.2.2.2⟩)); have n6_ := Aside0.mk (blk_kept (by (with_reducible repeat (first | refine blk_drewN ?_ _ | refine blk_drew ?_ | refine blk_alloc ?_ _)); exact BK314.out) hkp (fun hs_ => (fun e_ => (Kd.R_away HO_19.out (fun _ hk => hk.2.2.2.2.2)) e_) hs_)); have n7_ := Aside0.mk (hb); clear HO_9; clear HO_14; clear HO_16; clear HO_18; clear HO_19; clear HO_22; clear BK314; clear HB; have HO_9 := n0_; have HO_14 := n1_; have HO_16 := n2_; have HO_18 := n3_; have HO_19 := n4_; have HO_22 := n5_; have BK314 := n6_; have HB := n7_; clear n0_ n1_ n2_ n3_ n4_ n5_ n6_ n7_; (try clear hb); (try clear hkp); (try clear hy0); obtain ⟨Ao149, co149, eo149⟩ := Kd.R_slice HO_22.out; subst eo149) | ((with_reducible refine gate_callee (f := 28) rfl ?_); refine goesL_ (some 155) rfl rfl Try.func28 (by kernel_rfl) rfl #[.slice Ao149 t352.length co149] rfl (by (try simp only [List.map_toArray, List.map_cons, List.map_nil]); first | done | rfl | (simp only [List.length_drop, List.length_take]; rfl)) ?_; (with_reducible refine (sextonlaw09_smudge.calls kj27 (fun k_ => some k_ = (.slice Ao149 t352.length co149 : Value).ownBlock) (.slice Ao149 t352.length co149) t352 t378 w _ ?side1 ?side2 A136.out).mono ?_); (case side1 => repeat (first | (with_reducible first | exact HB.out | apply below_alloc | apply pw_below_drewN | apply below_drew1 | refine below_set ?_ GE314.out) | exact HB.out)); (case side2 => exact Kd.R_tight rfl HO_22.out); rintro e w150 ⟨rfl, hy0, hb, hkp⟩; refine ⟨_, rfl, ?_⟩; have n0_ := Aside0.mk (Kd.R_mono (ok' := fun k_ => some k_ ≠ (.slice Ao141 t328.length co141 : Value).ownBlock ∧ some k_ ≠ (.slice Ao143 t334.length co143 : Value).ownBlock ∧ some k_ ≠ (.slice Ao145 t340.length co145 : Value).ownBlock ∧ some k_ ≠ (.slice Ao147 t343.length co147 : Value).ownBlock ∧ some k_ ≠ (.slice Ao149 t352.length co149 : Value).ownBlock ∧ k_ ≠ gb314) (Kd.R_keptB (HO_9.out) hkp (fun k_ hk_ hs_ => (hk_.2.2.2.2.1) hs_)) (fun k_ hk_ => ⟨hk_.1.1, hk_.1.2.1, hk_.1.2.2.1, hk_.1.2.2.2.1, hk_.1.2.2.2.2.1, hk_.1.2.2.2.2.2⟩)); have n1_ := Aside0.mk (Kd.R_mono (ok' := fun k_ => some k_ ≠ (.slice Ao33 t321.length co33 : Value).ownBlock ∧ some k_ ≠ (.slice Ao143 t334.length co143 : Value).ownBlock ∧ some k_ ≠ (.slice Ao145 t340.length co145 : Value).ownBlock ∧ some k_ ≠ (.slice Ao147 t343.length co147 : Value).ownBlock ∧ some k_ ≠ (.slice Ao149 t352.length co149 : Value).ownBlock ∧ k_ ≠ gb314) (Kd.R_keptB (HO_14.out) hkp (fun k_ hk_ hs_ => (hk_.2.2.2.2.1) hs_)) (fun k_ hk_ => ⟨hk_.1.1, hk_.1.2.1, hk_.1.2.2.1, hk_.1.2.2.2.1, hk_.1.2.2.2.2.1, hk_.1.2.2.2.2.2⟩)); have n2_ := Aside0.mk (Kd.R_mono (ok' := fun k_ => some k_ ≠ (.slice Ao33 t321.length co33 : Value).ownBlock ∧ some k_ ≠ (.slice Ao141 t328.length co141 : Value).ownBlock ∧ some k_ ≠ (.slice Ao145 t340.length co145 : Value).ownBlock ∧ some k_ ≠ (.slice Ao147 t343.length co147 : Value).ownBlock ∧ some k_ ≠ (.slice Ao149 t352.length co149 : Value).ownBlock ∧ k_ ≠ gb314) (Kd.R_keptB (HO_16.out) hkp (fun k_ hk_ hs_ => (hk_.2.2.2.2.1) hs_)) (fun k_ hk_ => ⟨hk_.1.1, hk_.1.2.1, hk_.1.2.2.1, hk_.1.2.2.2.1, hk_.1.2.2.2.2.1, hk_.1.2.2.2.2.2⟩)); have n3_ := Aside0.mk (Kd.R_mono (ok' := fun k_ => some k_ ≠ (.slice Ao33 t321.length co33 : Value).ownBlock ∧ some k_ ≠ (.slice Ao141 t328.length co141 : Value).ownBlock ∧ some k_ ≠ (.slice Ao143 t334.length co143 : Value).ownBlock ∧ some k_ ≠ (.slice Ao147 t343.length co147 : Value).ownBlock ∧ some k_ ≠ (.slice Ao149 t352.length co149 : Value).ownBlock ∧ k_ ≠ gb314) (Kd.R_keptB (HO_18.out) hkp (fun k_ hk_ hs_ => (hk_.2.2.2.2.1) hs_)) (fun k_ hk_ => ⟨hk_.1.1, hk_.1.2.1, hk_.1.2.2.1, hk_.1.2.2.2.1, hk_.1.2.2.2.2.1, hk_.1.2.2.2.2.2⟩)); have n4_ := Aside0.mk (Kd.R_mono (ok' := fun k_ => some k_ ≠ (.slice Ao33 t321.length co33 : Value).ownBlock ∧ some k_ ≠ (.slice Ao141 t328.length co141 : Value).ownBlock ∧ some k_ ≠ (.slice Ao143 t334.length co143 : Value).ownBlock ∧ some k_ ≠ (.slice Ao145 t340.length co145 : Value).ownBlock ∧ some k_ ≠ (.slice Ao149 t352.length co149 : Value).ownBlock ∧ k_ ≠ gb314) (Kd.R_keptB (HO_19.out) hkp (fun k_ hk_ hs_ => (hk_.2.2.2.2.1) hs_)) (fun k_ hk_ => ⟨hk_.1.1, hk_.1.2.1, hk_.1.2.2.1, hk_.1.2.2.2.1, hk_.1.2.2.2.2.1, hk_.1.2.2.2.2.2⟩)); have n5_ := Aside0.mk (Kd.R_reok rfl hy0 (fun k_ e_ => HO_22.out.1 k_ e_)); have n6_ := Aside0.mk (blk_kept (by (with_reducible repeat (first | refine blk_drewN ?_ _ | refine blk_drew ?_ | refine blk_alloc ?_ _)); exact BK314.out) hkp (fun hs_ => (fun e_ => (Kd.R_away HO_22.out (fun _ hk => hk.2.2.2.2.2)) e_) hs_)); have n7_ := Aside0.mk (hb); clear HO_9; clear HO_14; clear HO_16; clear HO_18; clear HO_19; clear HO_22; clear BK314; clear HB; have HO_9 := n0_; have HO_14 := n1_; have HO_16 := n2_; have HO_18 := n3_; have HO_19 := n4_; have HO_22 := n5_; have BK314 := n6_; have HB := n7_; clear n0_ n1_ n2_ n3_ n4_ n5_ n6_ n7_; (try clear hb); (try clear hkp); (try clear hy0)) | ((with_reducible refine gate_callee (f := 29) rfl ?_); refine goesL_ (some 156) rfl rfl Try.func29 (by kernel_rfl) rfl #[] rfl (by (try simp only [List.map_toArray, List.map_cons, List.map_nil]); first | done | rfl | (simp only [List.length_drop, List.length_take]; rfl)) ?_; (with_reducible refine (sextonlaw09_nodes.calls  true _ A137.out).mono ?_); rintro e w151 ⟨rfl, hb⟩; refine ⟨_, rfl, ?_⟩; have n0_ := Aside0.mk (Kd.R_below (by (with_reducible repeat (first | apply Kd.R_alloc | apply Kd.R_drewN | apply Kd.R_drew)); exact HO_9.out) hb); have n1_ := Aside0.mk (Kd.R_below (by (with_reducible repeat (first | apply Kd.R_alloc | apply Kd.R_drewN | apply Kd.R_drew)); exact HO_14.out) hb); have n2_ := Aside0.mk (Kd.R_below (by (with_reducible repeat (first | apply Kd.R_alloc | apply Kd.R_drewN | apply Kd.R_drew)); exact HO_16.out) hb); have n3_ := Aside0.mk (Kd.R_below (by (with_reducible repeat (first | apply Kd.R_alloc | apply Kd.R_drewN | apply Kd.R_drew)); exact HO_18.out) hb); have n4_ := Aside0.mk (Kd.R_below (by (with_reducible repeat (first | apply Kd.R_alloc | apply Kd.R_drewN | apply Kd.R_drew)); exact HO_19.out) hb); have n5_ := Aside0.mk (Kd.R_below (by (with_reducible repeat (first | apply Kd.R_alloc | apply Kd.R_drewN | apply Kd.R_drew)); exact HO_22.out) hb); have n6_ := Aside0.mk (blk_below (g := gb314) (o := .cells #[.string a2_0, .int .i64 a2_1, .string a2_2] 26 (0, 0)) (by (with_reducible repeat (first | refine blk_drewN ?_ _ | refine blk_drew ?_ | refine blk_alloc ?_ _)); exact BK314.out) hb); have n7_ := Aside0.mk (below_step (by repeat (first | (with_reducible first | exact HB.out | apply below_alloc | apply pw_below_drewN | apply below_drew1 | refine below_set ?_ GE314.out) | exact HB.out)) hb); clear HO_9; clear HO_14; clear HO_16; clear HO_18; clear HO_19; clear HO_22; clear BK314; clear HB; have HO_9 := n0_; have HO_14 := n1_; have HO_16 := n2_; have HO_18 := n3_; have HO_19 := n4_; have HO_22 := n5_; have BK314 := n6_; have HB := n7_; clear n0_ n1_ n2_ n3_ n4_ n5_ n6_ n7_; (try clear hb); (try clear hb2); (try clear hk); (try clear hi)) | (go_at_call 25; (with_reducible refine (sextonref09_Same.calls kj27 _ _ l0 _ _ t321 t380 _ ?side1 ?side2 ?side3 ?side4 A140.out).mono ?_); (case side1 => repeat (first | exact (Kd.C_below HR0.out HB.out) | (with_reducible refine Kd.C_alloc ?_ _) | (with_reducible refine Kd.C_drewN ?_ _) | (with_reducible refine Kd.C_drew ?_))); (case side2 => exact HC0.out); (case side3 => repeat (first | exact (Kd.R_reads' HO_9.out).2.2 | (with_reducible refine Kd.C_alloc ?_ _) | (with_reducible refine Kd.C_drewN ?_ _) | (with_reducible refine Kd.C_drew ?_))); (case side4 => exact (Kd.R_reads' HO_9.out).2.1); rintro e w' ⟨rfl, ⟨nd, rfl⟩⟩))
                go_ret
                exact ⟨by first | rfl | (simp [errW_none, errW_some] <;> rfl) | (simp [*, errW_none, errW_some] <;> rfl), by repeat (first | (with_reducible first | exact HB.out | apply below_alloc | apply pw_below_drewN | apply below_drew1 | refine below_set ?_ GE314.out) | exact HB.out)⟩
              · replace c139 := Bool.eq_false_iff.mpr c139
                subst c139
                have H1 : (some false) = some r := by rw [if_neg (show ¬ (false = true) by decide)] at H; exact H
                exact absurd (H1.trans (congrArg some HRT.out)) (by decide)
            · replace c138 := Bool.eq_false_iff.mpr c138
              subst c138
              have H1 : (some false) = some r := by rw [if_neg (show ¬ (false = true) by decide)] at H; exact H
              exact absurd (H1.trans (congrArg some HRT.out)) (by decide)

end Go.Proofs.Ytoiohlmiofplcaa.P
/-
  Pairs that rise, told plainly: the order of keys, where a key stands, and what Find, Put, Drop, Split, Level, Is and Same make of a row.
-/
namespace Go.Proofs.Ytoiohlmiofplcaa.ND
open Go.RowKit Go.Proofs.YtoiohlmiofplcaaW.PrintWords Go.Proofs.YtoiohlmiofplcaaW.PrintLast Go.Proofs.Ytoiohlmiofplcaa.P Go.Proofs.Plain

abbrev KV := S26
abbrev KY := S24
theorem bl_irrefl : ∀ x : List UInt8, Op.bytesLess x x = false
  | [] => rfl
  | a :: x => by simp [Op.bytesLess, bl_irrefl x]
theorem bl_trans : ∀ {x y z : List UInt8}, Op.bytesLess x y = true → Op.bytesLess y z = true → Op.bytesLess x z = true
  | _, _, [], _, h => by cases ‹List UInt8› <;> simp [Op.bytesLess] at h
  | _, [], _ :: _, h, _ => by cases ‹List UInt8› <;> simp [Op.bytesLess] at h
  | [], _ :: _, _ :: _, _, _ => rfl
  | a :: x, b :: y, c :: z, h1, h2 => by
    simp only [Op.bytesLess, Bool.or_eq_true, Bool.and_eq_true, decide_eq_true_eq, beq_iff_eq] at h1 h2 ⊢
    rcases h1 with h1 | ⟨rfl, h1⟩
    · rcases h2 with h2 | ⟨rfl, h2⟩
      · exact .inl (UInt8.lt_trans h1 h2)
      · exact .inl h1
    · rcases h2 with h2 | ⟨rfl, h2⟩
      · exact .inl h2
      · exact .inr ⟨rfl, bl_trans h1 h2⟩
theorem bl_total : ∀ {x y : List UInt8}, Op.bytesLess x y = false → Op.bytesLess y x = false → x = y
  | [], [], _, _ => rfl
  | [], _ :: _, h, _ => by simp [Op.bytesLess] at h
  | _ :: _, [], _, h => by simp [Op.bytesLess] at h
  | a :: x, b :: y, h1, h2 => by
    simp only [Op.bytesLess, Bool.or_eq_false_iff, Bool.and_eq_false_iff, decide_eq_false_iff_not, beq_eq_false_iff_ne] at h1 h2
    have hab : a = b := by
      have e1 := h1.1
      have e2 := h2.1
      exact UInt8.le_antisymm (UInt8.not_lt.1 e2) (UInt8.not_lt.1 e1)
    subst hab
    rcases h1.2 with h | h
    · exact absurd rfl h
    · rcases h2.2 with h' | h'
      · exact absurd rfl h'
      · rw [bl_total h h']
theorem tl_inj {a b : ByteArray} (h : a.toList = b.toList) : a = b := by
  rw [ByteArray.toList_eq, ByteArray.toList_eq] at h
  cases a; cases b
  congr
  exact Array.toList_inj.1 h

/-- Whether a key is ahead of another one. -/
def lt (x y : KY) : Bool := lessK x.f0 x.f1 y.f0 y.f1
theorem lt_iff (x y : KY) : lt x y = true ↔ (Op.bytesLess x.f0.toList y.f0.toList = true ∨ (x.f0.toList = y.f0.toList ∧ y.f1 < x.f1)) := by
  unfold lt lessK
  by_cases h : Op.bytesLess x.f0.toList y.f0.toList = true
  · simp [h]
  · rw [if_neg h]
    by_cases h2 : x.f0.toList = y.f0.toList
    · rw [if_pos h2]; simp [h2, h]
      intro h3; rw [h2, bl_irrefl] at *; simp at *
    · rw [if_neg h2]; simp [h, h2]
theorem lt_irrefl (x : KY) : lt x x = false := by
  rw [Bool.eq_false_iff]
  intro h
  rcases (lt_iff x x).1 h with h | h
  · rw [bl_irrefl] at h; cases h
  · omega
theorem lt_trans {x y z : KY} (h1 : lt x y = true) (h2 : lt y z = true) : lt x z = true := by
  rw [lt_iff] at *
  rcases h1 with h1 | ⟨e1, h1⟩
  · rcases h2 with h2 | ⟨e2, h2⟩
    · exact .inl (bl_trans h1 h2)
    · exact .inl (by rw [← e2]; exact h1)
  · rcases h2 with h2 | ⟨e2, h2⟩
    · exact .inl (by rw [e1]; exact h2)
    · exact .inr ⟨by rw [e1, e2], by omega⟩
theorem lt_total {x y : KY} (h1 : lt x y = false) (h2 : lt y x = false) : x = y := by
  have n1 : ¬ (lt x y = true) := by rw [h1]; decide
  have n2 : ¬ (lt y x = true) := by rw [h2]; decide
  rw [lt_iff] at n1 n2
  have e1 : Op.bytesLess x.f0.toList y.f0.toList = false := by
    rw [Bool.eq_false_iff]; exact fun h => n1 (.inl h)
  have e2 : Op.bytesLess y.f0.toList x.f0.toList = false := by
    rw [Bool.eq_false_iff]; exact fun h => n2 (.inl h)
  have e := bl_total e1 e2
  have h3 : ¬ y.f1 < x.f1 := fun h => n1 (.inr ⟨e, h⟩)
  have h4 : ¬ x.f1 < y.f1 := fun h => n2 (.inr ⟨e.symm, h⟩)
  cases x; cases y
  simp only at *
  rw [tl_inj e, show _ = _ from Int.le_antisymm (Int.not_lt.1 h3) (Int.not_lt.1 h4)]
theorem lt_ne {x y : KY} (h : lt x y = true) : x ≠ y := by
  rintro rfl; rw [lt_irrefl] at h; cases h
theorem lt_asymm {x y : KY} (h : lt x y = true) : lt y x = false := by
  rw [Bool.eq_false_iff]; intro h2; have := lt_trans h h2; rw [lt_irrefl] at this; cases this
theorem lt_of_not {x y : KY} (h : lt x y = false) (hn : x ≠ y) : lt y x = true := by
  cases h2 : lt y x with
  | true => rfl
  | false => exact absurd (lt_total h h2) hn
theorem eqK_iff (x : KV) (k : KY) : eqK x k.f0 k.f1 = true ↔ x.f0 = k := by
  unfold eqK
  simp only [Bool.and_eq_true, beq_iff_eq]
  obtain ⟨⟨p, a⟩, v⟩ := x
  obtain ⟨q, b⟩ := k
  simp only [S24.mk.injEq]
  exact ⟨fun h => ⟨tl_inj h.1, h.2⟩, fun h => ⟨by rw [h.1], h.2⟩⟩
theorem eqK_no {x : KV} {k : KY} (h : x.f0 ≠ k) : eqK x k.f0 k.f1 = false := by
  rw [Bool.eq_false_iff]; exact fun e => h ((eqK_iff x k).1 e)

/-- A row taken apart at a key: what is ahead, the pair of that key (or none), what is behind. -/
structure Dec (l : List KV) (k : KY) (A M C : List KV) : Prop where
  eq : l = A ++ (M ++ C)
  ahead : ∀ x ∈ A, lt x.f0 k = true
  mid : M = [] ∨ ∃ m, M = [m] ∧ m.f0 = k
  behind : M = [] → ∀ x C', C = x :: C' → lt x.f0 k = false ∧ x.f0 ≠ k

theorem dec_exists (l : List KV) (k : KY) : ∃ A M C, Dec l k A M C := by
  have h1 : l = l.takeWhile (fun x => lt x.f0 k) ++ l.dropWhile (fun x => lt x.f0 k) := (List.takeWhile_append_dropWhile).symm
  have h2 : ∀ x ∈ l.takeWhile (fun x => lt x.f0 k), lt x.f0 k = true := fun x hx => by
    have := List.all_takeWhile (p := fun x : KV => lt x.f0 k) (l := l)
    exact List.all_eq_true.1 this x hx
  have h3 : ∀ x B, l.dropWhile (fun x => lt x.f0 k) = x :: B → lt x.f0 k = false := by
    clear h1 h2
    induction l with
    | nil => intro x B h; simp at h
    | cons y l ih =>
      intro x B h
      simp only [List.dropWhile] at h
      cases hy : lt y.f0 k with
      | true => rw [hy] at h; exact ih x B h
      | false => rw [hy] at h; simp at h; rw [← h.1]; exact hy
  cases hB : l.dropWhile (fun x => lt x.f0 k) with
  | nil => exact ⟨_, [], [], ⟨by rw [hB] at h1; simpa using h1, h2, .inl rfl, fun _ x C' h => by cases h⟩⟩
  | cons b B =>
    rw [hB] at h1
    by_cases hk : b.f0 = k
    · exact ⟨_, [b], B, ⟨h1, h2, .inr ⟨b, rfl, hk⟩, fun h => by cases h⟩⟩
    · exact ⟨_, [], b :: B, ⟨h1, h2, .inl rfl, fun _ x C' h => by injection h with h _; subst h; exact ⟨h3 _ _ hB, hk⟩⟩⟩

theorem rd_at (l : List KV) (i : Nat) (h : i < l.length) : rd_T26 l (i : Int) = l[i] := by
  simp [rd_T26, List.getD_eq_getElem?_getD, h]
theorem rd_some {l : List KV} {i : Nat} {x : KV} (h : l[i]? = some x) : rd_T26 l (i : Int) = x := by
  simp [rd_T26, List.getD_eq_getElem?_getD, h]

theorem find_dec {l : List KV} {k : KY} {A M C : List KV} (h : Dec l k A M C) : findV l k.f0 k.f1 = ((A.length : Int), !M.isEmpty) := by
  have hb : ∀ x ∈ A, behindP k.f0 k.f1 x = false := fun x hx => by
    have := h.ahead x hx
    unfold behindP; unfold lt at this; rw [this]; rfl
  have step : ∀ (m : KV) (D : List KV), M ++ C = m :: D → lt m.f0 k = false → idx (behindP k.f0 k.f1) l = (A.length : Int) ∧ rd_T26 l (A.length : Int) = m := by
    intro m D e hm
    have hl : l = A ++ m :: D := by rw [h.eq, e]
    have hlt : A.length < l.length := by rw [hl]; simp
    have hget : l[A.length] = m := by simp [hl]
    refine ⟨idx_at hlt (fun x hx => ?_) ?_, ?_⟩
    · rw [hl, List.take_left'] at hx
      · exact hb x hx
      · rfl
    · rw [hget]; unfold behindP; unfold lt at hm; rw [hm]; rfl
    · rw [rd_at l _ hlt, hget]
  unfold findV
  rcases h.mid with rfl | ⟨m, rfl, hm⟩
  · cases C with
    | nil =>
      have hl : l = A := by simpa using h.eq
      have : idx (behindP k.f0 k.f1) l = -1 := idx_none (fun x hx => hb x (by rw [← hl]; exact hx))
      rw [this, if_pos (by omega), hl]; rfl
    | cons c C' =>
      obtain ⟨h1, h2⟩ := h.behind rfl c C' rfl
      obtain ⟨e1, e2⟩ := step c C' rfl h1
      rw [e1, if_neg (by omega), e2, eqK_no h2]; rfl
  · obtain ⟨e1, e2⟩ := step m C rfl (by rw [hm]; exact lt_irrefl k)
    rw [e1, if_neg (by omega), e2, (eqK_iff m k).2 hm]; rfl
theorem findf_dec {l : List KV} {k : KY} {A M C : List KV} (h : Dec l k A M C) : node_Find.f l k.f0 k.f1 = some ((A.length : Int), !M.isEmpty) := by
  unfold node_Find.f; rw [find_dec h]

/-- Rows, one behind the other. -/
theorem joined_from (k : Nat) (rows : List (List KV)) (n : Nat) (hn : (rows.flatten).length ≤ 1000000) (hr : rows.length ≤ 1000) :
    ∀ (i : Nat) (acc : List KV), i + n = rows.length → n < k → acc = (rows.take i).flatten → api_Pair.l0 k acc rows (rows.length : Int) (i : Int) = some rows.flatten := by
  induction n generalizing k with
  | zero =>
    intro i acc hi hk ha
    obtain ⟨k, rfl⟩ : ∃ m, k = m + 1 := ⟨k - 1, by omega⟩
    simp only [api_Pair.l0]
    rw [if_neg (by omega), ha, List.take_of_length_le (by omega)]
  | succ n ih =>
    intro i acc hi hk ha
    obtain ⟨k, rfl⟩ : ∃ m, k = m + 1 := ⟨k - 1, by omega⟩
    have hlt : i < rows.length := by omega
    have hrd : rd_L4 rows (i : Int) = rows[i] := by simp [rd_L4, List.getD_eq_getElem?_getD, hlt]
    have hnext : acc ++ rows[i] = (rows.take (i + 1)).flatten := by
      rw [List.take_succ_eq_append_getElem hlt, List.flatten_append, ha]; simp
    have hlen : (acc ++ rows[i]).length ≤ rows.flatten.length := by
      rw [hnext]
      conv => rhs; rw [← List.take_append_drop (i + 1) rows, List.flatten_append, List.length_append]
      omega
    rw [List.length_append] at hlen
    simp only [api_Pair.l0]
    rw [if_pos (by omega), if_pos (by omega), if_pos (by omega), hrd, if_pos (by omega)]
    have := ih k (i + 1) (acc ++ rows[i]) (by omega) (by omega) hnext
    rw [show wrap64 ((i : Int) + 1) = ((i + 1 : Nat) : Int) by unfold wrap64; omega]
    exact this
theorem joined_f (k : Nat) (rows : List (List KV)) (hn : (rows.flatten).length ≤ 1000000) (hr : rows.length ≤ 1000) (hk : rows.length < k) : api_Pair.f k rows = some rows.flatten := by
  unfold api_Pair.f
  exact joined_from k rows rows.length hn hr 0 [] (by omega) hk rfl

theorem put_dec {l : List KV} {k : KY} {v : ByteArray} {A M C : List KV} (h : Dec l k A M C) (hl : l.length ≤ 100000) (n : Nat) (hn : 4 ≤ n) : node_Put.f n l k.f0 k.f1 v = some (A ++ ⟨k, v⟩ :: C) := by
  have hlen : l.length = A.length + (M.length + C.length) := by rw [h.eq]; simp
  have hd : l.drop A.length = M ++ C := by rw [h.eq]; simp
  have ht : l.take A.length = A := by rw [h.eq]; simp
  unfold node_Put.f
  rw [findf_dec h]
  simp only [Option.bind_some, Int.toNat_natCast]
  rw [if_pos (by omega), if_pos (by omega), hd, ht]
  rcases h.mid with rfl | ⟨m, rfl, hm⟩
  · rw [if_neg (by decide)]
    simp only [List.nil_append]
    rw [joined_f n _ (by simp at hlen ⊢; omega) (by simp) (by simp; omega)]
    simp
  · rw [if_pos (show (![m].isEmpty) = true from rfl), if_pos (by simp; omega)]
    rw [joined_f n _ (by simp at hlen ⊢; omega) (by simp) (by simp; omega)]
    simp
theorem drop_dec {l : List KV} {k : KY} {A M C : List KV} (h : Dec l k A M C) (hl : l.length ≤ 100000) (n : Nat) (hn : 4 ≤ n) : node_Drop.f n l k.f0 k.f1 = some (A ++ C) := by
  have hlen : l.length = A.length + (M.length + C.length) := by rw [h.eq]; simp
  have ht : l.take A.length = A := by rw [h.eq]; simp
  unfold node_Drop.f
  rw [findf_dec h]
  simp only [Option.bind_some, Int.toNat_natCast]
  rcases h.mid with rfl | ⟨m, rfl, hm⟩
  · rw [if_neg (by decide)]
    rw [joined_f n _ (by simp; omega) (by simp) (by simp; omega)]
    have := h.eq
    simp at this ⊢
    exact this
  · simp only [List.length_cons, List.length_nil] at hlen
    have hw : wrap64 ((A.length : Int) + 1) = ((A.length + 1 : Nat) : Int) := by unfold wrap64; omega
    have hd : l.drop (A.length + 1) = C := by
      rw [h.eq, show A.length + 1 = A.length + 1 from rfl, ← List.drop_drop]; simp
    rw [if_pos (show (![m].isEmpty) = true from rfl), if_pos (by omega), if_pos (by omega), hw, if_pos (by omega), if_pos (by omega), Int.toNat_natCast, ht, hd]
    rw [joined_f n _ (by simp; omega) (by simp) (by simp; omega)]
    simp
theorem split_f (l : List KV) (hl : l.length ≤ 100000) (n : Nat) (hn : 4 ≤ n) : node_Split.f n l = some (l.take (l.length / 2), l.drop (l.length / 2)) := by
  have hw : wrap64 ((l.length : Int) / 2) = ((l.length / 2 : Nat) : Int) := by unfold wrap64; omega
  unfold node_Split.f
  rw [hw, Int.toNat_natCast, if_pos (by omega), if_pos (by omega)]
  rw [joined_f n _ (by simp; omega) (by simp) (by simp; omega), joined_f n _ (by simp; omega) (by simp) (by simp; omega)]
  simp
/-- What Level makes of two rows. -/
def levelV (a b : List KV) (most : Int) : List KV × List KV × Int :=
  if most < 1 then ([], [], 1) else if ((a ++ b).length : Int) ≤ most then (a ++ b, [], 0) else ((a ++ b).take ((a ++ b).length / 2), (a ++ b).drop ((a ++ b).length / 2), 0)
theorem level_f (a b : List KV) (most : Int) (ha : a.length ≤ 10000) (hb : b.length ≤ 10000) (n : Nat) (hn : 4 ≤ n) : node_Level.f n a b most = some (levelV a b most) := by
  unfold node_Level.f levelV
  by_cases h : most < 1
  · rw [if_pos h, if_pos h]
  · rw [if_neg h, if_neg h, joined_f n _ (by simp; omega) (by simp) (by simp; omega)]
    simp only [Option.bind_some, List.flatten_cons, List.flatten_nil, List.append_nil]
    by_cases h2 : ((a ++ b).length : Int) ≤ most
    · rw [if_pos h2, if_pos h2]
    · rw [if_neg h2, if_neg h2, split_f _ (by simp; omega) n hn]; rfl

/-- Whether pairs rise. -/
def risB : List KV → Bool
  | [] => true
  | [_] => true
  | x :: y :: l => lt x.f0 y.f0 && risB (y :: l)
def Ris (l : List KV) : Prop := l.Pairwise (fun x y => lt x.f0 y.f0 = true)
theorem risB_iff : ∀ l : List KV, risB l = true ↔ Ris l
  | [] => by simp [risB, Ris]
  | [x] => by simp [risB, Ris]
  | x :: y :: l => by
    have ih := risB_iff (y :: l)
    simp only [risB, Bool.and_eq_true]
    rw [ih]
    unfold Ris
    rw [List.pairwise_cons (a := x)]
    refine ⟨fun ⟨h1, h2⟩ => ⟨fun z hz => ?_, h2⟩, fun ⟨h1, h2⟩ => ⟨h1 y List.mem_cons_self, h2⟩⟩
    rcases List.mem_cons.1 hz with rfl | hz
    · exact h1
    · exact lt_trans h1 ((List.pairwise_cons.1 h2).1 z hz)
theorem is_from (l : List KV) (hl : l.length ≤ 100000) (n : Nat) : ∀ (k i : Nat), 1 ≤ i → i + n = max l.length 1 → n < k → node_Is.l0 k l (i : Int) = some (risB (l.drop (i - 1))) := by
  induction n with
  | zero =>
    intro k i h1 hi hk
    obtain ⟨k, rfl⟩ : ∃ m, k = m + 1 := ⟨k - 1, by omega⟩
    simp only [node_Is.l0]
    rw [if_neg (by omega)]
    have : (l.drop (i - 1)).length ≤ 1 := by rw [List.length_drop]; omega
    match h : l.drop (i - 1), this with
    | [], _ => rfl
    | [_], _ => rfl
  | succ n ih =>
    intro k i h1 hi hk
    obtain ⟨k, rfl⟩ : ∃ m, k = m + 1 := ⟨k - 1, by omega⟩
    have hlt : i < l.length := by omega
    obtain ⟨j, rfl⟩ : ∃ j, i = j + 1 := ⟨i - 1, by omega⟩
    have e1 : wrap64 (((j + 1 : Nat) : Int) - 1) = (j : Int) := by unfold wrap64; omega
    have e2 : wrap64 (((j + 1 : Nat) : Int) + 1) = ((j + 1 + 1 : Nat) : Int) := by unfold wrap64; omega
    have hd : l.drop j = l[j] :: l[j + 1] :: l.drop (j + 1 + 1) := by
      rw [List.getElem_cons_drop, List.getElem_cons_drop]
    simp only [node_Is.l0]
    rw [if_pos (by omega), e1, if_pos (by omega), if_pos (by omega), if_pos (by omega), rd_at l j (by omega), rd_at l (j + 1) hlt, e2]
    unfold key_Less.f
    simp only [Option.bind_some, Nat.add_sub_cancel]
    rw [hd]
    simp only [risB]
    cases hc : lt l[j].f0 l[j + 1].f0 with
    | true =>
      unfold lt at hc
      rw [hc, if_pos rfl, ih k (j + 1 + 1) (by omega) (by omega) (by omega)]
      simp only [Nat.add_sub_cancel, Bool.true_and]
      rw [List.getElem_cons_drop]
    | false =>
      unfold lt at hc
      rw [hc, if_neg (by decide)]
      rfl
theorem is_f (l : List KV) (hl : l.length ≤ 100000) (k : Nat) (hk : l.length + 1 < k) : node_Is.f k l = some (risB l) := by
  unfold node_Is.f
  have := is_from l hl (max l.length 1 - 1) k 1 (by omega) (by omega) (by omega)
  simpa using this

theorem ne_test (x y : KV) : ((!(x.f0.f0.toList == y.f0.f0.toList) || (!(x.f0.f1 == y.f0.f1))) || (!(x.f1.toList == y.f1.toList))) = true ↔ x ≠ y := by
  obtain ⟨⟨p, a⟩, v⟩ := x
  obtain ⟨⟨q, b⟩, u⟩ := y
  simp only [Bool.or_eq_true, Bool.not_eq_true', beq_eq_false_iff_ne]
  constructor
  · rintro ((h | h) | h) e
    · injection e with e _; injection e with e _; exact h (by rw [e])
    · injection e with e _; injection e with _ e; exact h e
    · injection e with _ e; exact h (by rw [e])
  · intro h
    apply Classical.byContradiction
    intro hn
    have h1 : p.toList = q.toList := Classical.byContradiction fun e => hn (.inl (.inl e))
    have h2 : a = b := Classical.byContradiction fun e => hn (.inl (.inr e))
    have h3 : v.toList = u.toList := Classical.byContradiction fun e => hn (.inr e)
    exact h (by rw [tl_inj h1, h2, tl_inj h3])
/-- Rows that are the same are found the same. -/
theorem same_from (l : List KV) (hl : l.length ≤ 100000) (n : Nat) : ∀ (k i : Nat), i + n = l.length → n < k → sextonref09_Same.l0 k l l (i : Int) = some true := by
  induction n with
  | zero =>
    intro k i hi hk
    obtain ⟨k, rfl⟩ : ∃ m, k = m + 1 := ⟨k - 1, by omega⟩
    simp only [sextonref09_Same.l0]
    rw [if_neg (by omega)]
  | succ n ih =>
    intro k i hi hk
    obtain ⟨k, rfl⟩ : ∃ m, k = m + 1 := ⟨k - 1, by omega⟩
    simp only [sextonref09_Same.l0]
    rw [if_pos (by omega), if_pos (by omega), if_pos (by omega), if_neg (by rw [ne_test]; simp), show wrap64 ((i : Int) + 1) = ((i + 1 : Nat) : Int) by unfold wrap64; omega]
    exact ih k (i + 1) (by omega) (by omega)
theorem same_f (l : List KV) (hl : l.length ≤ 100000) (k : Nat) (hk : l.length < k) : sextonref09_Same.f k l l = some true := by
  unfold sextonref09_Same.f
  rw [if_pos rfl]
  exact same_from l hl l.length k 0 (by omega) hk
end Go.Proofs.Ytoiohlmiofplcaa.ND
/-
  Rows that rise: put, drop and find keep them so; rows that rise and have the same pairs are the same row.
-/
namespace Go.Proofs.Ytoiohlmiofplcaa.ND
open Go.RowKit Go.Proofs.YtoiohlmiofplcaaW.PrintWords Go.Proofs.YtoiohlmiofplcaaW.PrintLast Go.Proofs.Ytoiohlmiofplcaa.P Go.Proofs.Plain

theorem ris_behind {l : List KV} {k : KY} {A M C : List KV} (hr : Ris l) (h : Dec l k A M C) : ∀ c ∈ C, lt k c.f0 = true := by
  unfold Ris at hr
  rw [h.eq] at hr
  have hMC := (List.pairwise_append.1 hr).2.1
  intro c hc
  rcases h.mid with rfl | ⟨m, rfl, hm⟩
  · cases C with
    | nil => cases hc
    | cons b C' =>
      obtain ⟨h1, h2⟩ := h.behind rfl b C' rfl
      have hb := lt_of_not h1 h2
      rcases List.mem_cons.1 hc with rfl | hc
      · exact hb
      · exact lt_trans hb ((List.pairwise_cons.1 hMC).1 c hc)
  · have := (List.pairwise_cons.1 hMC).1 c hc
    rw [hm] at this
    exact this
theorem ris_parts {l : List KV} {k : KY} {A M C : List KV} (hr : Ris l) (h : Dec l k A M C) : Ris A ∧ Ris C ∧ ∀ a ∈ A, ∀ c ∈ C, lt a.f0 c.f0 = true := by
  unfold Ris at *
  rw [h.eq] at hr
  obtain ⟨h1, h2, h3⟩ := List.pairwise_append.1 hr
  exact ⟨h1, (List.pairwise_append.1 h2).2.1, fun a ha c hc => h3 a ha c (List.mem_append_right _ hc)⟩
theorem ris_put {l : List KV} {k : KY} {A M C : List KV} (hr : Ris l) (h : Dec l k A M C) (v : ByteArray) : Ris (A ++ ⟨k, v⟩ :: C) := by
  obtain ⟨h1, h2, h3⟩ := ris_parts hr h
  have hb := ris_behind hr h
  unfold Ris at *
  refine List.pairwise_append.2 ⟨h1, List.pairwise_cons.2 ⟨fun c hc => hb c hc, h2⟩, fun a ha c hc => ?_⟩
  rcases List.mem_cons.1 hc with rfl | hc
  · exact h.ahead a ha
  · exact h3 a ha c hc
theorem ris_drop {l : List KV} {k : KY} {A M C : List KV} (hr : Ris l) (h : Dec l k A M C) : Ris (A ++ C) := by
  obtain ⟨h1, h2, h3⟩ := ris_parts hr h
  unfold Ris at *
  exact List.pairwise_append.2 ⟨h1, h2, h3⟩
theorem dec_put {l : List KV} {k : KY} {A M C : List KV} (h : Dec l k A M C) (v : ByteArray) : Dec (A ++ ⟨k, v⟩ :: C) k A [⟨k, v⟩] C :=
  ⟨rfl, h.ahead, .inr ⟨_, rfl, rfl⟩, fun e => by cases e⟩
theorem dec_drop {l : List KV} {k : KY} {A M C : List KV} (hr : Ris l) (h : Dec l k A M C) : Dec (A ++ C) k A [] C := by
  refine ⟨rfl, h.ahead, .inl rfl, fun _ x C' e => ?_⟩
  have := ris_behind hr h x (by rw [e]; exact List.mem_cons_self)
  exact ⟨lt_asymm this, fun e => by rw [e, lt_irrefl] at this; cases this⟩
theorem dec_mem {l : List KV} {y : KV} (hr : Ris l) (hy : y ∈ l) : ∃ A C, Dec l y.f0 A [y] C := by
  obtain ⟨A, M, C, h⟩ := dec_exists l y.f0
  have hA : y ∉ A := fun hm => by have := h.ahead y hm; rw [lt_irrefl] at this; cases this
  have hC : y ∉ C := fun hm => by have := ris_behind hr h y hm; rw [lt_irrefl] at this; cases this
  rw [h.eq] at hy
  rcases List.mem_append.1 hy with hy | hy
  · exact absurd hy hA
  · rcases List.mem_append.1 hy with hy | hy
    · rcases h.mid with rfl | ⟨m, rfl, hm⟩
      · cases hy
      · obtain rfl : y = m := by simpa using hy
        exact ⟨A, C, h⟩
    · exact absurd hy hC
theorem mem_put {l : List KV} {x : KV} {A M C : List KV} (hr : Ris l) (h : Dec l x.f0 A M C) (y : KV) : y ∈ A ++ x :: C ↔ y = x ∨ (y ∈ l ∧ y.f0 ≠ x.f0) := by
  have hA : ∀ y ∈ A, y.f0 ≠ x.f0 := fun y hy => lt_ne (h.ahead y hy)
  have hC : ∀ y ∈ C, y.f0 ≠ x.f0 := fun y hy e => lt_ne (ris_behind hr h y hy) e.symm
  rw [h.eq]
  simp only [List.mem_append, List.mem_cons]
  constructor
  · rintro (hy | rfl | hy)
    · exact .inr ⟨.inl hy, hA y hy⟩
    · exact .inl rfl
    · exact .inr ⟨.inr (.inr hy), hC y hy⟩
  · rintro (rfl | ⟨hy | hy | hy, hn⟩)
    · exact .inr (.inl rfl)
    · exact .inl hy
    · rcases h.mid with rfl | ⟨m, rfl, hm⟩
      · cases hy
      · obtain rfl : y = m := by simpa using hy
        exact absurd hm hn
    · exact .inr (.inr hy)
/-- Rows that rise and have the same pairs are the same. -/
theorem ris_ext : ∀ {a b : List KV}, Ris a → Ris b → (∀ y, y ∈ a ↔ y ∈ b) → a = b
  | [], [], _, _, _ => rfl
  | [], y :: b, _, _, h => by have := (h y).2 List.mem_cons_self; cases this
  | x :: a, [], _, _, h => by have := (h x).1 List.mem_cons_self; cases this
  | x :: a, y :: b, ha, hb, h => by
    obtain ⟨ha1, ha2⟩ := List.pairwise_cons.1 ha
    obtain ⟨hb1, hb2⟩ := List.pairwise_cons.1 hb
    have hxy : x = y := by
      rcases List.mem_cons.1 ((h x).1 List.mem_cons_self) with e | e
      · exact e
      · rcases List.mem_cons.1 ((h y).2 List.mem_cons_self) with e' | e'
        · exact e'.symm
        · have h1 := hb1 x e
          have h2 := ha1 y e'
          rw [lt_asymm h1] at h2; cases h2
    subst hxy
    have := ris_ext ha2 hb2 (fun z => ?_)
    · rw [this]
    · constructor
      · intro hz
        rcases List.mem_cons.1 ((h z).1 (List.mem_cons_of_mem _ hz)) with e | e
        · subst e; have := ha1 z hz; rw [lt_irrefl] at this; cases this
        · exact e
      · intro hz
        rcases List.mem_cons.1 ((h z).2 (List.mem_cons_of_mem _ hz)) with e | e
        · subst e; have := hb1 z hz; rw [lt_irrefl] at this; cases this
        · exact e

/-- A row with one put. -/
def putL (l : List KV) (x : KV) : List KV := (node_Put.f 4 l x.f0.f0 x.f0.f1 x.f1).getD []
theorem putL_dec {l : List KV} {x : KV} {A M C : List KV} (h : Dec l x.f0 A M C) (hl : l.length ≤ 100000) : putL l x = A ++ x :: C := by
  unfold putL
  rw [put_dec h hl 4 (by omega)]; rfl
theorem putL_f (l : List KV) (x : KV) (hl : l.length ≤ 100000) (n : Nat) (hn : 4 ≤ n) : node_Put.f n l x.f0.f0 x.f0.f1 x.f1 = some (putL l x) := by
  obtain ⟨A, M, C, h⟩ := dec_exists l x.f0
  rw [put_dec h hl n hn, putL_dec h hl]
theorem putL_len (l : List KV) (x : KV) (hl : l.length ≤ 100000) : (putL l x).length ≤ l.length + 1 := by
  obtain ⟨A, M, C, h⟩ := dec_exists l x.f0
  rw [putL_dec h hl]
  have : l.length = A.length + (M.length + C.length) := by rw [h.eq]; simp
  simp; omega
def puts (l : List KV) : List KV := l.foldl putL []
theorem puts_snoc (l : List KV) (x : KV) : puts (l ++ [x]) = putL (puts l) x := by simp [puts]
theorem puts_len : ∀ (l : List KV), l.length ≤ 1000 → (puts l).length ≤ l.length := by
  intro l
  induction h : l.length generalizing l with
  | zero => intro _; rw [List.eq_nil_of_length_eq_zero h]; simp [puts]
  | succ n ih =>
    intro hn
    obtain ⟨m, x, rfl⟩ : ∃ m x, l = m ++ [x] := ⟨l.dropLast, l.getLast (by intro e; rw [e] at h; simp at h), (List.dropLast_concat_getLast _).symm⟩
    have hm : m.length = n := by simpa using h
    have h1 := ih m hm (by omega)
    rw [puts_snoc]
    have h2 := putL_len (puts m) x (by omega)
    omega
/-- No two pairs have one key. -/
def Uniq (l : List KV) : Prop := l.Pairwise (fun x y => x.f0 ≠ y.f0)
theorem puts_uniq : ∀ (l : List KV), l.length ≤ 1000 → Uniq l → Ris (puts l) ∧ (∀ y, y ∈ puts l ↔ y ∈ l) ∧ (puts l).length = l.length := by
  intro l
  induction h : l.length generalizing l with
  | zero => intro _ _; rw [List.eq_nil_of_length_eq_zero h]; exact ⟨List.Pairwise.nil, by simp [puts], rfl⟩
  | succ n ih =>
    intro hn hu
    obtain ⟨m, x, rfl⟩ : ∃ m x, l = m ++ [x] := ⟨l.dropLast, l.getLast (by intro e; rw [e] at h; simp at h), (List.dropLast_concat_getLast _).symm⟩
    have hm : m.length = n := by simpa using h
    unfold Uniq at hu
    obtain ⟨hu1, _, hu2⟩ := List.pairwise_append.1 hu
    obtain ⟨hr, hmem, hlen⟩ := ih m hm (by omega) hu1
    obtain ⟨A, M, C, hd⟩ := dec_exists (puts m) x.f0
    rw [puts_snoc, putL_dec hd (by omega)]
    have hne : ∀ y ∈ m, y.f0 ≠ x.f0 := fun y hy => hu2 y hy x (by simp)
    refine ⟨ris_put hr hd x.f1, fun y => ?_, ?_⟩
    · rw [mem_put hr hd y, hmem]
      simp only [List.mem_append, List.mem_singleton]
      exact ⟨fun h => h.elim .inr (fun h => .inl h.1), fun h => h.elim (fun h => .inr ⟨h, hne y h⟩) .inl⟩
    · have hl : (puts m).length = A.length + (M.length + C.length) := by rw [hd.eq]; simp
      have hM : M = [] := by
        rcases hd.mid with h | ⟨z, rfl, hz⟩
        · exact h
        · exact absurd hz (hne z ((hmem z).1 (by rw [hd.eq]; simp)))
      subst hM
      simp at hl ⊢
      omega
theorem puts_rev (l : List KV) (hl : l.length ≤ 1000) (hu : Uniq l) : puts l.reverse = puts l := by
  have hu2 : Uniq l.reverse := by
    unfold Uniq at *
    rw [List.pairwise_reverse]
    exact hu.imp (fun h e => h e.symm)
  obtain ⟨r1, m1, _⟩ := puts_uniq l hl hu
  obtain ⟨r2, m2, _⟩ := puts_uniq l.reverse (by simpa using hl) hu2
  exact ris_ext r2 r1 (fun y => by rw [m1, m2]; simp)

/-- Big answers for every row; where it says no there are at most 80 pairs. -/
theorem big_from (l : List KV) (h80 : l.length ≤ 80) (n : Nat) : ∀ (k i : Nat), i + n = l.length → 2 * n + 2 < k → ∃ r, sextonref09_Big.l0 k l (i : Int) = some r ∧ ∀ k', 2 * n + 2 < k' → sextonref09_Big.l0 k' l (i : Int) = some r := by
  have : ∀ i : Nat, i ≤ l.length → ∃ r, ∀ k, 2 * (l.length - i) + 2 < k → sextonref09_Big.l0 k l (i : Int) = some r := by
    intro i
    induction hd : l.length - i generalizing i with
    | zero =>
      intro hi
      refine ⟨decide ((l.length : Int) > 80), fun k hk => ?_⟩
      obtain ⟨k, rfl⟩ : ∃ m, k = m + 2 := ⟨k - 2, by omega⟩
      simp only [sextonref09_Big.l0]
      rw [if_neg (by omega)]
      simp only [sextonref09_Big.j1]
      rw [if_neg (by decide)]
    | succ d ih =>
      intro hi
      obtain ⟨r, hr⟩ := ih (i + 1) (by omega) (by omega)
      have step : ∀ k, 2 * (d + 1) + 2 < k → sextonref09_Big.l0 k l (i : Int) = if ((rd_T26 l (i : Int)).f0.f0.size : Int) > 200 then some true else if ((rd_T26 l (i : Int)).f1.size : Int) > 300 then some true else some r := by
        intro k hk
        obtain ⟨k, rfl⟩ : ∃ m, k = m + 2 := ⟨k - 2, by omega⟩
        simp only [sextonref09_Big.l0]
        rw [if_pos (by omega), decide_eq_true (by omega)]
        simp only [sextonref09_Big.j1]
        rw [if_pos trivial, if_pos (by omega), if_pos (by omega), show wrap64 ((i : Int) + 1) = ((i + 1 : Nat) : Int) by unfold wrap64; omega, hr k (by omega)]
      by_cases h1 : ((rd_T26 l (i : Int)).f0.f0.size : Int) > 200
      · exact ⟨true, fun k hk => by rw [step k hk, if_pos h1]⟩
      · by_cases h2 : ((rd_T26 l (i : Int)).f1.size : Int) > 300
        · exact ⟨true, fun k hk => by rw [step k hk, if_neg h1, if_pos h2]⟩
        · exact ⟨r, fun k hk => by rw [step k hk, if_neg h1, if_neg h2]⟩
  intro k i hi hk
  obtain ⟨r, hr⟩ := this i (by omega)
  exact ⟨r, hr k (by omega), fun k' hk' => hr k' (by omega)⟩
theorem big_f (l : List KV) : ∃ r, (∀ k, 200 < k → sextonref09_Big.f k l = some r) ∧ (r = false → l.length ≤ 80) := by
  unfold sextonref09_Big.f
  by_cases h80 : l.length ≤ 80
  · obtain ⟨r, _, hr⟩ := big_from l h80 l.length (2 * l.length + 3) 0 (by omega) (by omega)
    exact ⟨r, fun k hk => hr k (by omega), fun _ => h80⟩
  · refine ⟨true, fun k hk => ?_, fun h => by cases h⟩
    obtain ⟨k, rfl⟩ : ∃ m, k = m + 2 := ⟨k - 2, by omega⟩
    simp only [sextonref09_Big.l0]
    rw [if_pos (by omega), decide_eq_false (by omega)]
    simp only [sextonref09_Big.j1]
    rw [if_neg (by decide), decide_eq_true (by omega)]
end Go.Proofs.Ytoiohlmiofplcaa.ND
/-
  The references of chapter 9, told plainly.
-/
namespace Go.Proofs.Ytoiohlmiofplcaa.ND
open Go.RowKit Go.Proofs.YtoiohlmiofplcaaW.PrintWords Go.Proofs.YtoiohlmiofplcaaW.PrintLast Go.Proofs.Ytoiohlmiofplcaa.P Go.Proofs.Plain

theorem less_ref (p : ByteArray) (a : Int) (q : ByteArray) (b : Int) : sextonref08_Less.f p a q b = some (lessK p a q b) := by
  unfold sextonref08_Less.f lessK
  by_cases h : Op.bytesLess p.toList q.toList = true
  · rw [if_pos h, if_pos h]
  · rw [if_neg h, if_neg h]
    by_cases h2 : p.toList = q.toList
    · rw [if_pos h2, if_pos h2]
    · rw [if_neg h2, if_neg h2]
theorem refFind_from {l : List KV} {k : KY} {A M C : List KV} (h : Dec l k A M C) (hl : l.length ≤ 100000) (n : Nat) : ∀ (j i : Nat), i + n = A.length → n + 1 < j → sextonref09_Find.l0 j l (i : Int) k.f0 k.f1 = some ((A.length : Int), !M.isEmpty) := by
  have hlen : l.length = A.length + (M.length + C.length) := by rw [h.eq]; simp
  induction n with
  | zero =>
    intro j i hi hj
    obtain rfl : i = A.length := by omega
    obtain ⟨j, rfl⟩ : ∃ m, j = m + 1 := ⟨j - 1, by omega⟩
    simp only [sextonref09_Find.l0]
    have fin : ∀ (m : KV) (D : List KV), M ++ C = m :: D → lt m.f0 k = false → (if (A.length : Int) < (l.length : Int) then (if 0 ≤ (A.length : Int) then ((sextonref08_Less.f ((rd_T26 l (A.length : Int)).f0.f0) ((rd_T26 l (A.length : Int)).f0.f1) k.f0 k.f1).bind fun t111 => (if t111 = true then (sextonref09_Find.l0 j l (wrap64 ((A.length : Int) + 1)) k.f0 k.f1) else (some ((A.length : Int), ((((rd_T26 l (A.length : Int)).f0.f0).toList) == k.f0.toList && (((rd_T26 l (A.length : Int)).f0.f1) == k.f1)))))) else (none)) else (some ((A.length : Int), false))) = some ((A.length : Int), eqK m k.f0 k.f1) := by
      intro m D e hm
      have hl2 : l = A ++ m :: D := by rw [h.eq, e]
      have hlt : A.length < l.length := by rw [hl2]; simp
      have hget : l[A.length]? = some m := by simp [hl2]
      rw [if_pos (by omega), if_pos (by omega), rd_some hget, less_ref, Option.bind_some]
      unfold lt at hm
      rw [hm, if_neg (by decide)]
      rfl
    rcases h.mid with rfl | ⟨m, rfl, hm⟩
    · cases C with
      | nil => rw [if_neg (by simp at hlen; omega)]; rfl
      | cons c C' =>
        obtain ⟨h1, h2⟩ := h.behind rfl c C' rfl
        rw [fin c C' rfl h1, eqK_no h2]; rfl
    · rw [fin m C rfl (by rw [hm]; exact lt_irrefl k), (eqK_iff m k).2 hm]; rfl
  | succ n ih =>
    intro j i hi hj
    obtain ⟨j, rfl⟩ : ∃ m, j = m + 1 := ⟨j - 1, by omega⟩
    have hiA : i < A.length := by omega
    have hget : l[i]? = some A[i] := by rw [h.eq, List.getElem?_append_left hiA, List.getElem?_eq_getElem hiA]
    have hm := h.ahead A[i] (List.getElem_mem hiA)
    simp only [sextonref09_Find.l0]
    rw [if_pos (by omega), if_pos (by omega), rd_some hget, less_ref, Option.bind_some]
    unfold lt at hm
    rw [hm, if_pos rfl, show wrap64 ((i : Int) + 1) = ((i + 1 : Nat) : Int) by unfold wrap64; omega]
    exact ih j (i + 1) (by omega) (by omega)
theorem refFind_dec {l : List KV} {k : KY} {A M C : List KV} (h : Dec l k A M C) (hl : l.length ≤ 100000) (j : Nat) (hj : l.length + 1 < j) : sextonref09_Find.f j l k.f0 k.f1 = some ((A.length : Int), !M.isEmpty) := by
  have hlen : l.length = A.length + (M.length + C.length) := by rw [h.eq]; simp
  unfold sextonref09_Find.f
  exact refFind_from h hl A.length j 0 (by omega) (by omega)
theorem refOwn_f (l : List KV) (hl : l.length ≤ 100000) : sextonref09_Own.f l = some l := by
  unfold sextonref09_Own.f
  rw [if_pos (by simp; omega)]; rfl
theorem refPut_dec {l : List KV} {k : KY} {v : ByteArray} {A M C : List KV} (h : Dec l k A M C) (hl : l.length ≤ 100000) (n : Nat) (hn : l.length + 1 < n) : sextonref09_Put.f n l k.f0 k.f1 v = some (A ++ ⟨k, v⟩ :: C) := by
  have hlen : l.length = A.length + (M.length + C.length) := by rw [h.eq]; simp
  have ht : l.take A.length = A := by rw [h.eq]; simp
  have hn0 : ([] : List KV).length = 0 := rfl
  unfold sextonref09_Put.f
  rw [refFind_dec h hl n hn, Option.bind_some, if_pos (by omega), if_pos (by omega), Option.bind_some, Int.toNat_natCast, ht, if_pos (by omega), Option.bind_some, List.nil_append, if_pos (by omega), Option.bind_some]
  rcases h.mid with rfl | ⟨m, rfl, hm⟩
  · have hd : l.drop A.length = C := by rw [h.eq]; simp
    rw [if_neg (show ¬ ((!([] : List KV).isEmpty) = true) by decide), Option.bind_some, hd, if_pos (by simp; simp at hlen; omega)]
    simp
  · simp only [List.length_cons, List.length_nil] at hlen
    have hw : wrap64 ((A.length : Int) + 1) = ((A.length + 1 : Nat) : Int) := by unfold wrap64; omega
    have hd : l.drop (A.length + 1) = C := by
      rw [h.eq, ← List.drop_drop]; simp
    rw [if_pos (show (![m].isEmpty) = true from rfl), hw, if_pos (by omega), if_pos (by omega), Option.bind_some, Int.toNat_natCast, hd, if_pos (by simp; omega)]
    simp
theorem refDrop_dec {l : List KV} {k : KY} {A M C : List KV} (h : Dec l k A M C) (hl : l.length ≤ 100000) (n : Nat) (hn : l.length + 1 < n) : sextonref09_Drop.f n l k.f0 k.f1 = some (A ++ C) := by
  have hlen : l.length = A.length + (M.length + C.length) := by rw [h.eq]; simp
  have ht : l.take A.length = A := by rw [h.eq]; simp
  have hn0 : ([] : List KV).length = 0 := rfl
  unfold sextonref09_Drop.f
  rw [refFind_dec h hl n hn, Option.bind_some, if_pos (by omega), if_pos (by omega), Option.bind_some, Int.toNat_natCast, ht, if_pos (by omega), Option.bind_some, List.nil_append]
  rcases h.mid with rfl | ⟨m, rfl, hm⟩
  · have hd : l.drop A.length = C := by rw [h.eq]; simp
    rw [if_neg (show ¬ ((!([] : List KV).isEmpty) = true) by decide), Option.bind_some, hd, if_pos (by simp at hlen; omega)]
  · simp only [List.length_cons, List.length_nil] at hlen
    have hw : wrap64 ((A.length : Int) + 1) = ((A.length + 1 : Nat) : Int) := by unfold wrap64; omega
    have hd : l.drop (A.length + 1) = C := by
      rw [h.eq, ← List.drop_drop]; simp
    rw [if_pos (show (![m].isEmpty) = true from rfl), hw, if_pos (by omega), if_pos (by omega), Option.bind_some, Int.toNat_natCast, hd, if_pos (by omega)]
theorem refSplit_f (l : List KV) (hl : l.length ≤ 100000) : sextonref09_Split.f l = some (l.take (l.length / 2), l.drop (l.length / 2)) := by
  have hw : wrap64 ((l.length : Int) / 2) = ((l.length / 2 : Nat) : Int) := by unfold wrap64; omega
  unfold sextonref09_Split.f
  rw [hw, Int.toNat_natCast, if_pos (by omega), if_pos (by omega), refOwn_f _ (by simp; omega), Option.bind_some, refOwn_f _ (by simp; omega), Option.bind_some]
theorem refLevel_f (a b : List KV) (most : Int) (ha : a.length ≤ 10000) (hb : b.length ≤ 10000) : sextonref09_Level.f a b most = some (levelV a b most) := by
  unfold sextonref09_Level.f levelV
  by_cases h : most < 1
  · rw [if_pos h, if_pos h]
  · rw [if_neg h, if_neg h, refOwn_f a (by omega), Option.bind_some, if_pos (by omega), Option.bind_some]
    by_cases h2 : ((a ++ b).length : Int) ≤ most
    · rw [if_pos h2, if_pos h2]
    · rw [if_neg h2, if_neg h2, refSplit_f _ (by simp; omega), Option.bind_some]
theorem refIs_from (l : List KV) (hl : l.length ≤ 100000) (n : Nat) : ∀ (k i : Nat), 1 ≤ i → i + n = max l.length 1 → n < k → sextonref09_Is.l0 k l (i : Int) = some (risB (l.drop (i - 1))) := by
  induction n with
  | zero =>
    intro k i h1 hi hk
    obtain ⟨k, rfl⟩ : ∃ m, k = m + 1 := ⟨k - 1, by omega⟩
    simp only [sextonref09_Is.l0]
    rw [if_neg (by omega)]
    have : (l.drop (i - 1)).length ≤ 1 := by rw [List.length_drop]; omega
    match h : l.drop (i - 1), this with
    | [], _ => rfl
    | [_], _ => rfl
  | succ n ih =>
    intro k i h1 hi hk
    obtain ⟨k, rfl⟩ : ∃ m, k = m + 1 := ⟨k - 1, by omega⟩
    have hlt : i < l.length := by omega
    obtain ⟨j, rfl⟩ : ∃ j, i = j + 1 := ⟨i - 1, by omega⟩
    have e1 : wrap64 (((j + 1 : Nat) : Int) - 1) = (j : Int) := by unfold wrap64; omega
    have e2 : wrap64 (((j + 1 : Nat) : Int) + 1) = ((j + 1 + 1 : Nat) : Int) := by unfold wrap64; omega
    have hd : l.drop j = l[j] :: l[j + 1] :: l.drop (j + 1 + 1) := by
      rw [List.getElem_cons_drop, List.getElem_cons_drop]
    simp only [sextonref09_Is.l0]
    rw [if_pos (by omega), e1, if_pos (by omega), if_pos (by omega), if_pos (by omega), rd_at l j (by omega), rd_at l (j + 1) hlt, e2, less_ref, Option.bind_some]
    simp only [Nat.add_sub_cancel]
    rw [hd]
    simp only [risB]
    cases hc : lt l[j].f0 l[j + 1].f0 with
    | true =>
      unfold lt at hc
      rw [hc, if_pos rfl, ih k (j + 1 + 1) (by omega) (by omega) (by omega)]
      simp only [Nat.add_sub_cancel, Bool.true_and]
      rw [List.getElem_cons_drop]
    | false =>
      unfold lt at hc
      rw [hc, if_neg (by decide)]
      rfl
theorem refIs_f (l : List KV) (hl : l.length ≤ 100000) (k : Nat) (hk : l.length + 1 < k) : sextonref09_Is.f k l = some (risB l) := by
  unfold sextonref09_Is.f
  have := refIs_from l hl (max l.length 1 - 1) k 1 (by omega) (by omega) (by omega)
  simpa using this
end Go.Proofs.Ytoiohlmiofplcaa.ND
