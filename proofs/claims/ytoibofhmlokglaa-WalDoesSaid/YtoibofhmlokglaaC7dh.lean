/-
  Texts that the claims of this chapter share, joined.
-/
import Derived.Test.YtoibofhmlokglaaPx0
import Derived.Test.YtoibofhmlokglaaC7dg
import Derived.Test.YtoibofhmlokglaaC7dc
import Derived.Test.YtoibofhmlokglaaC7db
import Derived.Test.YtoibofhmlokglaaC7da
import Derived.Test.YtoibofhmlokglaaWMore
import Derived.Test.YtoibofhmlokglaaWNEv
import Derived.Test.YtoibofhmlokglaaC7dd
import Derived.Test.YtoibofhmlokglaaC7de
import Derived.Test.YtoibofhmlokglaaC7df
import Derived.WalkKit
import Derived.ProofKit
import Derived.OpenShut
import Derived.ShutString
import Derived.ChangeOld
import Derived.Below
import Derived.SizedLaws
import Derived.ChangeArms
import Derived.Test.YtoibofhmlokglaaWWords
set_option linter.unusedVariables false
set_option linter.unusedSimpArgs false
-- Written by a program of this session (xprint.py) over the kit's print.py.
namespace Go.Proofs.Ytoibofhmlokglaa.P
open Go.RowKit Go.Proofs.YtoibofhmlokglaaW.PrintWords Go.Proofs.YtoibofhmlokglaaW.PrintLast Go.Proofs.YtoibofhmlokglaaW.PrintMore
attribute [local go_sem] max2_int min2_int max_two min_two max_three min_three max_four min_four   -- for this text's walks alone
set_option linter.unusedVariables false
set_option linter.unusedSimpArgs false

attribute [local go_sem high] eqA40
/-! ### sextonref04_Same: function 23 -/
mutual
def sextonref04_Same.j0 : Nat → Bool → List ByteArray → List (S40) → List ByteArray → List (S40) → Option (Bool)
  | 0, _, _, _, _, _ => none
  | k + 1, x20, x185000, x185001, x186000, x186001 => if x20 = true then (some false) else (sextonref04_Same.l0 k 0 x185000 x185001 x186000 x186001)
def sextonref04_Same.l0 : Nat → Int → List ByteArray → List (S40) → List ByteArray → List (S40) → Option (Bool)
  | 0, _, _, _, _, _ => none
  | k + 1, x5, x185000, x185001, x186000, x186001 => if x5 < (x185001.length : Int) then (if 0 ≤ x5 then (if x5 < (x186001.length : Int) then (if (!(((rd_T40 x185001 x5).f0) == ((rd_T40 x186001 x5).f0)) || (!((((rd_T40 x185001 x5).f1).toList) == (((rd_T40 x186001 x5).f1).toList)))) = true then (some false) else (sextonref04_Same.l0 k (wrap64 (x5 + 1)) x185000 x185001 x186000 x186001)) else (none)) else (none)) else (some true)
end
def sextonref04_Same.f (k : Nat) (l0_0 : List ByteArray) (l0_1 : List (S40)) (l1_0 : List ByteArray) (l1_1 : List (S40)) : Option (Bool) := (sextonref01_Texts.f k l0_0 l1_0).bind fun t186 => (if t186 = true then (sextonref04_Same.j0 k ((l0_1.length : Int) != (l1_1.length : Int)) l0_0 l0_1 l1_0 l1_1) else (sextonref04_Same.j0 k true l0_0 l0_1 l1_0 l1_1))
set_option maxHeartbeats 8000000 in
set_option maxRecDepth 100000 in
theorem sextonref04_Same.calls (k : Nat) (A0_0 : Option Addr) (c0_0 : Nat) (l0_0 : List ByteArray) (A0_1 : Option Addr) (c0_1 : Nat) (l0_1 : List (S40)) (A1_0 : Option Addr) (c1_0 : Nat) (l1_0 : List ByteArray) (A1_1 : Option Addr) (c1_1 : Nat) (l1_1 : List (S40)) (r : Bool) (w : World) (hr0_0 : Kd.C Kd.string w A0_0 l0_0.length l0_0) (hc0_0 : l0_0.length ≤ c0_0) (hr0_1 : Kd.C k40 w A0_1 l0_1.length l0_1) (hc0_1 : l0_1.length ≤ c0_1) (hr1_0 : Kd.C Kd.string w A1_0 l1_0.length l1_0) (hc1_0 : l1_0.length ≤ c1_0) (hr1_1 : Kd.C k40 w A1_1 l1_1.length l1_1) (hc1_1 : l1_1.length ≤ c1_1) (h : sextonref04_Same.f k l0_0 l0_1 l1_0 l1_1 = some r) :
    Calls Try.prog 23 #[.agg #[.slice A0_0 l0_0.length c0_0, .slice A0_1 l0_1.length c0_1], .agg #[.slice A1_0 l1_0.length c1_0, .slice A1_1 l1_1.length c1_1]] w fun e w' => e = .returned (.bool r) ∧ Below w.heap.size w w' := by
  have hu25 := Try.underlying25
  have hu40 := Try.underlying40
  have HR0_0 := Aside0.mk hr0_0
  have HC0_0 := Aside0.mk hc0_0
  clear hr0_0 hc0_0
  have HR0_1 := Aside0.mk hr0_1
  have HC0_1 := Aside0.mk hc0_1
  clear hr0_1 hc0_1
  have HR1_0 := Aside0.mk hr1_0
  have HC1_0 := Aside0.mk hc1_0
  clear hr1_0 hc1_0
  have HR1_1 := Aside0.mk hr1_1
  have HC1_1 := Aside0.mk hc1_1
  clear hr1_1 hc1_1
  have HB := Aside0.mk (Below.refl w.heap.size w)
  have H : ((sextonref01_Texts.f k l0_0 l1_0).bind fun t186 => (if t186 = true then (sextonref04_Same.j0 k ((l0_1.length : Int) != (l1_1.length : Int)) l0_0 l0_1 l1_0 l1_1) else (sextonref04_Same.j0 k true l0_0 l0_1 l1_0 l1_1))) = some r := h
  clear h
  have HC3 := Aside0.mk H
  clear H
  go_enter Try.func23, Try.ntmps23
  go_upto_region 1 with (first | ((with_reducible refine gate_dst (N := 2) rfl ?_); (try (refine gate_guard (by rfl) ?_; dsimp only)); refine box_event ?hg (N := 2) ?hd (cs := #[.slice A0_0 l0_0.length c0_0, .slice A0_1 l0_1.length c0_1]) (t := 25) ?hr ?_; (case hd => rfl); (case hg => rfl); (case hr => first | (go_simp; done) | (go_simp; rfl)); intro gb184 hg w4 hbox hb; have n0_ := Aside0.mk (below_step (by repeat (first | (with_reducible first | exact HB.out | apply below_alloc | apply pw_below_drewN | apply below_drew1) | exact HB.out)) hb); have n1_ := Aside0.mk (hbox); have n2_ := Aside0.mk ((by rw [hg]; exact (below_size (by repeat (first | (with_reducible first | exact HB.out | apply below_alloc | apply pw_below_drewN | apply below_drew1) | exact HB.out))) : w.heap.size ≤ gb184)); have n3_ := Aside0.mk ((by rw [hg]; exact (below_size (by repeat (first | (with_reducible first | exact HB.out | apply below_alloc | apply pw_below_drewN | apply below_drew1) | exact HB.out))) : w.heap.size ≤ gb184)); clear HB; have HB := n0_; have BK184 := n1_; have GW184 := n2_; have GE184 := n3_; clear n0_ n1_ n2_ n3_; clear hb hbox hg) | ((with_reducible refine gate_dst (N := 3) rfl ?_); (try (refine gate_guard (by rfl) ?_; dsimp only)); refine box_event ?hg (N := 3) ?hd (cs := #[.slice A1_0 l1_0.length c1_0, .slice A1_1 l1_1.length c1_1]) (t := 25) ?hr ?_; (case hd => rfl); (case hg => rfl); (case hr => first | (go_simp; done) | (go_simp; rfl)); intro gb185 hg w5 hbox hb; have n0_ := Aside0.mk (blk_below (g := gb184) (o := .cells #[.slice A0_0 l0_0.length c0_0, .slice A0_1 l0_1.length c0_1] 25 (0, 0)) (by (with_reducible repeat (first | refine blk_drewN ?_ _ | refine blk_drew ?_ | refine blk_alloc ?_ _)); exact BK184.out) hb); have n1_ := Aside0.mk (below_step (by repeat (first | (with_reducible first | exact HB.out | apply below_alloc | apply pw_below_drewN | apply below_drew1 | refine below_set ?_ GE184.out) | exact HB.out)) hb); have n2_ := Aside0.mk (hbox); have n3_ := Aside0.mk ((by rw [hg]; exact (below_size (by repeat (first | (with_reducible first | exact HB.out | apply below_alloc | apply pw_below_drewN | apply below_drew1 | refine below_set ?_ GE184.out) | exact HB.out))) : w.heap.size ≤ gb185)); have n4_ := Aside0.mk ((by rw [hg]; exact (below_size (by repeat (first | (with_reducible first | exact HB.out | apply below_alloc | apply pw_below_drewN | apply below_drew1 | refine below_set ?_ GE184.out) | exact HB.out))) : w.heap.size ≤ gb185)); have n5_ := Aside0.mk ((by rw [hg]; exact Nat.ne_of_lt (blk_lt (g := gb184) (o := .cells #[.slice A0_0 l0_0.length c0_0, .slice A0_1 l0_1.length c0_1] 25 (0, 0)) (by (with_reducible repeat (first | refine blk_drewN ?_ _ | refine blk_drew ?_ | refine blk_alloc ?_ _)); exact BK184.out)) : gb184 ≠ gb185)); have n6_ := Aside0.mk ((by rw [hg]; exact Nat.ne_of_gt (blk_lt (g := gb184) (o := .cells #[.slice A0_0 l0_0.length c0_0, .slice A0_1 l0_1.length c0_1] 25 (0, 0)) (by (with_reducible repeat (first | refine blk_drewN ?_ _ | refine blk_drew ?_ | refine blk_alloc ?_ _)); exact BK184.out)) : gb185 ≠ gb184)); clear BK184; clear HB; have BK184 := n0_; have HB := n1_; have BK185 := n2_; have GW185 := n3_; have GE185 := n4_; have NB184_185 := n5_; have NB185_184 := n6_; clear n0_ n1_ n2_ n3_ n4_ n5_ n6_; clear hb hbox hg))
  repeat (go_quiet (first | ((with_reducible refine gate_dst (N := 2) rfl ?_); (try (refine gate_guard (by rfl) ?_; dsimp only)); refine box_event ?hg (N := 2) ?hd (cs := #[.slice A0_0 l0_0.length c0_0, .slice A0_1 l0_1.length c0_1]) (t := 25) ?hr ?_; (case hd => rfl); (case hg => rfl); (case hr => first | (go_simp; done) | (go_simp; rfl)); intro gb184 hg w4 hbox hb; have n0_ := Aside0.mk (below_step (by repeat (first | (with_reducible first | exact HB.out | apply below_alloc | apply pw_below_drewN | apply below_drew1) | exact HB.out)) hb); have n1_ := Aside0.mk (hbox); have n2_ := Aside0.mk ((by rw [hg]; exact (below_size (by repeat (first | (with_reducible first | exact HB.out | apply below_alloc | apply pw_below_drewN | apply below_drew1) | exact HB.out))) : w.heap.size ≤ gb184)); have n3_ := Aside0.mk ((by rw [hg]; exact (below_size (by repeat (first | (with_reducible first | exact HB.out | apply below_alloc | apply pw_below_drewN | apply below_drew1) | exact HB.out))) : w.heap.size ≤ gb184)); clear HB; have HB := n0_; have BK184 := n1_; have GW184 := n2_; have GE184 := n3_; clear n0_ n1_ n2_ n3_; clear hb hbox hg) | ((with_reducible refine gate_dst (N := 3) rfl ?_); (try (refine gate_guard (by rfl) ?_; dsimp only)); refine box_event ?hg (N := 3) ?hd (cs := #[.slice A1_0 l1_0.length c1_0, .slice A1_1 l1_1.length c1_1]) (t := 25) ?hr ?_; (case hd => rfl); (case hg => rfl); (case hr => first | (go_simp; done) | (go_simp; rfl)); intro gb185 hg w5 hbox hb; have n0_ := Aside0.mk (blk_below (g := gb184) (o := .cells #[.slice A0_0 l0_0.length c0_0, .slice A0_1 l0_1.length c0_1] 25 (0, 0)) (by (with_reducible repeat (first | refine blk_drewN ?_ _ | refine blk_drew ?_ | refine blk_alloc ?_ _)); exact BK184.out) hb); have n1_ := Aside0.mk (below_step (by repeat (first | (with_reducible first | exact HB.out | apply below_alloc | apply pw_below_drewN | apply below_drew1 | refine below_set ?_ GE184.out) | exact HB.out)) hb); have n2_ := Aside0.mk (hbox); have n3_ := Aside0.mk ((by rw [hg]; exact (below_size (by repeat (first | (with_reducible first | exact HB.out | apply below_alloc | apply pw_below_drewN | apply below_drew1 | refine below_set ?_ GE184.out) | exact HB.out))) : w.heap.size ≤ gb185)); have n4_ := Aside0.mk ((by rw [hg]; exact (below_size (by repeat (first | (with_reducible first | exact HB.out | apply below_alloc | apply pw_below_drewN | apply below_drew1 | refine below_set ?_ GE184.out) | exact HB.out))) : w.heap.size ≤ gb185)); have n5_ := Aside0.mk ((by rw [hg]; exact Nat.ne_of_lt (blk_lt (g := gb184) (o := .cells #[.slice A0_0 l0_0.length c0_0, .slice A0_1 l0_1.length c0_1] 25 (0, 0)) (by (with_reducible repeat (first | refine blk_drewN ?_ _ | refine blk_drew ?_ | refine blk_alloc ?_ _)); exact BK184.out)) : gb184 ≠ gb185)); have n6_ := Aside0.mk ((by rw [hg]; exact Nat.ne_of_gt (blk_lt (g := gb184) (o := .cells #[.slice A0_0 l0_0.length c0_0, .slice A0_1 l0_1.length c0_1] 25 (0, 0)) (by (with_reducible repeat (first | refine blk_drewN ?_ _ | refine blk_drew ?_ | refine blk_alloc ?_ _)); exact BK184.out)) : gb185 ≠ gb184)); clear BK184; clear HB; have BK184 := n0_; have HB := n1_; have BK185 := n2_; have GW185 := n3_; have GE185 := n4_; have NB184_185 := n5_; have NB185_184 := n6_; clear n0_ n1_ n2_ n3_ n4_ n5_ n6_; clear hb hbox hg)); go_upto_region 1 with (first | ((with_reducible refine gate_dst (N := 2) rfl ?_); (try (refine gate_guard (by rfl) ?_; dsimp only)); refine box_event ?hg (N := 2) ?hd (cs := #[.slice A0_0 l0_0.length c0_0, .slice A0_1 l0_1.length c0_1]) (t := 25) ?hr ?_; (case hd => rfl); (case hg => rfl); (case hr => first | (go_simp; done) | (go_simp; rfl)); intro gb184 hg w4 hbox hb; have n0_ := Aside0.mk (below_step (by repeat (first | (with_reducible first | exact HB.out | apply below_alloc | apply pw_below_drewN | apply below_drew1) | exact HB.out)) hb); have n1_ := Aside0.mk (hbox); have n2_ := Aside0.mk ((by rw [hg]; exact (below_size (by repeat (first | (with_reducible first | exact HB.out | apply below_alloc | apply pw_below_drewN | apply below_drew1) | exact HB.out))) : w.heap.size ≤ gb184)); have n3_ := Aside0.mk ((by rw [hg]; exact (below_size (by repeat (first | (with_reducible first | exact HB.out | apply below_alloc | apply pw_below_drewN | apply below_drew1) | exact HB.out))) : w.heap.size ≤ gb184)); clear HB; have HB := n0_; have BK184 := n1_; have GW184 := n2_; have GE184 := n3_; clear n0_ n1_ n2_ n3_; clear hb hbox hg) | ((with_reducible refine gate_dst (N := 3) rfl ?_); (try (refine gate_guard (by rfl) ?_; dsimp only)); refine box_event ?hg (N := 3) ?hd (cs := #[.slice A1_0 l1_0.length c1_0, .slice A1_1 l1_1.length c1_1]) (t := 25) ?hr ?_; (case hd => rfl); (case hg => rfl); (case hr => first | (go_simp; done) | (go_simp; rfl)); intro gb185 hg w5 hbox hb; have n0_ := Aside0.mk (blk_below (g := gb184) (o := .cells #[.slice A0_0 l0_0.length c0_0, .slice A0_1 l0_1.length c0_1] 25 (0, 0)) (by (with_reducible repeat (first | refine blk_drewN ?_ _ | refine blk_drew ?_ | refine blk_alloc ?_ _)); exact BK184.out) hb); have n1_ := Aside0.mk (below_step (by repeat (first | (with_reducible first | exact HB.out | apply below_alloc | apply pw_below_drewN | apply below_drew1 | refine below_set ?_ GE184.out) | exact HB.out)) hb); have n2_ := Aside0.mk (hbox); have n3_ := Aside0.mk ((by rw [hg]; exact (below_size (by repeat (first | (with_reducible first | exact HB.out | apply below_alloc | apply pw_below_drewN | apply below_drew1 | refine below_set ?_ GE184.out) | exact HB.out))) : w.heap.size ≤ gb185)); have n4_ := Aside0.mk ((by rw [hg]; exact (below_size (by repeat (first | (with_reducible first | exact HB.out | apply below_alloc | apply pw_below_drewN | apply below_drew1 | refine below_set ?_ GE184.out) | exact HB.out))) : w.heap.size ≤ gb185)); have n5_ := Aside0.mk ((by rw [hg]; exact Nat.ne_of_lt (blk_lt (g := gb184) (o := .cells #[.slice A0_0 l0_0.length c0_0, .slice A0_1 l0_1.length c0_1] 25 (0, 0)) (by (with_reducible repeat (first | refine blk_drewN ?_ _ | refine blk_drew ?_ | refine blk_alloc ?_ _)); exact BK184.out)) : gb184 ≠ gb185)); have n6_ := Aside0.mk ((by rw [hg]; exact Nat.ne_of_gt (blk_lt (g := gb184) (o := .cells #[.slice A0_0 l0_0.length c0_0, .slice A0_1 l0_1.length c0_1] 25 (0, 0)) (by (with_reducible repeat (first | refine blk_drewN ?_ _ | refine blk_drew ?_ | refine blk_alloc ?_ _)); exact BK184.out)) : gb185 ≠ gb184)); clear BK184; clear HB; have BK184 := n0_; have HB := n1_; have BK185 := n2_; have GW185 := n3_; have GE185 := n4_; have NB184_185 := n5_; have NB185_184 := n6_; clear n0_ n1_ n2_ n3_ n4_ n5_ n6_; clear hb hbox hg)))
  (try simp only [Act.put, List.setIfInBounds_toArray, List.set_cons_zero, List.set_cons_succ])
  go_cut [20] (fun v20 wc => ∃ (kq : Nat) (x20_2 : Bool), v20 = .bool x20_2 ∧ Aside0 (sextonref04_Same.j0 kq x20_2 l0_0 l0_1 l1_0 l1_1 = some r) ∧ Aside0 (kq ≤ k) ∧ Aside0 (wc.heap[gb184]? = some (.cells #[(.slice A0_0 l0_0.length c0_0), (.slice A0_1 l0_1.length c0_1)] 25 (0, 0))) ∧ Aside0 (wc.heap[gb185]? = some (.cells #[(.slice A1_0 l1_0.length c1_0), (.slice A1_1 l1_1.length c1_1)] 25 (0, 0))) ∧ Aside0 (Below w.heap.size w wc))
  case first =>
    have H := HC3.out
    clear HC3
    replace H := Option.bind_eq_some_iff.mp H
    obtain ⟨t186, A60, H⟩ := H
    replace H : (if t186 = true then (sextonref04_Same.j0 k ((l0_1.length : Int) != (l1_1.length : Int)) l0_0 l0_1 l1_0 l1_1) else (sextonref04_Same.j0 k true l0_0 l0_1 l1_0 l1_1)) = some r := H
    have A6 := Aside0.mk A60
    clear A60
    by_cases c7 : t186 = true
    · subst c7
      have H1 : (sextonref04_Same.j0 k ((l0_1.length : Int) != (l1_1.length : Int)) l0_0 l0_1 l1_0 l1_1) = some r := by rw [if_pos rfl] at H; exact H
      clear H
      have H := H1
      clear H1
      have H' := Aside0.mk H
      clear H
      have hnb8 := NB184_185.out
      have hnc8 := NB185_184.out
      have hcz9_0 : w5.cell? ⟨gb184, 0, none⟩ = some (.slice A0_0 l0_0.length c0_0) := (blk_cell BK184.out 0).trans rfl
      have hcz9_1 : w5.cell? ⟨gb184, 1, none⟩ = some (.slice A0_1 l0_1.length c0_1) := (blk_cell BK184.out 1).trans rfl
      have hfz9_0 := blk_frozen BK184.out 0
      have hfz9_1 := blk_frozen BK184.out 1
      have hcz10_0 : w5.cell? ⟨gb185, 0, none⟩ = some (.slice A1_0 l1_0.length c1_0) := (blk_cell BK185.out 0).trans rfl
      have hcz10_1 : w5.cell? ⟨gb185, 1, none⟩ = some (.slice A1_1 l1_1.length c1_1) := (blk_cell BK185.out 1).trans rfl
      have hfz10_0 := blk_frozen BK185.out 0
      have hfz10_1 := blk_frozen BK185.out 1
      go_wp2_with (first | (go_at_call 38; (with_reducible refine (sextonref01_Texts.calls k _ _ l0_0 _ _ l1_0 true _ ?side1 ?side2 ?side3 ?side4 A6.out).mono ?_); (case side1 => repeat (first | exact (Kd.C_below HR0_0.out HB.out) | (with_reducible refine Kd.C_alloc ?_ _) | (with_reducible refine Kd.C_drewN ?_ _) | (with_reducible refine Kd.C_drew ?_))); (case side2 => exact HC0_0.out); (case side3 => repeat (first | exact (Kd.C_below HR1_0.out HB.out) | (with_reducible refine Kd.C_alloc ?_ _) | (with_reducible refine Kd.C_drewN ?_ _) | (with_reducible refine Kd.C_drew ?_))); (case side4 => exact HC1_0.out); rintro e w' ⟨rfl, ⟨nd, rfl⟩⟩; (try first | exact ⟨rfl, _, World.drewN_drewN _ _ _⟩ | exact ⟨rfl, _, Eq.trans (World.drewN_drewN _ _ _) (congrArg (World.drewN _) (Nat.add_assoc _ _ _))⟩)))
      repeat (go_quiet (first | (go_at_call 38; (with_reducible refine (sextonref01_Texts.calls k _ _ l0_0 _ _ l1_0 true _ ?side1 ?side2 ?side3 ?side4 A6.out).mono ?_); (case side1 => repeat (first | exact (Kd.C_below HR0_0.out HB.out) | (with_reducible refine Kd.C_alloc ?_ _) | (with_reducible refine Kd.C_drewN ?_ _) | (with_reducible refine Kd.C_drew ?_))); (case side2 => exact HC0_0.out); (case side3 => repeat (first | exact (Kd.C_below HR1_0.out HB.out) | (with_reducible refine Kd.C_alloc ?_ _) | (with_reducible refine Kd.C_drewN ?_ _) | (with_reducible refine Kd.C_drew ?_))); (case side4 => exact HC1_0.out); rintro e w' ⟨rfl, ⟨nd, rfl⟩⟩; (try first | exact ⟨rfl, _, World.drewN_drewN _ _ _⟩ | exact ⟨rfl, _, Eq.trans (World.drewN_drewN _ _ _) (congrArg (World.drewN _) (Nat.add_assoc _ _ _))⟩))); try go_wp2_with (first | (go_at_call 38; (with_reducible refine (sextonref01_Texts.calls k _ _ l0_0 _ _ l1_0 true _ ?side1 ?side2 ?side3 ?side4 A6.out).mono ?_); (case side1 => repeat (first | exact (Kd.C_below HR0_0.out HB.out) | (with_reducible refine Kd.C_alloc ?_ _) | (with_reducible refine Kd.C_drewN ?_ _) | (with_reducible refine Kd.C_drew ?_))); (case side2 => exact HC0_0.out); (case side3 => repeat (first | exact (Kd.C_below HR1_0.out HB.out) | (with_reducible refine Kd.C_alloc ?_ _) | (with_reducible refine Kd.C_drewN ?_ _) | (with_reducible refine Kd.C_drew ?_))); (case side4 => exact HC1_0.out); rintro e w' ⟨rfl, ⟨nd, rfl⟩⟩; (try first | exact ⟨rfl, _, World.drewN_drewN _ _ _⟩ | exact ⟨rfl, _, Eq.trans (World.drewN_drewN _ _ _) (congrArg (World.drewN _) (Nat.add_assoc _ _ _))⟩))))
      go_meet
      case rel => exact ⟨_, (((l0_1.length : Int) != (l1_1.length : Int))), (by first | rfl | (simp; done) | (simp [*]; done)), H', ⟨by first | omega | exact Nat.le_refl _⟩, ⟨by (with_reducible repeat (first | refine blk_drewN ?_ _ | refine blk_drew ?_ | refine blk_alloc ?_ _)); exact BK184.out⟩, ⟨by (with_reducible repeat (first | refine blk_drewN ?_ _ | refine blk_drew ?_ | refine blk_alloc ?_ _)); exact BK185.out⟩, ⟨by repeat (first | (with_reducible first | exact HB.out | apply below_alloc | apply pw_below_drewN | apply below_drew1 | refine below_set ?_ GE184.out | refine below_set ?_ GE185.out) | exact HB.out)⟩⟩
    · replace c7 := Bool.eq_false_iff.mpr c7
      subst c7
      have H1 : (sextonref04_Same.j0 k true l0_0 l0_1 l1_0 l1_1) = some r := by rw [if_neg (show ¬ (false = true) by decide)] at H; exact H
      clear H
      have H := H1
      clear H1
      have H' := Aside0.mk H
      clear H
      have hnb11 := NB184_185.out
      have hnc11 := NB185_184.out
      have hcz12_0 : w5.cell? ⟨gb184, 0, none⟩ = some (.slice A0_0 l0_0.length c0_0) := (blk_cell BK184.out 0).trans rfl
      have hcz12_1 : w5.cell? ⟨gb184, 1, none⟩ = some (.slice A0_1 l0_1.length c0_1) := (blk_cell BK184.out 1).trans rfl
      have hfz12_0 := blk_frozen BK184.out 0
      have hfz12_1 := blk_frozen BK184.out 1
      have hcz13_0 : w5.cell? ⟨gb185, 0, none⟩ = some (.slice A1_0 l1_0.length c1_0) := (blk_cell BK185.out 0).trans rfl
      have hcz13_1 : w5.cell? ⟨gb185, 1, none⟩ = some (.slice A1_1 l1_1.length c1_1) := (blk_cell BK185.out 1).trans rfl
      have hfz13_0 := blk_frozen BK185.out 0
      have hfz13_1 := blk_frozen BK185.out 1
      go_wp2_with (first | (go_at_call 38; (with_reducible refine (sextonref01_Texts.calls k _ _ l0_0 _ _ l1_0 false _ ?side1 ?side2 ?side3 ?side4 A6.out).mono ?_); (case side1 => repeat (first | exact (Kd.C_below HR0_0.out HB.out) | (with_reducible refine Kd.C_alloc ?_ _) | (with_reducible refine Kd.C_drewN ?_ _) | (with_reducible refine Kd.C_drew ?_))); (case side2 => exact HC0_0.out); (case side3 => repeat (first | exact (Kd.C_below HR1_0.out HB.out) | (with_reducible refine Kd.C_alloc ?_ _) | (with_reducible refine Kd.C_drewN ?_ _) | (with_reducible refine Kd.C_drew ?_))); (case side4 => exact HC1_0.out); rintro e w' ⟨rfl, ⟨nd, rfl⟩⟩; (try first | exact ⟨rfl, _, World.drewN_drewN _ _ _⟩ | exact ⟨rfl, _, Eq.trans (World.drewN_drewN _ _ _) (congrArg (World.drewN _) (Nat.add_assoc _ _ _))⟩)))
      repeat (go_quiet (first | (go_at_call 38; (with_reducible refine (sextonref01_Texts.calls k _ _ l0_0 _ _ l1_0 false _ ?side1 ?side2 ?side3 ?side4 A6.out).mono ?_); (case side1 => repeat (first | exact (Kd.C_below HR0_0.out HB.out) | (with_reducible refine Kd.C_alloc ?_ _) | (with_reducible refine Kd.C_drewN ?_ _) | (with_reducible refine Kd.C_drew ?_))); (case side2 => exact HC0_0.out); (case side3 => repeat (first | exact (Kd.C_below HR1_0.out HB.out) | (with_reducible refine Kd.C_alloc ?_ _) | (with_reducible refine Kd.C_drewN ?_ _) | (with_reducible refine Kd.C_drew ?_))); (case side4 => exact HC1_0.out); rintro e w' ⟨rfl, ⟨nd, rfl⟩⟩; (try first | exact ⟨rfl, _, World.drewN_drewN _ _ _⟩ | exact ⟨rfl, _, Eq.trans (World.drewN_drewN _ _ _) (congrArg (World.drewN _) (Nat.add_assoc _ _ _))⟩))); try go_wp2_with (first | (go_at_call 38; (with_reducible refine (sextonref01_Texts.calls k _ _ l0_0 _ _ l1_0 false _ ?side1 ?side2 ?side3 ?side4 A6.out).mono ?_); (case side1 => repeat (first | exact (Kd.C_below HR0_0.out HB.out) | (with_reducible refine Kd.C_alloc ?_ _) | (with_reducible refine Kd.C_drewN ?_ _) | (with_reducible refine Kd.C_drew ?_))); (case side2 => exact HC0_0.out); (case side3 => repeat (first | exact (Kd.C_below HR1_0.out HB.out) | (with_reducible refine Kd.C_alloc ?_ _) | (with_reducible refine Kd.C_drewN ?_ _) | (with_reducible refine Kd.C_drew ?_))); (case side4 => exact HC1_0.out); rintro e w' ⟨rfl, ⟨nd, rfl⟩⟩; (try first | exact ⟨rfl, _, World.drewN_drewN _ _ _⟩ | exact ⟨rfl, _, Eq.trans (World.drewN_drewN _ _ _) (congrArg (World.drewN _) (Nat.add_assoc _ _ _))⟩))))
      go_meet
      case rel => exact ⟨_, (true), (by first | rfl | (simp; done) | (simp [*]; done)), H', ⟨by first | omega | exact Nat.le_refl _⟩, ⟨by (with_reducible repeat (first | refine blk_drewN ?_ _ | refine blk_drew ?_ | refine blk_alloc ?_ _)); exact BK184.out⟩, ⟨by (with_reducible repeat (first | refine blk_drewN ?_ _ | refine blk_drew ?_ | refine blk_alloc ?_ _)); exact BK185.out⟩, ⟨by repeat (first | (with_reducible first | exact HB.out | apply below_alloc | apply pw_below_drewN | apply below_drew1 | refine below_set ?_ GE184.out | refine below_set ?_ GE185.out) | exact HB.out)⟩⟩
  case rest =>
    clear HC3
    try clear c1
    try clear c2
    try clear p2
    try clear c7
    try clear c8
    try clear c11
    try clear hcz10_0
    try clear hcz10_1
    try clear hcz12_0
    try clear hcz12_1
    try clear hcz13_0
    try clear hcz13_1
    try clear hcz9_0
    try clear hcz9_1
    try clear hfz10_0
    try clear hfz10_1
    try clear hfz12_0
    try clear hfz12_1
    try clear hfz13_0
    try clear hfz13_1
    try clear hfz9_0
    try clear hfz9_1
    obtain ⟨kq, x20_2, rfl, HA, HJ2, BK184, BK185, HB⟩ := hcut
    cases kq with
    | zero => exact absurd HA.out (by simp [sextonref04_Same.j0])
    | succ kj2 =>
      have H := HA.out
      clear HA
      simp only [sextonref04_Same.j0] at H
      by_cases c14 : x20_2 = true
      · subst c14
        have H1 : (some false) = some r := by rw [if_pos rfl] at H; exact H
        clear H
        have H := H1
        clear H1
        obtain rfl := Option.some.inj H
        go_wp2
        repeat (go_quiet (fail); try go_wp2)
        go_ret
        exact ⟨by first | rfl | (simp [errW_none, errW_some] <;> rfl) | (simp [*, errW_none, errW_some] <;> rfl), by repeat (first | (with_reducible first | exact HB.out | apply below_alloc | apply pw_below_drewN | apply below_drew1 | refine below_set ?_ GE184.out | refine below_set ?_ GE185.out) | exact HB.out)⟩
      · replace c14 := Bool.eq_false_iff.mpr c14
        subst c14
        have H1 : (sextonref04_Same.l0 kj2 0 l0_0 l0_1 l1_0 l1_1) = some r := by rw [if_neg (show ¬ (false = true) by decide)] at H; exact H
        clear H
        have H := H1
        clear H1
        have H' := Aside0.mk H
        clear H
        go_wp2
        repeat (go_quiet (fail); try go_wp2)
        go_loopg [5] kj2 (fun kq v5 w' => ∃ (x5_2 : Int), v5 = .int .i64 x5_2 ∧ Aside0 (sextonref04_Same.l0 kq x5_2 l0_0 l0_1 l1_0 l1_1 = some r) ∧ Aside0 (kq ≤ kj2) ∧ Aside0 (w'.heap[gb184]? = some (.cells #[(.slice A0_0 l0_0.length c0_0), (.slice A0_1 l0_1.length c0_1)] 25 (0, 0))) ∧ Aside0 (w'.heap[gb185]? = some (.cells #[(.slice A1_0 l1_0.length c1_0), (.slice A1_1 l1_1.length c1_1)] 25 (0, 0))) ∧ Aside0 (Below w.heap.size w w'))
        case atStart => exact ⟨(0), (by first | rfl | (simp; done) | (simp [*]; done)), H', ⟨Nat.le_refl _⟩, ⟨by (with_reducible repeat (first | refine blk_drewN ?_ _ | refine blk_drew ?_ | refine blk_alloc ?_ _)); exact BK184.out⟩, ⟨by (with_reducible repeat (first | refine blk_drewN ?_ _ | refine blk_drew ?_ | refine blk_alloc ?_ _)); exact BK185.out⟩, ⟨by repeat (first | (with_reducible first | exact HB.out | apply below_alloc | apply pw_below_drewN | apply below_drew1 | refine below_set ?_ GE184.out | refine below_set ?_ GE185.out) | exact HB.out)⟩⟩
        case round =>
          clear H'
          try clear c1
          try clear c2
          try clear p2
          try clear c7
          try clear c8
          try clear c11
          try clear c14
          try clear hcz10_0
          try clear hcz10_1
          try clear hcz12_0
          try clear hcz12_1
          try clear hcz13_0
          try clear hcz13_1
          try clear hcz9_0
          try clear hcz9_1
          try clear hfz10_0
          try clear hfz10_1
          try clear hfz12_0
          try clear hfz12_1
          try clear hfz13_0
          try clear hfz13_1
          try clear hfz9_0
          try clear hfz9_1
          try clear p2
          obtain ⟨x5_2, rfl, HA, HK2, BK184, BK185, HB⟩ := hrel
          cases gk with
          | zero => exact absurd HA.out (by simp [sextonref04_Same.l0])
          | succ k2 =>
            have H := HA.out
            clear HA
            simp only [sextonref04_Same.l0] at H
            by_cases c15 : x5_2 < (l0_1.length : Int)
            · rw [if_pos c15] at H
              have c15b0 : decide (x5_2 < (l0_1.length : Int)) = true := decide_eq_true c15
              clear c15
              by_cases c16 : 0 ≤ x5_2
              · rw [if_pos c16] at H
                have c16b0 : decide (0 ≤ x5_2) = true := decide_eq_true c16
                clear c16
                by_cases c17 : x5_2 < (l1_1.length : Int)
                · rw [if_pos c17] at H
                  have c17b0 : decide (x5_2 < (l1_1.length : Int)) = true := decide_eq_true c17
                  clear c17
                  by_cases c18 : (!(((rd_T40 l0_1 x5_2).f0) == ((rd_T40 l1_1 x5_2).f0)) || (!((((rd_T40 l0_1 x5_2).f1).toList) == (((rd_T40 l1_1 x5_2).f1).toList)))) = true
                  · rw [if_pos c18] at H
                    have c18b0 : (!(((rd_T40 l0_1 x5_2).f0) == ((rd_T40 l1_1 x5_2).f0)) || (!((((rd_T40 l0_1 x5_2).f1).toList) == (((rd_T40 l1_1 x5_2).f1).toList)))) = true := c18
                    clear c18
                    obtain rfl := Option.some.inj H
                    have hnb19 := NB184_185.out
                    have hnc19 := NB185_184.out
                    have hcz20_0 : wr.cell? ⟨gb184, 0, none⟩ = some (.slice A0_0 l0_0.length c0_0) := (blk_cell BK184.out 0).trans rfl
                    have hcz20_1 : wr.cell? ⟨gb184, 1, none⟩ = some (.slice A0_1 l0_1.length c0_1) := (blk_cell BK184.out 1).trans rfl
                    have hfz20_0 := blk_frozen BK184.out 0
                    have hfz20_1 := blk_frozen BK184.out 1
                    have p187 : 0 ≤ (x5_2 : Int) := of_decide_eq_true (by first | (with_reducible assumption) | assumption)
                    have q187 : x5_2 < (l0_1.length : Int) := of_decide_eq_true (by first | (with_reducible assumption) | assumption)
                    obtain ⟨ad187, e187, hx187_0, hx187_1⟩ := at_T40 HR0_1.out x5_2 p187 q187
                    cases e187
                    replace hx187_0 := (HB.out.cell (World.block_lt_of_cell? w _ hx187_0)).trans hx187_0
                    replace hx187_1 := (HB.out.cell (World.block_lt_of_cell? w _ hx187_1)).trans hx187_1
                    replace p187 := eq_true p187
                    replace q187 := eq_true q187
                    have hcz21_0 : wr.cell? ⟨gb185, 0, none⟩ = some (.slice A1_0 l1_0.length c1_0) := (blk_cell BK185.out 0).trans rfl
                    have hcz21_1 : wr.cell? ⟨gb185, 1, none⟩ = some (.slice A1_1 l1_1.length c1_1) := (blk_cell BK185.out 1).trans rfl
                    have hfz21_0 := blk_frozen BK185.out 0
                    have hfz21_1 := blk_frozen BK185.out 1
                    have p188 : 0 ≤ (x5_2 : Int) := of_decide_eq_true (by first | (with_reducible assumption) | assumption)
                    have q188 : x5_2 < (l1_1.length : Int) := of_decide_eq_true (by first | (with_reducible assumption) | assumption)
                    obtain ⟨ad188, e188, hx188_0, hx188_1⟩ := at_T40 HR1_1.out x5_2 p188 q188
                    cases e188
                    replace hx188_0 := (HB.out.cell (World.block_lt_of_cell? w _ hx188_0)).trans hx188_0
                    replace hx188_1 := (HB.out.cell (World.block_lt_of_cell? w _ hx188_1)).trans hx188_1
                    replace p188 := eq_true p188
                    replace q188 := eq_true q188
                    go_wp2
                    repeat (go_quiet (fail); try go_wp2)
                    go_ret
                    exact ⟨by first | rfl | (simp [errW_none, errW_some] <;> rfl) | (simp [*, errW_none, errW_some] <;> rfl), by repeat (first | (with_reducible first | exact HB.out | apply below_alloc | apply pw_below_drewN | apply below_drew1 | refine below_set ?_ GE184.out | refine below_set ?_ GE185.out) | exact HB.out)⟩
                  · rw [if_neg c18] at H
                    have c18b0 : (!(((rd_T40 l0_1 x5_2).f0) == ((rd_T40 l1_1 x5_2).f0)) || (!((((rd_T40 l0_1 x5_2).f1).toList) == (((rd_T40 l1_1 x5_2).f1).toList)))) = false := by simpa using c18
                    clear c18
                    have H' := Aside0.mk H
                    clear H
                    have hnb22 := NB184_185.out
                    have hnc22 := NB185_184.out
                    have hcz23_0 : wr.cell? ⟨gb184, 0, none⟩ = some (.slice A0_0 l0_0.length c0_0) := (blk_cell BK184.out 0).trans rfl
                    have hcz23_1 : wr.cell? ⟨gb184, 1, none⟩ = some (.slice A0_1 l0_1.length c0_1) := (blk_cell BK184.out 1).trans rfl
                    have hfz23_0 := blk_frozen BK184.out 0
                    have hfz23_1 := blk_frozen BK184.out 1
                    have p187 : 0 ≤ (x5_2 : Int) := of_decide_eq_true (by first | (with_reducible assumption) | assumption)
                    have q187 : x5_2 < (l0_1.length : Int) := of_decide_eq_true (by first | (with_reducible assumption) | assumption)
                    obtain ⟨ad187, e187, hx187_0, hx187_1⟩ := at_T40 HR0_1.out x5_2 p187 q187
                    cases e187
                    replace hx187_0 := (HB.out.cell (World.block_lt_of_cell? w _ hx187_0)).trans hx187_0
                    replace hx187_1 := (HB.out.cell (World.block_lt_of_cell? w _ hx187_1)).trans hx187_1
                    replace p187 := eq_true p187
                    replace q187 := eq_true q187
                    have hcz24_0 : wr.cell? ⟨gb185, 0, none⟩ = some (.slice A1_0 l1_0.length c1_0) := (blk_cell BK185.out 0).trans rfl
                    have hcz24_1 : wr.cell? ⟨gb185, 1, none⟩ = some (.slice A1_1 l1_1.length c1_1) := (blk_cell BK185.out 1).trans rfl
                    have hfz24_0 := blk_frozen BK185.out 0
                    have hfz24_1 := blk_frozen BK185.out 1
                    have p188 : 0 ≤ (x5_2 : Int) := of_decide_eq_true (by first | (with_reducible assumption) | assumption)
                    have q188 : x5_2 < (l1_1.length : Int) := of_decide_eq_true (by first | (with_reducible assumption) | assumption)
                    obtain ⟨ad188, e188, hx188_0, hx188_1⟩ := at_T40 HR1_1.out x5_2 p188 q188
                    cases e188
                    replace hx188_0 := (HB.out.cell (World.block_lt_of_cell? w _ hx188_0)).trans hx188_0
                    replace hx188_1 := (HB.out.cell (World.block_lt_of_cell? w _ hx188_1)).trans hx188_1
                    replace p188 := eq_true p188
                    replace q188 := eq_true q188
                    go_wp2
                    repeat (go_quiet (fail); try go_wp2)
                    go_roundg k2
                    case measure => have := HJ2.out; have := HK2.out; omega
                    case rel => exact ⟨(wrap64 (x5_2 + 1)), (by first | rfl | (simp; done) | (simp [*]; done)), H', ⟨by have := HJ2.out; have := HK2.out; omega⟩, ⟨by (with_reducible repeat (first | refine blk_drewN ?_ _ | refine blk_drew ?_ | refine blk_alloc ?_ _)); exact BK184.out⟩, ⟨by (with_reducible repeat (first | refine blk_drewN ?_ _ | refine blk_drew ?_ | refine blk_alloc ?_ _)); exact BK185.out⟩, ⟨by repeat (first | (with_reducible first | exact HB.out | apply below_alloc | apply pw_below_drewN | apply below_drew1 | refine below_set ?_ GE184.out | refine below_set ?_ GE185.out) | exact HB.out)⟩⟩
                · rw [if_neg c17] at H
                  exact absurd H (by simp)
              · rw [if_neg c16] at H
                exact absurd H (by simp)
            · rw [if_neg c15] at H
              have c15b0 : decide (x5_2 < (l0_1.length : Int)) = false := decide_eq_false c15
              clear c15
              obtain rfl := Option.some.inj H
              have hnb25 := NB184_185.out
              have hnc25 := NB185_184.out
              have hcz26_0 : wr.cell? ⟨gb184, 0, none⟩ = some (.slice A0_0 l0_0.length c0_0) := (blk_cell BK184.out 0).trans rfl
              have hcz26_1 : wr.cell? ⟨gb184, 1, none⟩ = some (.slice A0_1 l0_1.length c0_1) := (blk_cell BK184.out 1).trans rfl
              have hfz26_0 := blk_frozen BK184.out 0
              have hfz26_1 := blk_frozen BK184.out 1
              go_wp2
              repeat (go_quiet (fail); try go_wp2)
              go_ret
              exact ⟨by first | rfl | (simp [errW_none, errW_some] <;> rfl) | (simp [*, errW_none, errW_some] <;> rfl), by repeat (first | (with_reducible first | exact HB.out | apply below_alloc | apply pw_below_drewN | apply below_drew1 | refine below_set ?_ GE184.out | refine below_set ?_ GE185.out) | exact HB.out)⟩

end Go.Proofs.Ytoibofhmlokglaa.P
/-
  What a crash leaves, plainly.
-/
namespace Go.Proofs.Ytoibofhmlokglaa.P
open Go.RowKit Go.Proofs.YtoibofhmlokglaaW.PrintWords Go.Proofs.YtoibofhmlokglaaW.PrintLast Go.Proofs.Plain

end Go.Proofs.Ytoibofhmlokglaa.P
/-
  What a log's appends leave, plainly.
-/
namespace Go.Proofs.Ytoibofhmlokglaa.P
open Go.RowKit Go.Proofs Go.Proofs.CodecPlain Go.Proofs.YtoibofhmlokglaaW.PrintWords Go.Proofs.YtoibofhmlokglaaW.PrintLast Go.Proofs.Plain

/-- A record's bytes. -/
def recF (ep n : Int) (s : ByteArray) : ByteArray := frameOf ((numStr ep ++ numStr n) ++ s)
/-! ### Appends, one behind the other -/
def allV' (fr ep : Int) : List ByteArray → Int → List ByteArray → List S40 → List ByteArray × List S40 × Bool × Int
  | [], x, b, u => if x = 0 then (b, u, false, 0) else ((doneV (fun _ => true) b u).1, (doneV (fun _ => true) b u).2.1, true, (doneV (fun _ => true) b u).2.2)
  | s :: t, x, b, u => if x = 0 then (b, u, false, 0) else if (appendV b u fr ep s).2.2 = 0 then allV' fr ep t (if x > 0 then wrap64 (x - 1) else x) (appendV b u fr ep s).1 (appendV b u fr ep s).2.1 else ([], [], false, (appendV b u fr ep s).2.2)
def allV (l0 : List ByteArray) (l1 : List S40) (fr ep : Int) (l : List ByteArray) (x : Int) : List ByteArray × List S40 × Bool × Int :=
  if openE l0 l1 fr ep = 0 then allV' fr ep l (mn (mx x (-1)) (wrap64 ((l.length : Int) + 1))) l0 l1 else ([], [], false, openE l0 l1 fr ep)
theorem all_l0 (fr ep : Int) (l : List ByteArray) (hl : l.length ≤ 9223372036854775807) (d : Nat) : ∀ (i : Nat) (x : Int) (b : List ByteArray) (u : List S40), i + d = l.length → Ev (fun k => wal_All.l0 k fr ep x l (l.length : Int) (i : Int) b u) (allV' fr ep (l.drop i) x b u) := by
  induction d with
  | zero =>
    intro i x b u hi
    rw [List.drop_of_length_le (by omega)]
    refine Ev.step (f := fun _ => some (allV' fr ep [] x b u)) (fun k => ?_) (Ev.now _)
    simp only [wal_All.l0, disk_Sync.f, Option.bind_some, allV']
    rw [if_neg (by omega)]
    split <;> rfl
  | succ d ih =>
    intro i x b u hi
    have hlt : i < l.length := by omega
    have hdr : l.drop i = l[i] :: l.drop (i + 1) := List.drop_eq_getElem_cons hlt
    have hrd : rdOf ByteArray.empty l (i : Int) = l[i] := by simp [rdOf, List.getD_eq_getElem?_getD, hlt]
    have hw : wrap64 ((i : Int) + 1) = ((i + 1 : Nat) : Int) := wrap_at (by omega) (by omega)
    rw [hdr]
    unfold allV'
    by_cases hx : x = 0
    · rw [if_pos hx]
      refine Ev.step (f := fun _ => some (b, u, false, 0)) (fun k => ?_) (Ev.now _)
      simp only [wal_All.l0]
      rw [if_pos (by omega), if_pos (by omega), if_pos (by omega), if_pos hx]
    · rw [if_neg hx]
      by_cases he : (appendV b u fr ep l[i]).2.2 = 0
      · rw [if_pos he]
        refine Ev.step (f := fun k => wal_All.l0 k fr ep (if x > 0 then wrap64 (x - 1) else x) l (l.length : Int) ((i + 1 : Nat) : Int) (appendV b u fr ep l[i]).1 (appendV b u fr ep l[i]).2.1) (fun k => ?_) (ih (i + 1) _ _ _ (by omega))
        simp only [wal_All.l0, wal_Append.f, Option.bind_some, hrd]
        rw [if_pos (by omega), if_pos (by omega), if_pos (by omega), if_neg hx, if_pos he, hw]
        split <;> rfl
      · rw [if_neg he]
        refine Ev.step (f := fun _ => some ([], [], false, (appendV b u fr ep l[i]).2.2)) (fun k => ?_) (Ev.now _)
        simp only [wal_All.l0, wal_Append.f, Option.bind_some, hrd]
        rw [if_pos (by omega), if_pos (by omega), if_pos (by omega), if_neg hx, if_neg he]
theorem all_ev (l0 : List ByteArray) (l1 : List S40) (fr ep : Int) (l : List ByteArray) (hl : l.length ≤ 9223372036854775807) (x : Int) : Ev (fun k => wal_All.f k l0 l1 fr ep l x) (allV l0 l1 fr ep l x) := by
  unfold wal_All.f allV
  have ho : Ev (fun k => wal_open.f k l0 l1 fr ep) (openE l0 l1 fr ep) := Ev.step (f := fun _ => some (openE l0 l1 fr ep)) (fun k => open_e k _ _ _ _) (Ev.now _)
  refine Ev.bind ho ?_
  by_cases he : openE l0 l1 fr ep = 0
  · simp only [if_pos he]
    obtain ⟨hck, _⟩ := openE_ok he
    obtain ⟨h1, h2, h3, _⟩ := check_len hck
    have := all_l0 fr ep l hl l.length 0 (mn (mx x (-1)) (wrap64 ((l.length : Int) + 1))) l0 l1 (by omega)
    rw [List.drop_zero] at this
    refine Ev.congr (fun k => ?_) this
    unfold slices_Clone_string_string.f slices_Clone_WN.f
    rw [if_pos (by omega), if_pos (by omega)]
    rfl
  · simp only [if_neg he]
    exact Ev.now _
end Go.Proofs.Ytoibofhmlokglaa.P
/-
  'Big' of chapter 4's reference ends.
-/
namespace Go.Proofs.Ytoibofhmlokglaa.P
open Go.RowKit Go.Proofs.YtoibofhmlokglaaW.PrintWords Go.Proofs.YtoibofhmlokglaaW.PrintLast Go.Proofs.Plain

theorem big_l1 (l0 : List ByteArray) (l1 : List S40) (d : Nat) : ∀ (k : Nat) (x : Int), k + d = l1.length → ∃ b, Ev (fun r => sextonref04_Big.l1 r x (k : Int) l0 l1) b := by
  have tail : ∀ x : Int, ∃ b, (if (l0.length : Int) > 250 then (some true) else (if (l1.length : Int) > 150 then (some true) else (some (decide (x > 400))))) = some b := by
    intro x
    split
    · exact ⟨_, rfl⟩
    · split <;> exact ⟨_, rfl⟩
  induction d with
  | zero =>
    intro k x hk
    obtain ⟨b, hb⟩ := tail x
    exact ⟨b, Ev.step (f := fun _ => some b) (fun r => by simp only [sextonref04_Big.l1]; rw [if_neg (by omega)]; exact hb) (Ev.now _)⟩
  | succ d ih =>
    intro k x hk
    by_cases hl : (l1.length : Int) ≤ 150
    · obtain ⟨b, hb⟩ := ih (k + 1) (mx x (((rd_T40 l1 (k : Int)).f1).size : Int)) (by omega)
      refine ⟨b, Ev.step (f := fun r => sextonref04_Big.l1 r (mx x (((rd_T40 l1 (k : Int)).f1).size : Int)) ((k + 1 : Nat) : Int) l0 l1) (fun r => ?_) hb⟩
      simp only [sextonref04_Big.l1]
      rw [if_pos (by omega), if_pos hl, if_pos (by omega), wrap_at (by omega) (by omega)]
      rfl
    · obtain ⟨b, hb⟩ := tail x
      exact ⟨b, Ev.step (f := fun _ => some b) (fun r => by simp only [sextonref04_Big.l1]; rw [if_pos (by omega), if_neg hl]; exact hb) (Ev.now _)⟩

theorem big_l0 (l0 : List ByteArray) (l1 : List S40) (d : Nat) : ∀ (k : Nat) (x : Int), k + d = l0.length → ∃ b, Ev (fun r => sextonref04_Big.l0 r x (k : Int) l0 l1) b := by
  have tail : ∀ x : Int, ∃ b, Ev (fun r => sextonref04_Big.j1 r x l0 l1) b := by
    intro x
    obtain ⟨b, hb⟩ := big_l1 l0 l1 l1.length 0 x (by omega)
    exact ⟨b, Ev.step (f := fun r => sextonref04_Big.l1 r x ((0 : Nat) : Int) l0 l1) (fun r => by simp only [sextonref04_Big.j1]; rfl) hb⟩
  induction d with
  | zero =>
    intro k x hk
    obtain ⟨b, hb⟩ := tail x
    exact ⟨b, Ev.step (f := fun r => sextonref04_Big.j1 r x l0 l1) (fun r => by simp only [sextonref04_Big.l0]; rw [if_neg (by omega)]) hb⟩
  | succ d ih =>
    intro k x hk
    by_cases hl : (l0.length : Int) ≤ 250
    · obtain ⟨b, hb⟩ := ih (k + 1) (mx x ((rdOf ByteArray.empty l0 (k : Int)).size : Int)) (by omega)
      refine ⟨b, Ev.step (f := fun r => sextonref04_Big.l0 r (mx x ((rdOf ByteArray.empty l0 (k : Int)).size : Int)) ((k + 1 : Nat) : Int) l0 l1) (fun r => ?_) hb⟩
      simp only [sextonref04_Big.l0]
      rw [if_pos (by omega), if_pos hl, if_pos (by omega), wrap_at (by omega) (by omega)]
      rfl
    · obtain ⟨b, hb⟩ := tail x
      exact ⟨b, Ev.step (f := fun r => sextonref04_Big.j1 r x l0 l1) (fun r => by simp only [sextonref04_Big.l0]; rw [if_pos (by omega), if_neg hl]) hb⟩
theorem big_ends (l0 : List ByteArray) (l1 : List S40) : ∃ b, Ev (fun k => sextonref04_Big.f k l0 l1) b := by
  obtain ⟨b, hb⟩ := big_l0 l0 l1 l0.length 0 0 (by omega)
  exact ⟨b, Ev.congr (f := fun r => sextonref04_Big.l0 r 0 ((0 : Nat) : Int) l0 l1) (fun k => rfl) hb⟩
end Go.Proofs.Ytoibofhmlokglaa.P
/-
  Words for the references, told plainly.
-/
namespace Go.Proofs.Ytoibofhmlokglaa.P
open Go.RowKit Go.Proofs.CodecPlain Go.Proofs.YtoibofhmlokglaaW.PrintWords Go.Proofs.YtoibofhmlokglaaW.PrintLast

theorem toList_inj {a b : ByteArray} (h : a.toList = b.toList) : a = b := by
  rw [ByteArray.toList_eq, ByteArray.toList_eq] at h; exact ba_ext h

theorem wrap_id {x : Int} (h0 : -9223372036854775808 ≤ x) (h1 : x ≤ 9223372036854775807) : wrap64 x = x := by unfold wrap64; omega

theorem strOfNums_size (l : List Int) : (strOfNums l).size = l.length := by simp [strOfNums, ByteArray.size]

theorem strOfNums_list (l : List Int) : (strOfNums l).data.toList = l.map u8 := by simp [strOfNums, u8]

theorem rd_str (l : List ByteArray) (k : Nat) (h : k < l.length) : rdOf ByteArray.empty l (k : Int) = l[k] := by
  simp [rdOf, List.getD_eq_getElem?_getD, h]
end Go.Proofs.Ytoibofhmlokglaa.P
/-
  sextonref01.Texts, told plainly.
-/
namespace Go.Proofs.Ytoibofhmlokglaa.P
open Go.RowKit Go.Proofs.CodecPlain Go.Proofs.YtoibofhmlokglaaW.PrintWords Go.Proofs.YtoibofhmlokglaaW.PrintLast

theorem refTexts_l0 (a b : List ByteArray) (hl : a.length = b.length) (hm : a.length ≤ 9223372036854775806) (d : Nat) : ∀ k : Nat, k + d = a.length → Ev (fun r => sextonref01_Texts.l0 r a b (k : Int)) (decide (a.drop k = b.drop k)) := by
  induction d with
  | zero =>
    intro k hk
    have h1 : a.drop k = [] := List.drop_of_length_le (by omega)
    have h2 : b.drop k = [] := List.drop_of_length_le (by omega)
    rw [h1, h2]
    exact Ev.step (f := fun _ => some true) (fun r => by simp only [sextonref01_Texts.l0]; rw [if_neg (by omega)]) (Ev.now _)
  | succ d ih =>
    intro k hk
    have ha : k < a.length := by omega
    have hb : k < b.length := by omega
    have e1 : a.drop k = a[k] :: a.drop (k + 1) := List.drop_eq_getElem_cons ha
    have e2 : b.drop k = b[k] :: b.drop (k + 1) := List.drop_eq_getElem_cons hb
    by_cases he : a[k] = b[k]
    · refine Ev.step (f := fun r => sextonref01_Texts.l0 r a b ((k + 1 : Nat) : Int)) (fun r => ?_) ?_
      · simp only [sextonref01_Texts.l0]
        rw [if_pos (by omega), if_pos (by omega), if_pos (by omega), rd_str a k ha, rd_str b k hb, if_pos (by rw [he]), wrap_id (by omega) (by omega)]
        rfl
      · have := ih (k + 1) (by omega)
        rw [e1, e2, he]
        simp only [List.cons.injEq, true_and]
        exact this
    · refine Ev.step (f := fun _ => some false) (fun r => ?_) ?_
      · simp only [sextonref01_Texts.l0]
        rw [if_pos (by omega), if_pos (by omega), if_pos (by omega), rd_str a k ha, rd_str b k hb, if_neg (fun h => he (toList_inj h))]
      · rw [e1, e2, decide_eq_false (fun h => he (List.cons.inj h).1)]
        exact Ev.now _

theorem refTexts (a b : List ByteArray) (hm : a.length ≤ 9223372036854775806) : Ev (fun r => sextonref01_Texts.f r a b) (decide (a = b)) := by
  by_cases hl : a.length = b.length
  · refine Ev.congr (f := fun r => sextonref01_Texts.l0 r a b 0) (fun r => by unfold sextonref01_Texts.f; rw [if_pos (by omega)]) ?_
    have := refTexts_l0 a b hl hm a.length 0 (by omega)
    simpa using this
  · rw [decide_eq_false (fun h => hl (by rw [h]))]
    exact Ev.congr (f := fun _ => some false) (fun r => by unfold sextonref01_Texts.f; rw [if_neg (by omega)]) (Ev.now _)
end Go.Proofs.Ytoibofhmlokglaa.P
-- Written by a program of this session (xprint.py) over the kit's print.py.
namespace Go.Proofs.Ytoibofhmlokglaa.P
open Go.RowKit Go.Proofs.YtoibofhmlokglaaW.PrintWords Go.Proofs.YtoibofhmlokglaaW.PrintLast Go.Proofs.YtoibofhmlokglaaW.PrintMore
attribute [local go_sem] max2_int min2_int max_two min_two max_three min_three max_four min_four   -- for this text's walks alone
set_option linter.unusedVariables false
set_option linter.unusedSimpArgs false

/-! ### sextonlaw07_front: function 39 -/
end Go.Proofs.Ytoibofhmlokglaa.P
/-
  'far' of chapter 7's statements ends; what appends to a new disk leave.
-/
namespace Go.Proofs.Ytoibofhmlokglaa.P
open Go.RowKit Go.Proofs Go.Proofs.CodecPlain Go.Proofs.YtoibofhmlokglaaW.PrintWords Go.Proofs.YtoibofhmlokglaaW.PrintLast Go.Proofs.Plain

theorem far7_ends (l0 : List ByteArray) (l1 : List S40) (l : List ByteArray) (hl : l.length ≤ 9223372036854775807) : ∃ b, Ev (fun k => sextonlaw07_far.f k l0 l1 l) b := by
  unfold sextonlaw07_far.f
  suffices H : ∀ d i : Nat, i + d = l.length → ∃ b, Ev (fun k => sextonlaw07_far.l0 k l (i : Int) l0 l1) b from H l.length 0 (by omega)
  intro d
  induction d with
  | zero =>
    intro i hi
    obtain ⟨g, hg⟩ := big_ends l0 l1
    have hst : ∀ k, sextonlaw07_far.l0 (k + 1) l (i : Int) l0 l1 = (sextonref04_Big.f k l0 l1).bind fun t => if t = true then some true else (if (l0.length : Int) > 20 then (if (l0.length : Int) ≤ 200 then some true else some (decide ((l.length : Int) > 30))) else some (decide ((l.length : Int) > 30))) := fun k => by
      simp only [sextonlaw07_far.l0]
      rw [if_neg (by omega)]
    cases g
    · exact ⟨if (l0.length : Int) > 20 then (if (l0.length : Int) ≤ 200 then true else decide ((l.length : Int) > 30)) else decide ((l.length : Int) > 30), Ev.step hst (Ev.bind hg (Ev.congr (f := fun _ => some (if (l0.length : Int) > 20 then (if (l0.length : Int) ≤ 200 then true else decide ((l.length : Int) > 30)) else decide ((l.length : Int) > 30))) (fun k => by
        rw [if_neg (by decide)]
        split
        · split <;> rfl
        · rfl) (Ev.now _)))⟩
    · exact ⟨true, Ev.step hst (Ev.bind hg (Ev.congr (f := fun _ => some true) (fun k => by rw [if_pos rfl]) (Ev.now _)))⟩
  | succ d ih =>
    intro i hi
    obtain ⟨b, hb⟩ := ih (i + 1) (by omega)
    have hw : wrap64 ((i : Int) + 1) = ((i + 1 : Nat) : Int) := wrap_at (by omega) (by omega)
    by_cases hs : ((rdOf ByteArray.empty l (i : Int)).size : Int) > 300
    · refine ⟨true, Ev.step (f := fun _ => some true) (fun k => ?_) (Ev.now _)⟩
      simp only [sextonlaw07_far.l0]
      rw [if_pos (by omega), if_pos (by omega), if_pos hs]
    · refine ⟨b, Ev.step (f := fun k => sextonlaw07_far.l0 k l ((i + 1 : Nat) : Int) l0 l1) (fun k => ?_) hb⟩
      simp only [sextonlaw07_far.l0]
      rw [if_pos (by omega), if_pos (by omega), if_neg hs, hw]
/-- A disk that is not far has few texts beside it. -/
theorem far7_short (l0 : List ByteArray) (l1 : List S40) (l : List ByteArray) (hl : l.length ≤ 9223372036854775807) (hb : Ev (fun k => sextonlaw07_far.f k l0 l1 l) false) : l.length ≤ 30 := by
  unfold sextonlaw07_far.f at hb
  suffices H : ∀ d i : Nat, i + d = l.length → Ev (fun k => sextonlaw07_far.l0 k l (i : Int) l0 l1) false → l.length ≤ 30 from H l.length 0 (by omega) hb
  intro d
  induction d with
  | zero =>
    intro i hi h
    obtain ⟨K, e⟩ := h
    have e1 := e (K + 1) (by omega)
    simp only [sextonlaw07_far.l0] at e1
    rw [if_neg (by omega)] at e1
    obtain ⟨g, _, e2⟩ := Option.bind_eq_some_iff.1 e1
    by_cases hg : g = true
    · rw [if_pos hg] at e2
      cases e2
    · rw [if_neg hg] at e2
      have : decide ((l.length : Int) > 30) = false := by
        split at e2
        · split at e2
          · cases e2
          · exact Option.some.inj e2
        · exact Option.some.inj e2
      have := of_decide_eq_false this
      omega
  | succ d ih =>
    intro i hi h
    obtain ⟨K, e⟩ := h
    have hw : wrap64 ((i : Int) + 1) = ((i + 1 : Nat) : Int) := wrap_at (by omega) (by omega)
    refine ih (i + 1) (by omega) ⟨K, fun k hk => ?_⟩
    have e1 := e (k + 1) (by omega)
    simp only [sextonlaw07_far.l0] at e1
    rw [if_pos (by omega), if_pos (by omega)] at e1
    by_cases hs : ((rdOf ByteArray.empty l (i : Int)).size : Int) > 300
    · rw [if_pos hs] at e1
      cases e1
    · rw [if_neg hs, hw] at e1
      exact e1
/-! ### The writes of appends -/
end Go.Proofs.Ytoibofhmlokglaa.P
/-
  sextonref01.Own, told plainly.
-/
namespace Go.Proofs.Ytoibofhmlokglaa.P
open Go.RowKit Go.Proofs.CodecPlain Go.Proofs.YtoibofhmlokglaaW.PrintWords Go.Proofs.YtoibofhmlokglaaW.PrintLast

theorem refOwn (l : List ByteArray) (h : l.length < 8796093022208) : sextonref01_Own.f l = some l := by
  unfold sextonref01_Own.f
  rw [if_pos (by simpa using h)]
  rfl
end Go.Proofs.Ytoibofhmlokglaa.P
/-
  What 'Same' of layer 4 tells, plainly.
-/
namespace Go.Proofs.Ytoibofhmlokglaa.P
open Go.RowKit Go.Proofs.CodecPlain Go.Proofs.YtoibofhmlokglaaW.PrintWords Go.Proofs.YtoibofhmlokglaaW.PrintLast Go.Proofs.Plain

theorem rd_W (l : List S40) (k : Nat) (h : k < l.length) : rd_T40 l (k : Int) = l[k] := by
  simp [rd_T40, List.getD_eq_getElem?_getD, h]
instance : DecidableEq S40 := fun a b => if h : a.f0 = b.f0 ∧ a.f1 = b.f1 then .isTrue (by cases a; cases b; simp_all) else .isFalse (fun e => h ⟨by rw [e], by rw [e]⟩)
theorem same_l0 (p q : List ByteArray) (a b : List S40) (hl : a.length = b.length) (hm : a.length ≤ 9223372036854775806) (d : Nat) : ∀ k : Nat, k + d = a.length → Ev (fun r => sextonref04_Same.l0 r (k : Int) p a q b) (decide (a.drop k = b.drop k)) := by
  induction d with
  | zero =>
    intro k hk
    have h1 : a.drop k = [] := List.drop_of_length_le (by omega)
    have h2 : b.drop k = [] := List.drop_of_length_le (by omega)
    rw [h1, h2]
    exact Ev.step (f := fun _ => some true) (fun r => by simp only [sextonref04_Same.l0]; rw [if_neg (by omega)]) (Ev.now _)
  | succ d ih =>
    intro k hk
    have ha : k < a.length := by omega
    have hb : k < b.length := by omega
    have e1 : a.drop k = a[k] :: a.drop (k + 1) := List.drop_eq_getElem_cons ha
    have e2 : b.drop k = b[k] :: b.drop (k + 1) := List.drop_eq_getElem_cons hb
    by_cases he : a[k] = b[k]
    · refine Ev.step (f := fun r => sextonref04_Same.l0 r ((k + 1 : Nat) : Int) p a q b) (fun r => ?_) ?_
      · simp only [sextonref04_Same.l0]
        rw [if_pos (by omega), if_pos (by omega), if_pos (by omega), rd_W a k ha, rd_W b k hb, he, if_neg (by simp), wrap_at (by omega) (by omega)]
        rfl
      · have := ih (k + 1) (by omega)
        rw [e1, e2, he]
        simp only [List.cons.injEq, true_and]
        exact this
    · refine Ev.step (f := fun _ => some false) (fun r => ?_) ?_
      · simp only [sextonref04_Same.l0]
        rw [if_pos (by omega), if_pos (by omega), if_pos (by omega), rd_W a k ha, rd_W b k hb, if_pos ?_]
        by_cases h0 : a[k].f0 = b[k].f0
        · have h1 : ¬ a[k].f1.toList = b[k].f1.toList := fun h => he (by
            have := toList_inj h
            revert h0 this
            generalize a[k] = x; generalize b[k] = y
            intro h0 h1; cases x; cases y; simp_all)
          simp [h0, h1]
        · simp [h0]
      · rw [e1, e2, decide_eq_false (fun h => he (List.cons.inj h).1)]
        exact Ev.now _
theorem same_ev (p q : List ByteArray) (a b : List S40) (hp : p.length ≤ 9223372036854775806) (ha : a.length ≤ 9223372036854775806) : Ev (fun r => sextonref04_Same.f r p a q b) (decide (p = q ∧ a = b)) := by
  have ht := refTexts p q hp
  unfold sextonref04_Same.f
  refine Ev.bind ht ?_
  by_cases h1 : p = q
  · refine Ev.congr (f := fun r => sextonref04_Same.j0 r ((a.length : Int) != (b.length : Int)) p a q b) (fun r => by rw [if_pos (by simp [h1])]) ?_
    by_cases h2 : a.length = b.length
    · refine Ev.step (f := fun r => sextonref04_Same.l0 r ((0 : Nat) : Int) p a q b) (fun r => by simp only [sextonref04_Same.j0]; rw [if_neg (by simp [h2])]; rfl) ?_
      have := same_l0 p q a b h2 ha a.length 0 (by omega)
      simpa [h1] using this
    · rw [decide_eq_false (fun h => h2 (by rw [h.2]))]
      exact Ev.step (f := fun _ => some false) (fun r => by simp only [sextonref04_Same.j0]; rw [if_pos (by simp; omega)]) (Ev.now _)
  · rw [decide_eq_false (fun h : p = q ∧ a = b => h1 h.1)]
    refine Ev.congr (f := fun r => sextonref04_Same.j0 r true p a q b) (fun r => by rw [if_neg (by simp [h1])]) ?_
    exact Ev.step (f := fun _ => some false) (fun r => by simp only [sextonref04_Same.j0]; rw [if_pos trivial]) (Ev.now _)
theorem same_yes (p : List ByteArray) (a : List S40) (hp : p.length ≤ 9223372036854775806) (ha : a.length ≤ 9223372036854775806) : Ev (fun r => sextonref04_Same.f r p a p a) true := by
  have := same_ev p p a a hp ha
  simpa using this

end Go.Proofs.Ytoibofhmlokglaa.P
/-
  Layer 4's reference, told plainly: Check, Read, Write, Sync, Own.
-/
namespace Go.Proofs.Ytoibofhmlokglaa.P
open Go.RowKit Go.Proofs.CodecPlain Go.Proofs.YtoibofhmlokglaaW.PrintWords Go.Proofs.YtoibofhmlokglaaW.PrintLast Go.Proofs.Plain

theorem any_drop {α : Type} (p : α → Bool) (l : List α) (k : Nat) (h : k < l.length) : (l.drop k).any p = (p l[k] || (l.drop (k + 1)).any p) := by
  rw [List.drop_eq_getElem_cons h, List.any_cons]
theorem check_l1 (l0 : List ByteArray) (l1 : List S40) (hl : l1.length ≤ 100) (d : Nat) : ∀ k : Nat, k + d = l1.length → Ev (fun r => sextonref04_Check.l1 r (k : Int) l0 l1) (!((l1.drop k).any (oddW l0.length))) := by
  induction d with
  | zero =>
    intro k hk
    rw [List.drop_of_length_le (by omega)]
    exact Ev.step (f := fun _ => some true) (fun r => by simp only [sextonref04_Check.l1]; rw [if_neg (by omega)]) (Ev.now _)
  | succ d ih =>
    intro k hk
    have h : k < l1.length := by omega
    rw [any_drop _ _ _ h]
    by_cases h1 : l1[k].f0 < 0
    · rw [show oddW l0.length l1[k] = true by unfold oddW; rw [decide_eq_true h1]; rfl]
      exact Ev.step (f := fun _ => some false) (fun r => by simp only [sextonref04_Check.l1]; rw [if_pos (by omega), if_pos (by omega), rd_W l1 k h, if_pos h1]) (Ev.now _)
    by_cases h2 : l1[k].f0 ≥ (l0.length : Int)
    · rw [show oddW l0.length l1[k] = true by unfold oddW; rw [decide_eq_true h2]; simp]
      exact Ev.step (f := fun _ => some false) (fun r => by simp only [sextonref04_Check.l1]; rw [if_pos (by omega), if_pos (by omega), rd_W l1 k h, if_neg h1, if_pos h2]) (Ev.now _)
    by_cases h3 : (l1[k].f1.size : Int) > 256
    · rw [show oddW l0.length l1[k] = true by unfold oddW longS; rw [decide_eq_true (show 256 < l1[k].f1.size by omega)]; simp]
      exact Ev.step (f := fun _ => some false) (fun r => by simp only [sextonref04_Check.l1]; rw [if_pos (by omega), if_pos (by omega), rd_W l1 k h, if_neg h1, if_neg h2, if_pos h3]) (Ev.now _)
    rw [show oddW l0.length l1[k] = false by unfold oddW longS; rw [decide_eq_false h1, decide_eq_false h2, decide_eq_false (show ¬ 256 < l1[k].f1.size by omega)]; rfl, Bool.false_or]
    refine Ev.step (f := fun r => sextonref04_Check.l1 r ((k + 1 : Nat) : Int) l0 l1) (fun r => ?_) (ih (k + 1) (by omega))
    simp only [sextonref04_Check.l1]
    rw [if_pos (by omega), if_pos (by omega), rd_W l1 k h, if_neg h1, if_neg h2, if_neg h3, wrap_at (by omega) (by omega)]
    rfl
theorem check_l0 (l0 : List ByteArray) (l1 : List S40) (hl : l1.length ≤ 100) (h0 : l0.length ≤ 200) (d : Nat) : ∀ k : Nat, k + d = l0.length → Ev (fun r => sextonref04_Check.l0 r (k : Int) l0 l1) (!((l0.drop k).any longS) && !(l1.any (oddW l0.length))) := by
  induction d with
  | zero =>
    intro k hk
    rw [List.drop_of_length_le (by omega)]
    refine Ev.step (f := fun r => sextonref04_Check.l1 r ((0 : Nat) : Int) l0 l1) (fun r => by simp only [sextonref04_Check.l0]; rw [if_neg (by omega)]; rfl) ?_
    have := check_l1 l0 l1 hl l1.length 0 (by omega)
    simpa using this
  | succ d ih =>
    intro k hk
    have h : k < l0.length := by omega
    rw [any_drop _ _ _ h]
    by_cases h3 : (l0[k].size : Int) > 256
    · rw [show longS l0[k] = true by unfold longS; exact decide_eq_true (by omega)]
      exact Ev.step (f := fun _ => some false) (fun r => by simp only [sextonref04_Check.l0]; rw [if_pos (by omega), if_pos (by omega), rd_str l0 k h, if_pos h3]) (Ev.now _)
    rw [show longS l0[k] = false by unfold longS; exact decide_eq_false (by omega), Bool.false_or]
    refine Ev.step (f := fun r => sextonref04_Check.l0 r ((k + 1 : Nat) : Int) l0 l1) (fun r => ?_) (ih (k + 1) (by omega))
    simp only [sextonref04_Check.l0]
    rw [if_pos (by omega), if_pos (by omega), rd_str l0 k h, if_neg h3, wrap_at (by omega) (by omega)]
    rfl
theorem refCheck (l0 : List ByteArray) (l1 : List S40) : Ev (fun k => sextonref04_Check.f k l0 l1) (checkB l0 l1) := by
  unfold sextonref04_Check.f checkB
  by_cases h1 : (l0.length : Int) < 1
  · rw [decide_eq_false (show ¬ 1 ≤ l0.length by omega)]
    simp only [if_pos h1, Bool.false_and]
    exact Ev.step (f := fun _ => some false) (fun r => by simp only [sextonref04_Check.j0]; rw [if_pos trivial]) (Ev.now _)
  by_cases h2 : (l0.length : Int) > 200
  · rw [decide_eq_false (show ¬ l0.length ≤ 200 by omega)]
    simp only [if_neg h1, if_pos h2, Bool.and_false, Bool.false_and]
    exact Ev.step (f := fun _ => some false) (fun r => by simp only [sextonref04_Check.j0]; rw [if_pos trivial]) (Ev.now _)
  by_cases h3 : (l1.length : Int) > 100
  · rw [decide_eq_false (show ¬ l1.length ≤ 100 by omega)]
    simp only [if_neg h1, if_neg h2, decide_eq_true h3, Bool.and_false, Bool.false_and]
    exact Ev.step (f := fun _ => some false) (fun r => by simp only [sextonref04_Check.j0]; rw [if_pos trivial]) (Ev.now _)
  rw [decide_eq_true (show 1 ≤ l0.length by omega), decide_eq_true (show l0.length ≤ 200 by omega), decide_eq_true (show l1.length ≤ 100 by omega)]
  simp only [if_neg h1, if_neg h2, decide_eq_false h3, Bool.true_and]
  refine Ev.step (f := fun r => sextonref04_Check.l0 r ((0 : Nat) : Int) l0 l1) (fun r => by simp only [sextonref04_Check.j0]; rw [if_neg (by decide)]; rfl) ?_
  have := check_l0 l0 l1 (by omega) (by omega) l0.length 0 (by omega)
  simpa using this

theorem says_l0 (l0 : List ByteArray) (l1 : List S40) (hl : l1.length ≤ 100) (a : Nat) (hx : ∀ x ∈ l1, 0 ≤ x.f0) (d : Nat) : ∀ (k : Nat) (b : List ByteArray) (i : Nat), k + d = l1.length → a < b.length → Ev (fun r => sextonref04_says.l0 r (a : Int) (rdOf ByteArray.empty b (a : Int)) (k : Int) l0 l1) (rdOf ByteArray.empty (applyW (fun _ => true) i (l1.drop k) b) (a : Int)) := by
  induction d with
  | zero =>
    intro k b i hk ha
    rw [List.drop_of_length_le (by omega)]
    exact Ev.step (f := fun _ => some (rdOf ByteArray.empty b (a : Int))) (fun r => by simp only [sextonref04_says.l0]; rw [if_neg (by omega)]) (Ev.now _)
  | succ d ih =>
    intro k b i hk ha
    have h : k < l1.length := by omega
    have h0 := hx _ (List.getElem_mem h)
    rw [List.drop_eq_getElem_cons h]
    simp only [applyW, if_true]
    have := ih (k + 1) (b.set (l1[k].f0).toNat l1[k].f1) (i + 1) (by omega) (by simpa using ha)
    by_cases he : l1[k].f0 = (a : Int)
    · have e1 : rdOf ByteArray.empty (b.set (l1[k].f0).toNat l1[k].f1) (a : Int) = l1[k].f1 := by
        rw [rdOf_set _ _ _ _ h0 (by omega) (by omega), if_pos he.symm]
      rw [e1] at this
      refine Ev.step (f := fun r => sextonref04_says.l0 r (a : Int) l1[k].f1 ((k + 1 : Nat) : Int) l0 l1) (fun r => ?_) this
      simp only [sextonref04_says.l0]
      rw [if_pos (by omega), if_pos (by omega), rd_W l1 k h, if_pos he, wrap_at (by omega) (by omega)]
      rfl
    · have e1 : rdOf ByteArray.empty (b.set (l1[k].f0).toNat l1[k].f1) (a : Int) = rdOf ByteArray.empty b (a : Int) := by
        unfold rdOf
        rw [List.getD_eq_getElem?_getD, List.getD_eq_getElem?_getD, List.getElem?_set, if_neg (by omega)]
      rw [e1] at this
      refine Ev.step (f := fun r => sextonref04_says.l0 r (a : Int) (rdOf ByteArray.empty b (a : Int)) ((k + 1 : Nat) : Int) l0 l1) (fun r => ?_) this
      simp only [sextonref04_says.l0]
      rw [if_pos (by omega), if_pos (by omega), rd_W l1 k h, if_neg he, wrap_at (by omega) (by omega)]
      rfl
theorem refSays {l0 : List ByteArray} {l1 : List S40} (h : checkB l0 l1 = true) (a : Nat) (ha : a < l0.length) : Ev (fun k => sextonref04_says.f k l0 l1 (a : Int)) (rdOf ByteArray.empty (applyW (fun _ => true) 0 l1 l0) (a : Int)) := by
  obtain ⟨_, _, h3, _, h5⟩ := check_len h
  have := says_l0 l0 l1 h3 a (fun x hx => (h5 x hx).1) l1.length 0 l0 0 (by omega) ha
  rw [List.drop_zero] at this
  refine Ev.congr (fun k => ?_) this
  unfold sextonref04_says.f
  rw [if_pos (by omega), if_pos (by omega)]
  rfl
theorem refRead (l0 : List ByteArray) (l1 : List S40) (a : Int) : Ev (fun k => sextonref04_Read.f k l0 l1 a) (readV l0 l1 a) := by
  refine Ev.bind (refCheck l0 l1) ?_
  unfold readV
  by_cases h1 : checkB l0 l1 = true
  rotate_left
  · rw [if_pos (by simpa using h1)]
    simp only [if_neg h1]
    exact Ev.now _
  rw [if_neg (by simp [h1])]
  simp only [if_pos h1]
  by_cases h2 : a < 0
  · rw [if_pos (.inl h2)]
    simp only [if_pos h2]
    exact Ev.now _
  by_cases h3 : a ≥ (l0.length : Int)
  · rw [if_pos (.inr h3)]
    simp only [if_neg h2, if_pos h3]
    exact Ev.now _
  rw [if_neg (by omega)]
  simp only [if_neg h2, if_neg h3]
  obtain ⟨n, rfl⟩ : ∃ n : Nat, a = n := ⟨a.toNat, by omega⟩
  exact Ev.bind (refSays h1 n (by omega)) (Ev.now _)
theorem refOwnD (l0 : List ByteArray) (l1 : List S40) (h0 : l0.length ≤ 1000000000) (h1 : l1.length ≤ 1000000000) : sextonref04_Own.f l0 l1 = some (l0, l1) := by
  unfold sextonref04_Own.f
  rw [refOwn l0 (by omega), Option.bind_some, if_pos (by simp; omega)]
  simp
theorem refWrite (l0 : List ByteArray) (l1 : List S40) (a : Int) (s : ByteArray) : Ev (fun k => sextonref04_Write.f k l0 l1 a s) (writeV l0 l1 a s) := by
  refine Ev.bind (refCheck l0 l1) ?_
  unfold writeV
  by_cases h1 : checkB l0 l1 = true
  rotate_left
  · rw [if_pos (by simpa using h1)]
    simp only [if_neg h1]
    exact Ev.now _
  rw [if_neg (by simp [h1])]
  simp only [if_pos h1]
  obtain ⟨c1, c2, c3, _, _⟩ := check_len h1
  by_cases h2 : a < 0 ∨ a ≥ (l0.length : Int)
  · rw [if_pos h2]
    refine Ev.congr (f := fun k => sextonref04_Write.j0 k a s true l0 l1) (fun k => ?_) (Ev.step (f := fun _ => some ([], [], 40)) (fun k => by simp only [sextonref04_Write.j0]; rw [if_pos trivial]) (Ev.now _))
    by_cases h3 : a < 0
    · rw [if_pos h3]
    · rw [if_neg h3, decide_eq_true (by omega)]
  rw [if_neg h2]
  refine Ev.congr (f := fun k => sextonref04_Write.j0 k a s false l0 l1) (fun k => by rw [if_neg (by omega), decide_eq_false (by omega)]) ?_
  by_cases h3 : (s.size : Int) > 256
  · rw [if_pos (show longS s = true by unfold longS; exact decide_eq_true (by omega))]
    exact Ev.step (f := fun _ => some ([], [], 1)) (fun k => by simp only [sextonref04_Write.j0]; rw [if_neg (by decide), if_pos h3]) (Ev.now _)
  rw [if_neg (show ¬ longS s = true by unfold longS; simp; omega)]
  by_cases h4 : (l1.length : Int) ≥ 100
  · rw [if_pos (show l1.length = 100 by omega)]
    exact Ev.step (f := fun _ => some ([], [], 41)) (fun k => by simp only [sextonref04_Write.j0]; rw [if_neg (by decide), if_neg h3, if_pos h4]) (Ev.now _)
  rw [if_neg (show ¬ l1.length = 100 by omega)]
  refine Ev.step (f := fun _ => some (l0, l1 ++ [⟨a, s⟩], 0)) (fun k => ?_) (Ev.now _)
  simp only [sextonref04_Write.j0]
  rw [if_neg (by decide), if_neg h3, if_neg h4, refOwnD l0 l1 (by omega) (by omega), Option.bind_some, if_pos (by simp; omega)]
theorem sync_l0 {l0 : List ByteArray} {l1 : List S40} (h : checkB l0 l1 = true) (d : Nat) : ∀ k : Nat, k + d = l0.length → Ev (fun r => sextonref04_Sync.l0 r (k : Int) l0 l1 ((applyW (fun _ => true) 0 l1 l0).take k)) (applyW (fun _ => true) 0 l1 l0, ([] : List S40), 0) := by
  obtain ⟨_, c2, _⟩ := check_len h
  have hlen := applyW_length (fun _ => true) l1 0 l0
  induction d with
  | zero =>
    intro k hk
    rw [List.take_of_length_le (by omega)]
    exact Ev.step (f := fun _ => some (applyW (fun _ => true) 0 l1 l0, ([] : List S40), 0)) (fun r => by simp only [sextonref04_Sync.l0]; rw [if_neg (by omega)]) (Ev.now _)
  | succ d ih =>
    intro k hk
    have hk' : k < (applyW (fun _ => true) 0 l1 l0).length := by omega
    have := ih (k + 1) (by omega)
    rw [List.take_succ_eq_append_getElem hk'] at this
    refine Ev.step (f := fun r => (sextonref04_says.f r l0 l1 (k : Int)).bind fun t => sextonref04_Sync.l0 r ((k + 1 : Nat) : Int) l0 l1 ((applyW (fun _ => true) 0 l1 l0).take k ++ [t])) (fun r => ?_) (Ev.bind (refSays h k (by omega)) ?_)
    · simp only [sextonref04_Sync.l0]
      rw [if_pos (by omega), wrap_at (by omega) (by omega)]
      congr 1
      funext t
      rw [if_pos (by rw [List.length_take]; omega)]
      rfl
    · rw [rd_str _ k hk']
      exact this
theorem refSync (l0 : List ByteArray) (l1 : List S40) : Ev (fun k => sextonref04_Sync.f k l0 l1) (doneV (fun _ => true) l0 l1) := by
  refine Ev.bind (refCheck l0 l1) ?_
  unfold doneV
  by_cases h1 : checkB l0 l1 = true
  · rw [if_pos h1]
    simp only [if_pos h1]
    have := sync_l0 h1 l0.length 0 (by omega)
    rw [List.take_zero] at this
    exact this
  · rw [if_neg h1]
    simp only [if_neg h1]
    exact Ev.now _
/-- What is not Big has few blocks and writes. -/
theorem big_small {l0 : List ByteArray} {l1 : List S40} (h : Ev (fun k => sextonref04_Big.f k l0 l1) false) : l0.length ≤ 250 ∧ l1.length ≤ 150 := by
  have tail : ∀ x : Int, (if (l0.length : Int) > 250 then (some true) else (if (l1.length : Int) > 150 then (some true) else (some (decide (x > 400))))) = some false → l0.length ≤ 250 ∧ l1.length ≤ 150 := fun x e => by
    split at e
    · cases e
    · split at e
      · cases e
      · omega
  have hl1 : ∀ (n k : Nat) (x : Int), sextonref04_Big.l1 n x (k : Int) l0 l1 = some false → l0.length ≤ 250 ∧ l1.length ≤ 150 := by
    intro n
    induction n with
    | zero => intro k x e; simp [sextonref04_Big.l1] at e
    | succ n ih =>
      intro k x e
      simp only [sextonref04_Big.l1] at e
      split at e
      · rename_i h1
        split at e
        · split at e
          · rw [wrap_at (by omega) (by omega)] at e
            exact ih (k + 1) _ (by rw [show ((k + 1 : Nat) : Int) = (k : Int) + 1 by omega]; exact e)
          · cases e
        · exact tail _ e
      · exact tail _ e
  have hl0 : ∀ (n k : Nat) (x : Int), sextonref04_Big.l0 n x (k : Int) l0 l1 = some false → l0.length ≤ 250 ∧ l1.length ≤ 150 := by
    intro n
    have hj : ∀ (n : Nat) (x : Int), sextonref04_Big.j1 n x l0 l1 = some false → l0.length ≤ 250 ∧ l1.length ≤ 150 := fun n x e => by
      cases n with
      | zero => simp [sextonref04_Big.j1] at e
      | succ n =>
        simp only [sextonref04_Big.j1] at e
        exact hl1 n 0 x e
    induction n with
    | zero => intro k x e; simp [sextonref04_Big.l0] at e
    | succ n ih =>
      intro k x e
      simp only [sextonref04_Big.l0] at e
      split at e
      · rename_i h1
        split at e
        · split at e
          · rw [wrap_at (by omega) (by omega)] at e
            exact ih (k + 1) _ (by rw [show ((k + 1 : Nat) : Int) = (k : Int) + 1 by omega]; exact e)
          · cases e
        · exact hj _ _ e
      · exact hj _ _ e
  obtain ⟨K, e⟩ := h
  exact hl0 K 0 0 (e K (Nat.le_refl _))
end Go.Proofs.Ytoibofhmlokglaa.P
/-
  sextonref01.Number, told plainly.
-/
namespace Go.Proofs.Ytoibofhmlokglaa.P
open Go.RowKit Go.Proofs.CodecPlain Go.Proofs.YtoibofhmlokglaaW.PrintWords Go.Proofs.YtoibofhmlokglaaW.PrintLast

theorem refNumber_l0 : ∀ x : Int, 0 ≤ x → x < 4294967296 → ∀ (acc : ByteArray) (c : Int), acc.size + (nbytes x).length ≤ 1000 → 0 ≤ c → c + ((nbytes x).length : Int) ≤ 1000 →
    Ev (fun k => sextonref01_Number.l0 k x acc c) (strOfNums [(c + ((nbytes x).length : Int)) % 256] ++ (strOfNums (nbytes x) ++ acc), 0) := by
  apply nat_ind
  intro x h0 ih h1 acc c ha hc0 hc1
  by_cases hz : x = 0
  · subst hz
    refine Ev.step (f := fun _ => some (strOfNums [c % 256] ++ acc, 0)) (fun k => ?_) ?_
    · simp only [sextonref01_Number.l0]
      rw [if_neg (by omega)]
      simp only [Option.bind_some]
      rw [if_pos (by rw [strOfNums_size]; simp; omega)]
    · rw [nbytes_zero]
      have : strOfNums [] ++ acc = acc := ba_ext (by rw [app_list, strOfNums_list]; rfl)
      simp only [List.length_nil, Int.natCast_zero, Int.add_zero, this]
      exact Ev.now _
  · refine Ev.step (f := fun k => sextonref01_Number.l0 k (x / 256) (strOfNums [x % 256] ++ acc) (c + 1)) (fun k => ?_) ?_
    · simp only [sextonref01_Number.l0]
      rw [if_pos (by omega)]
      simp only [Option.bind_some]
      rw [if_pos (by rw [strOfNums_size]; simp; omega), Int.tdiv_eq_ediv_of_nonneg h0, wrap_id (x := x / 256) (by omega) (by omega), wrap_id (x := c + 1) (by omega) (by omega), Int.tmod_eq_emod_of_nonneg h0]
      congr 4
      omega
    · have hlen : (nbytes x).length = (nbytes (x / 256)).length + 1 := by rw [nbytes_rec x (by omega) h1]; simp
      have := ih (x / 256) (by omega) (by omega) (by omega) (strOfNums [x % 256] ++ acc) (c + 1) (by
        rw [CodecPlain.size_append, strOfNums_size]; simp; rw [hlen] at ha; omega) (by omega) (by omega)
      rw [nbytes_rec x (by omega) h1]
      have e1 : strOfNums (nbytes (x / 256)) ++ (strOfNums [x % 256] ++ acc) = strOfNums (nbytes (x / 256) ++ [x % 256]) ++ acc := ba_ext (by simp only [app_list, strOfNums_list]; simp)
      rw [e1] at this
      have e2 : c + 1 + ((nbytes (x / 256)).length : Int) = c + ((nbytes (x / 256) ++ [x % 256]).length : Int) := by simp; omega
      rw [e2] at this
      exact this

theorem refNumber (n : Int) : Ev (fun k => sextonref01_Number.f k n) (if 0 ≤ n ∧ n ≤ 4294967295 then (numStr n, 0) else (⟨#[]⟩, 1)) := by
  by_cases h0 : n < 0
  · rw [if_neg (by omega)]
    refine Ev.congr (f := fun k => sextonref01_Number.j0 k n true) (fun k => by unfold sextonref01_Number.f; rw [if_pos h0]) ?_
    exact Ev.step (f := fun _ => some (⟨#[]⟩, 1)) (fun k => by simp [sextonref01_Number.j0]) (Ev.now _)
  · refine Ev.congr (f := fun k => sextonref01_Number.j0 k n (decide (n > 4294967295))) (fun k => by unfold sextonref01_Number.f; rw [if_neg h0]) ?_
    by_cases h1 : n > 4294967295
    · rw [if_neg (by omega), decide_eq_true h1]
      exact Ev.step (f := fun _ => some (⟨#[]⟩, 1)) (fun k => by simp [sextonref01_Number.j0]) (Ev.now _)
    · rw [if_pos (by omega), decide_eq_false h1]
      refine Ev.step (f := fun k => sextonref01_Number.l0 k n ⟨#[]⟩ 0) (fun k => by simp [sextonref01_Number.j0]) ?_
      have hl := nbytes_length n
      have := refNumber_l0 n (by omega) (by omega) ⟨#[]⟩ 0 (by have : (⟨#[]⟩ : ByteArray).size = 0 := rfl; omega) (by omega) (by omega)
      have e : strOfNums [(0 + ((nbytes n).length : Int)) % 256] ++ (strOfNums (nbytes n) ++ ⟨#[]⟩) = numStr n := ba_ext (by
        simp only [app_list, strOfNums_list, numStr_list]
        rw [show (0 + ((nbytes n).length : Int)) % 256 = ((nbytes n).length : Int) by omega]
        simp)
      rw [e] at this
      exact this
end Go.Proofs.Ytoibofhmlokglaa.P
/-
  sextonref01.GetNumber, told plainly.
-/
namespace Go.Proofs.Ytoibofhmlokglaa.P
open Go.RowKit Go.Proofs.CodecPlain Go.Proofs.YtoibofhmlokglaaW.PrintWords Go.Proofs.YtoibofhmlokglaaW.PrintLast

theorem accB_bd4 (l : List UInt8) (h : l.length ≤ 4) : 0 ≤ accB l ∧ accB l < 4294967296 := by
  have hbd := accB_bd l
  refine ⟨hbd.1, Int.lt_of_lt_of_le hbd.2 ?_⟩
  match l.length, h with
  | 0, _ => decide
  | 1, _ => decide
  | 2, _ => decide
  | 3, _ => decide
  | 4, _ => decide

theorem bt_list (s : ByteArray) (i : Nat) (h : i < s.data.toList.length) : bt s (i : Int) = (s.data.toList[i].toNat : Int) := by
  have h' : i < s.size := by rw [len_list] at h; exact h
  unfold bt
  rw [dif_pos (by simpa using h')]
  rfl

theorem bt_hd (s : ByteArray) (h : 0 < s.size) : bt s 0 = (hd s : Int) := by
  unfold bt hd
  rw [dif_pos (by simpa using h), dif_pos h]
  rfl

theorem wrap_bt (s : ByteArray) (i : Int) : wrap64 (bt s i) = bt s i := by have := bt_range s i; exact wrap_id (by omega) (by omega)

/-- Whether a number's own text stands at the begin. -/
theorem getNum_by (s : ByteArray) (h0 : 0 < s.size) (h4 : hd s ≤ 4) (h5 : hd s < s.size) :
    getNum s = if numStr (accB (s.extract 1 (1 + hd s)).data.toList) = s.extract 0 (1 + hd s) then (accB (s.extract 1 (1 + hd s)).data.toList, s.extract (1 + hd s) s.size, true) else (0, ⟨#[]⟩, false) := by
  have hbl : ((s.extract 1 (1 + hd s)).data.toList).length = hd s := by rw [len_list, ByteArray.size_extract]; omega
  have hbd := accB_bd4 (s.extract 1 (1 + hd s)).data.toList (by omega)
  have hlt : accB (s.extract 1 (1 + hd s)).data.toList ≤ 4294967295 := by omega
  have hsplit : s = s.extract 0 (1 + hd s) ++ s.extract (1 + hd s) s.size := by
    apply ba_ext
    rw [app_list, ext_list, ext_list, List.drop_zero, Nat.sub_zero]
    rw [List.take_of_length_le (l := s.data.toList.drop (1 + hd s)) (by rw [List.length_drop, len_list]; omega), List.take_append_drop]
  by_cases he : numStr (accB (s.extract 1 (1 + hd s)).data.toList) = s.extract 0 (1 + hd s)
  · rw [if_pos he]
    have := getNum_put (accB (s.extract 1 (1 + hd s)).data.toList) hbd.1 hlt (s.extract (1 + hd s) s.size)
    rw [he, ← hsplit] at this
    exact this
  · rw [if_neg he]
    cases hok : (getNum s).2.2 with
    | false => exact getNum_no' hok
    | true =>
      exfalso
      obtain ⟨n, r, b, hn⟩ : ∃ n r b, getNum s = (n, r, b) := ⟨_, _, _, rfl⟩
      rw [hn] at hok
      simp only at hok
      subst hok
      obtain ⟨h1, h2, h3⟩ := getNum_got hn
      have hval : n = accB (s.extract 1 (1 + hd s)).data.toList := by
        rw [getNum_is s h0 h4 h5] at hn
        split at hn
        · simp at hn
        · simp only [Prod.mk.injEq, and_true] at hn; exact hn.1.symm
      have hhd : hd s = (nbytes n).length := by
        have hl := nbytes_length n
        conv => lhs; rw [h3]
        rw [hd_list, app_list, numStr_list]
        have := u8_toNat (n := ((nbytes n).length : Int)) (by omega) (by omega)
        show (u8 _).toNat = _
        omega
      apply he
      rw [← hval]
      apply ba_ext
      rw [ext_list, List.drop_zero, Nat.sub_zero, hhd]
      conv => rhs; rw [h3]
      rw [app_list, List.take_append_of_le_length (by rw [len_list, numStr_sz]; exact Nat.le_refl _), List.take_of_length_le (by rw [len_list, numStr_sz]; exact Nat.le_refl _)]

theorem refGet_l0 (s : ByteArray) (m : Nat) (h4 : m ≤ 4) (h5 : m < s.size) (d : Nat) : ∀ i : Nat, i + d = 1 + m → 1 ≤ i →
    Ev (fun k => sextonref01_GetNumber.l0 k s ((1 + m : Nat) : Int) (accB ((s.data.toList.drop 1).take (i - 1))) (i : Int))
      (if numStr (accB (s.extract 1 (1 + m)).data.toList) = s.extract 0 (1 + m) then (accB (s.extract 1 (1 + m)).data.toList, s.extract (1 + m) s.size, true) else (0, ⟨#[]⟩, false)) := by
  induction d with
  | zero =>
    intro i hi h1
    obtain rfl : i = 1 + m := by omega
    have hb : (s.data.toList.drop 1).take (1 + m - 1) = (s.extract 1 (1 + m)).data.toList := by rw [ext_list]
    rw [hb]
    have hbl : ((s.extract 1 (1 + m)).data.toList).length = m := by rw [len_list, ByteArray.size_extract]; omega
    have hbd := accB_bd4 (s.extract 1 (1 + m)).data.toList (by omega)
    have hlt : accB (s.extract 1 (1 + m)).data.toList ≤ 4294967295 := by omega
    generalize accB (s.extract 1 (1 + m)).data.toList = v at *
    have hn := refNumber v
    rw [if_pos ⟨hbd.1, hlt⟩] at hn
    refine Ev.step (f := fun k => (sextonref01_Number.f k v).bind fun bt186 => (if (0 : Int) ≤ ((1 + m : Nat) : Int) then (if ((1 + m : Nat) : Int) ≤ (s.size : Int) then (if bt186.1.toList = (s.extract 0 (1 + m)).toList then (some (v, s.extract (1 + m) s.size, true)) else (some (0, (⟨#[]⟩ : ByteArray), false))) else (none)) else (none))) (fun k => ?_) ?_
    · simp only [sextonref01_GetNumber.l0]
      rw [if_neg (by omega)]
      rfl
    · refine Ev.bind hn (Ev.congr (f := fun _ => some (if numStr v = s.extract 0 (1 + m) then (v, s.extract (1 + m) s.size, true) else (0, ⟨#[]⟩, false))) (fun k => ?_) (Ev.now _))
      simp only
      rw [if_pos (by omega), if_pos (by omega)]
      by_cases he : numStr v = s.extract 0 (1 + m)
      · rw [if_pos he, if_pos (by rw [he])]
      · rw [if_neg he, if_neg (fun h => he (toList_inj h))]
  | succ d ih =>
    intro i hi h1
    have hlt : i < s.size := by omega
    have hll : i < s.data.toList.length := by rw [len_list]; exact hlt
    have hn := ih (i + 1) (by omega) (by omega)
    have hacc : accB ((s.data.toList.drop 1).take (i + 1 - 1)) = 256 * accB ((s.data.toList.drop 1).take (i - 1)) + bt s (i : Int) := by
      have hl2 : i - 1 < (s.data.toList.drop 1).length := by rw [List.length_drop]; omega
      rw [bt_list s i hll, show i + 1 - 1 = (i - 1) + 1 by omega, List.take_succ_eq_append_getElem hl2, accB_snoc]
      have : (s.data.toList.drop 1)[i - 1] = s.data.toList[i] := by
        rw [List.getElem_drop]
        congr 1
        omega
      rw [this]
      omega
    have hbd := accB_bd4 ((s.data.toList.drop 1).take (i - 1)) (by rw [List.length_take]; omega)
    have hbr := bt_range s (i : Int)
    refine Ev.step (f := fun k => sextonref01_GetNumber.l0 k s ((1 + m : Nat) : Int) (accB ((s.data.toList.drop 1).take (i + 1 - 1))) ((i + 1 : Nat) : Int)) (fun k => ?_) hn
    simp only [sextonref01_GetNumber.l0]
    rw [if_pos (by omega), if_pos (by omega), if_pos (by omega), wrap_bt, wrap_id (x := 256 * accB ((s.data.toList.drop 1).take (i - 1))) (by omega) (by omega), wrap_id (x := _ + bt s (i : Int)) (by omega) (by omega), wrap_id (x := (i : Int) + 1) (by omega) (by omega), hacc]
    rfl

theorem refGetNumber (s : ByteArray) : Ev (fun k => sextonref01_GetNumber.f k s) (getNum s) := by
  have hno : Ev (fun k => sextonref01_GetNumber.j0 k s true) (0, ⟨#[]⟩, false) :=
    Ev.step (f := fun _ => some (0, ⟨#[]⟩, false)) (fun k => by simp [sextonref01_GetNumber.j0]) (Ev.now _)
  by_cases h0 : s.size = 0
  · rw [getNum_no (.inl h0)]
    exact Ev.congr (fun k => by unfold sextonref01_GetNumber.f; rw [if_pos (by omega)]) hno
  · have q : 0 < s.size := by omega
    have hb := bt_hd s q
    by_cases h4 : 4 < hd s
    · rw [getNum_no (.inr (.inl h4))]
      exact Ev.congr (fun k => by unfold sextonref01_GetNumber.f; rw [if_neg (by omega), if_pos (by omega), if_pos (by omega)]) hno
    · have hw : wrap64 (1 + wrap64 (bt s 0)) = ((1 + hd s : Nat) : Int) := by
        rw [wrap_bt, hb, wrap_id (by omega) (by omega)]; omega
      refine Ev.congr (f := fun k => sextonref01_GetNumber.j0 k s (decide ((s.size : Int) < ((1 + hd s : Nat) : Int)))) (fun k => by unfold sextonref01_GetNumber.f; rw [if_neg (by omega), if_pos (by omega), if_neg (by omega), hw]) ?_
      by_cases h5 : s.size ≤ hd s
      · rw [getNum_no (.inr (.inr h5)), decide_eq_true (by omega)]
        exact hno
      · rw [decide_eq_false (by omega), getNum_by s q (by omega) (by omega)]
        have := refGet_l0 s (hd s) (by omega) (by omega) (hd s) 1 (by omega) (by omega)
        refine Ev.step (f := fun k => sextonref01_GetNumber.l0 k s ((1 + hd s : Nat) : Int) 0 1) (fun k => ?_) this
        simp only [sextonref01_GetNumber.j0]
        rw [if_neg (by decide), if_pos (by omega), hw]
end Go.Proofs.Ytoibofhmlokglaa.P
/-
  sextonref01.Text, told plainly.
-/
namespace Go.Proofs.Ytoibofhmlokglaa.P
open Go.RowKit Go.Proofs.CodecPlain Go.Proofs.YtoibofhmlokglaaW.PrintWords Go.Proofs.YtoibofhmlokglaaW.PrintLast

theorem refText (s : ByteArray) : Ev (fun k => sextonref01_Text.f k s) (if s.size ≤ 4000 then (textStr s, 0) else (⟨#[]⟩, 2)) := by
  by_cases h : s.size ≤ 4000
  · rw [if_pos h]
    have hn := refNumber (s.size : Int)
    rw [if_pos (by omega)] at hn
    have hs := numStr_size (s.size : Int)
    refine Ev.congr (f := fun k => (sextonref01_Number.f k (s.size : Int)).bind fun bt116 => (if bt116.1.size + s.size ≤ 9223372036854775807 then (some (bt116.1 ++ s, 0)) else (none))) (fun k => by unfold sextonref01_Text.f; rw [if_neg (by omega)]) ?_
    refine Ev.bind hn (Ev.congr (f := fun _ => some (textStr s, 0)) (fun k => ?_) (Ev.now _))
    simp only
    rw [if_pos (by omega)]
    rfl
  · rw [if_neg h]
    exact Ev.congr (f := fun _ => some (⟨#[]⟩, 2)) (fun k => by unfold sextonref01_Text.f; rw [if_pos (by omega)]) (Ev.now _)
end Go.Proofs.Ytoibofhmlokglaa.P
/-
  The reference's sums and frames, told plainly.
-/
namespace Go.Proofs.Ytoibofhmlokglaa.P
open Go.RowKit Go.Proofs.CodecPlain Go.Proofs.YtoibofhmlokglaaW.PrintWords Go.Proofs.YtoibofhmlokglaaW.PrintLast

theorem refGetText (s : ByteArray) : Ev (fun k => sextonref01_GetText.f k s) (getText s) := by
  have hn := refGetNumber s
  refine Ev.congr (fun k => by unfold sextonref01_GetText.f; rfl) (Ev.bind hn (Ev.congr (f := fun _ => some (getText s)) (fun k => ?_) (Ev.now _)))
  have h := B.getText_f s
  unfold codec_GetText.f codec_GetNumber.f at h
  simp only [Option.bind_some] at h
  exact h
def gN (x : Nat) : Nat := (x / 2) ^^^ (if x % 2 = 1 then 3988292384 else 0)

def gI : Nat → Nat → Nat
  | 0, x => x
  | n + 1, x => gN (gI n x)

theorem bit0 (x : Nat) : x.testBit 0 = decide (x % 2 = 1) := by rw [Nat.testBit_eq_decide_div_mod_eq]; simp

theorem gN_lin (x y : Nat) : gN (x ^^^ y) = gN x ^^^ gN y := by
  unfold gN
  have hb : ((x ^^^ y) % 2 = 1) = ((x % 2 = 1) ≠ (y % 2 = 1)) := by
    have h := Nat.testBit_xor x y 0
    rw [bit0, bit0, bit0] at h
    have h2 : decide ((x ^^^ y) % 2 = 1) = true ↔ ((decide (x % 2 = 1)) ^^ (decide (y % 2 = 1))) = true := by rw [h]
    by_cases hx : x % 2 = 1 <;> by_cases hy : y % 2 = 1 <;> simp [hx, hy] at h2 ⊢ <;> omega
  rw [Nat.xor_div_two]
  generalize 3988292384 = P
  have e : (if (x ^^^ y) % 2 = 1 then P else 0) = (if x % 2 = 1 then P else 0) ^^^ (if y % 2 = 1 then P else 0) := by
    by_cases hx : x % 2 = 1 <;> by_cases hy : y % 2 = 1 <;> simp [hb, hx, hy]
  rw [e]
  generalize (if x % 2 = 1 then P else 0) = A
  generalize (if y % 2 = 1 then P else 0) = B
  generalize x / 2 = u
  generalize y / 2 = v
  apply Nat.eq_of_testBit_eq
  intro i
  simp only [Nat.testBit_xor]
  cases u.testBit i <;> cases v.testBit i <;> cases A.testBit i <;> cases B.testBit i <;> rfl

theorem gI_lin (x y : Nat) : ∀ n, gI n (x ^^^ y) = gI n x ^^^ gI n y
  | 0 => rfl
  | n + 1 => by simp only [gI]; rw [gI_lin x y n, gN_lin]

theorem gI_front (x : Nat) : ∀ n, gI (n + 1) x = gI n (gN x)
  | 0 => rfl
  | n + 1 => by show gN (gI (n + 1) x) = _; rw [gI_front x n]; rfl

theorem gI_even (h : Nat) : ∀ n, gI n (h * 2 ^ n) = h
  | 0 => by simp [gI]
  | n + 1 => by
    rw [gI_front]
    have : gN (h * 2 ^ (n + 1)) = h * 2 ^ n := by
      unfold gN
      have e : h * 2 ^ (n + 1) = 2 * (h * 2 ^ n) := by rw [Nat.pow_succ, ← Nat.mul_assoc, Nat.mul_comm]
      rw [e, if_neg (by omega), Nat.xor_zero]
      omega
    rw [this, gI_even h n]

theorem parts (x : Nat) : x = (x / 256 * 2 ^ 8) ^^^ (x % 256) := by
  apply Nat.eq_of_testBit_eq
  intro i
  rw [Nat.testBit_xor, Nat.testBit_mul_two_pow, show (256 : Nat) = 2 ^ 8 from rfl, Nat.testBit_mod_two_pow, Nat.testBit_div_two_pow]
  by_cases h : i < 8
  · have : ¬ 8 ≤ i := by omega
    simp [h, this]
  · have h8 : 8 ≤ i := by omega
    have : i - 8 + 8 = i := by omega
    simp [h, h8, this]

theorem gI_parts (x : Nat) : gI 8 x = (x / 256) ^^^ gI 8 (x % 256) := by
  have := gI_lin (x / 256 * 2 ^ 8) (x % 256) 8
  rw [← parts x, gI_even] at this
  exact this

theorem gN_lt {x : Nat} (h : x < 2 ^ 32) : gN x < 2 ^ 32 := by
  unfold gN
  refine Nat.xor_lt_two_pow (by omega) ?_
  split <;> omega

theorem gI_lt {x : Nat} (h : x < 2 ^ 32) : ∀ n, gI n x < 2 ^ 32
  | 0 => h
  | n + 1 => gN_lt (gI_lt h n)

theorem xor_step (a b i : Nat) : (a ^^^ b) % 2 ^ (i + 1) = (a ^^^ b) % 2 ^ i + (if a / 2 ^ i % 2 = b / 2 ^ i % 2 then 0 else 2 ^ i) := by
  have hm : ∀ x : Nat, x % 2 ^ (i + 1) = x % 2 ^ i + 2 ^ i * (x / 2 ^ i % 2) := fun x => by
    rw [Nat.pow_succ, Nat.mod_mul]
  rw [hm, Nat.xor_div_two_pow]
  have h := Nat.testBit_xor (a / 2 ^ i) (b / 2 ^ i) 0
  rw [bit0, bit0, bit0] at h
  generalize a / 2 ^ i = u at *
  generalize b / 2 ^ i = v at *
  generalize u ^^^ v = w at *
  rcases Nat.mod_two_eq_zero_or_one u with hu | hu <;> rcases Nat.mod_two_eq_zero_or_one v with hv | hv <;> rcases Nat.mod_two_eq_zero_or_one w with hw | hw <;> simp_all

theorem ofn (a : Nat) (h : a < 4294967296) : (BitVec.ofInt 64 (a : Int)).toNat = a := by
  simp [BitVec.toNat_ofInt]; omega

theorem wrapn (n : Nat) (h : n < 4294967296) : IntKind.wrap .i64 (n : Int) = n := by
  simp [IntKind.wrap, IntKind.signed, IntKind.bits]; omega

theorem xor_nat (a b : Nat) (ha : a < 4294967296) (hb : b < 4294967296) : bits BinOp.xor IntKind.i64 (a : Int) (b : Int) = ((a ^^^ b : Nat) : Int) := by
  show IntKind.wrap .i64 (((BitVec.ofInt 64 (a : Int) ^^^ BitVec.ofInt 64 (b : Int)).toNat : Nat) : Int) = _
  rw [BitVec.toNat_xor, ofn a ha, ofn b hb, wrapn _ (Nat.xor_lt_two_pow (n := 32) ha hb)]

theorem and_nat (a m : Nat) (j : Nat) (hm : m = 2 ^ j - 1) (ha : a < 4294967296) (hb : m < 4294967296) : bits BinOp.and IntKind.i64 (a : Int) (m : Int) = ((a % 2 ^ j : Nat) : Int) := by
  show IntKind.wrap .i64 (((BitVec.ofInt 64 (a : Int) &&& BitVec.ofInt 64 (m : Int)).toNat : Nat) : Int) = _
  rw [BitVec.toNat_and, ofn a ha, ofn m hb, hm, Nat.and_two_pow_sub_one_eq_mod, wrapn]
  have := Nat.mod_le a (2 ^ j)
  omega

theorem crc1_nat (x : Nat) (h : x < 4294967296) : crc1 (x : Int) = ((gN x : Nat) : Int) := by
  unfold crc1 gN
  rw [show (1 : Int) = ((1 : Nat) : Int) from rfl, and_nat x 1 1 rfl h (by decide)]
  by_cases hx : x % 2 = 1
  · rw [if_pos (by simp [hx]), if_pos hx, show (x : Int) / 2 = ((x / 2 : Nat) : Int) by omega, show (3988292384 : Int) = ((3988292384 : Nat) : Int) from rfl, xor_nat _ _ (by omega) (by decide)]
  · rw [if_neg (by simp; omega), if_neg hx, Nat.xor_zero]
    omega

theorem crcN_nat (x : Nat) (h : x < 4294967296) : ∀ n, crcN n (x : Int) = ((gI n x : Nat) : Int)
  | 0 => rfl
  | n + 1 => by
    show crc1 (crcN n (x : Int)) = _
    rw [crcN_nat x h n, crc1_nat _ (gI_lt h n)]
    rfl

theorem stepV_nat (c b : Nat) (hc : c < 4294967296) (hb : b < 256) : stepV (c : Int) (b : Int) = ((gI 8 (c ^^^ b) : Nat) : Int) := by
  have hx : c ^^^ b < 4294967296 := Nat.xor_lt_two_pow (n := 32) hc (by omega)
  unfold stepV stepI
  rw [xor_nat c b hc (by omega), show (255 : Int) = ((255 : Nat) : Int) from rfl, and_nat _ 255 8 rfl hx (by decide), Int.toNat_natCast]
  unfold crcT
  rw [crcN_nat _ (by omega), show (c : Int) / 256 = ((c / 256 : Nat) : Int) by omega, xor_nat _ _ (by omega) (gI_lt (by omega) 8), gI_parts (c ^^^ b)]
  have : (c ^^^ b) / 256 = c / 256 := by
    rw [show (256 : Nat) = 2 ^ 8 from rfl, Nat.xor_div_two_pow, Nat.div_eq_of_lt (a := b) (by omega), Nat.xor_zero]
  rw [this]

theorem unlike_l0 (a b : Nat) (ha : a < 4294967296) (hb : b < 4294967296) (d : Nat) : ∀ i : Nat, i + d = 32 →
    Ev (fun r => sextonref03_Unlike.l0 r (a : Int) (b : Int) (((a ^^^ b) % 2 ^ i : Nat) : Int) ((2 ^ i : Nat) : Int) (i : Int)) ((a ^^^ b : Nat) : Int) := by
  have hx : a ^^^ b < 4294967296 := Nat.xor_lt_two_pow (n := 32) ha hb
  induction d with
  | zero =>
    intro i hi
    obtain rfl : i = 32 := by omega
    refine Ev.step (f := fun _ => some ((a ^^^ b : Nat) : Int)) (fun r => ?_) (Ev.now _)
    simp only [sextonref03_Unlike.l0]
    rw [if_neg (by decide), Nat.mod_eq_of_lt hx]
  | succ d ih =>
    intro i hi
    have hp : 2 ^ i ≤ 4294967296 := Nat.pow_le_pow_right (n := 2) (by decide) (show i ≤ 32 by omega)
    have hp0 : 0 < 2 ^ i := Nat.two_pow_pos i
    have hs := xor_step a b i
    have hlt := Nat.mod_lt (a ^^^ b) hp0
    have ht : ∀ x : Nat, x < 4294967296 → Int.tmod (wrap64 (Int.tdiv (x : Int) ((2 ^ i : Nat) : Int))) 2 = ((x / 2 ^ i % 2 : Nat) : Int) := fun x hx => by
      have hd : x / 2 ^ i ≤ x := Nat.div_le_self _ _
      rw [Int.tdiv_eq_ediv_of_nonneg (by omega), ← Int.natCast_ediv]
      generalize x / 2 ^ i = y at *
      rw [wrap_id (by omega) (by omega), Int.tmod_eq_emod_of_nonneg (by omega)]
      rfl
    have h2 : 2 ^ (i + 1) = 2 * 2 ^ i := by rw [Nat.pow_succ]; omega
    have hn := ih (i + 1) (by omega)
    refine Ev.step (f := fun r => sextonref03_Unlike.l0 r (a : Int) (b : Int) (((a ^^^ b) % 2 ^ (i + 1) : Nat) : Int) ((2 ^ (i + 1) : Nat) : Int) ((i + 1 : Nat) : Int)) (fun r => ?_) hn
    simp only [sextonref03_Unlike.l0]
    rw [if_pos (by omega), if_neg (by omega), ht a ha, ht b hb, hs, h2]
    generalize 2 ^ i = q at *
    generalize (a ^^^ b) % q = z at *
    rw [wrap_id (x := 2 * (q : Int)) (by omega) (by omega), wrap_id (x := (i : Int) + 1) (by omega) (by omega), show (2 : Int) * (q : Int) = ((2 * q : Nat) : Int) by omega, show (i : Int) + 1 = ((i + 1 : Nat) : Int) by omega]
    by_cases h : a / q % 2 = b / q % 2
    · rw [if_pos (by rw [h]), if_pos h]; rfl
    · rw [if_neg (by omega), if_neg h, wrap_id (x := (z : Int) + (q : Int)) (by omega) (by omega), show (z : Int) + (q : Int) = ((z + q : Nat) : Int) by omega]

theorem unlike_ev (a b : Nat) (ha : a < 4294967296) (hb : b < 4294967296) : Ev (fun k => sextonref03_Unlike.f k (a : Int) (b : Int)) ((a ^^^ b : Nat) : Int) := by
  have := unlike_l0 a b ha hb 32 0 (by omega)
  simpa [sextonref03_Unlike.f, Nat.mod_one] using this

theorem step_l0 (x : Nat) (hx : x < 4294967296) (d : Nat) : ∀ i : Nat, i + d = 8 → Ev (fun r => sextonref03_Step.l0 r ((gI i x : Nat) : Int) (i : Int)) (((gI 8 x : Nat) : Int), true) := by
  induction d with
  | zero =>
    intro i hi
    obtain rfl : i = 8 := by omega
    exact Ev.step (f := fun _ => some (((gI 8 x : Nat) : Int), true)) (fun r => by simp only [sextonref03_Step.l0]; rw [if_neg (by decide)]) (Ev.now _)
  | succ d ih =>
    intro i hi
    have hlt := gI_lt hx i
    have hn := ih (i + 1) (by omega)
    have he : gI (i + 1) x = gN (gI i x) := rfl
    rw [he] at hn
    generalize gI i x = c at *
    have ht : Int.tmod (c : Int) 2 = ((c % 2 : Nat) : Int) := by rw [Int.tmod_eq_emod_of_nonneg (by omega)]; rfl
    have hd : wrap64 (Int.tdiv (c : Int) 2) = ((c / 2 : Nat) : Int) := by rw [Int.tdiv_eq_ediv_of_nonneg (by omega), wrap_id (by omega) (by omega)]; rfl
    have hw : wrap64 ((i : Int) + 1) = ((i + 1 : Nat) : Int) := by rw [wrap_id (by omega) (by omega)]; rfl
    unfold gN at hn
    by_cases hc : c % 2 = 1
    · rw [if_pos hc] at hn
      refine Ev.step (f := fun r => (sextonref03_Unlike.f r ((c / 2 : Nat) : Int) ((3988292384 : Nat) : Int)).bind fun t191 => (sextonref03_Step.l0 r t191 ((i + 1 : Nat) : Int))) (fun r => ?_) ?_
      · simp only [sextonref03_Step.l0]
        rw [if_pos (by omega), ht, if_pos (by omega), hd, hw]
        rfl
      · exact Ev.bind (unlike_ev (c / 2) 3988292384 (by omega) (by decide)) hn
    · rw [if_neg hc, Nat.xor_zero] at hn
      refine Ev.step (f := fun r => sextonref03_Step.l0 r ((c / 2 : Nat) : Int) ((i + 1 : Nat) : Int)) (fun r => ?_) hn
      simp only [sextonref03_Step.l0]
      rw [if_pos (by omega), ht, if_neg (by omega), hd, hw]

theorem step_ev (c : Int) (b : Nat) (hb : b < 256) : Ev (fun k => sextonref03_Step.f k c (b : Int)) (if 0 ≤ c ∧ c ≤ 4294967295 then (stepV c (b : Int), true) else (0, false)) := by
  have no : Ev (fun k => sextonref03_Step.j0 k c (b : Int) true) (0, false) := Ev.step (f := fun _ => some (0, false)) (fun k => by simp only [sextonref03_Step.j0]; rw [if_pos trivial]) (Ev.now _)
  by_cases h0 : c < 0
  · rw [if_neg (by omega)]
    exact Ev.congr (fun k => by unfold sextonref03_Step.f; rw [if_pos h0]) no
  · by_cases h1 : c > 4294967295
    · rw [if_neg (by omega)]
      exact Ev.congr (f := fun k => sextonref03_Step.j0 k c (b : Int) true) (fun k => by unfold sextonref03_Step.f; rw [if_neg h0, decide_eq_true h1]) no
    · rw [if_pos (by omega)]
      obtain ⟨n, rfl⟩ : ∃ n : Nat, c = n := ⟨c.toNat, by omega⟩
      rw [stepV_nat n b (by omega) hb]
      refine Ev.congr (f := fun k => sextonref03_Step.j0 k (n : Int) (b : Int) false) (fun k => by unfold sextonref03_Step.f; rw [if_neg h0, decide_eq_false h1]) ?_
      refine Ev.step (f := fun k => (sextonref03_Unlike.f k (n : Int) (b : Int)).bind fun t190 => (sextonref03_Step.l0 k t190 0)) (fun k => by simp only [sextonref03_Step.j0]; rw [if_neg (by decide), wrap_id (by omega) (by omega)]) ?_
      exact Ev.bind (unlike_ev n b (by omega) (by omega)) (step_l0 (n ^^^ b) (Nat.xor_lt_two_pow (n := 32) (by omega) (by omega)) 8 0 (by omega))

theorem sum_l0 (s : ByteArray) (hs : s.size ≤ 1000000000) (d : Nat) : ∀ k : Nat, k + d = s.size → Ev (fun r => sextonref03_Sum.l0 r s (sumC (s.data.toList.take k) 4294967295) (k : Int)) (sumV s) := by
  induction d with
  | zero =>
    intro k hk
    obtain rfl : k = s.size := by omega
    have hw : sumC (s.data.toList.take s.size) 4294967295 = sumC s.data.toList 4294967295 := by rw [List.take_of_length_le (by simp)]
    have hr := sumC_rng s.data.toList (c := 4294967295) ⟨by omega, by omega⟩
    rw [hw]
    unfold sumV
    obtain ⟨n, hn⟩ : ∃ n : Nat, sumC s.data.toList 4294967295 = n := ⟨(sumC s.data.toList 4294967295).toNat, by have := hr.1; omega⟩
    rw [hn] at hr ⊢
    have hlt := hr.2
    have hx := xor_nat n 4294967295 (by omega) (by decide)
    have hx' : bits BinOp.xor IntKind.i64 (n : Int) 4294967295 = ((n ^^^ 4294967295 : Nat) : Int) := hx
    rw [hx']
    refine Ev.step (f := fun r => (sextonref03_Unlike.f r (n : Int) ((4294967295 : Nat) : Int)).bind fun t194 => (some t194)) (fun r => by simp only [sextonref03_Sum.l0]; rw [if_neg (by omega)]; rfl) ?_
    exact Ev.bind (unlike_ev n 4294967295 (by omega) (by decide)) (Ev.now _)
  | succ d ih =>
    intro k hk
    have hlt : k < s.size := by omega
    have hl : k < s.data.toList.length := by rw [len_list]; exact hlt
    have hr := sumC_rng (s.data.toList.take k) (c := 4294967295) ⟨by omega, by omega⟩
    have hst := step_ev (sumC (s.data.toList.take k) 4294967295) (s.data.toList[k].toNat) (s.data.toList[k].toNat_lt)
    rw [if_pos ⟨hr.1, by have := hr.2; omega⟩] at hst
    have hn := ih (k + 1) (by omega)
    rw [List.take_succ_eq_append_getElem hl, sumC_snoc] at hn
    refine Ev.step (f := fun r => (sextonref03_Step.f r (sumC (s.data.toList.take k) 4294967295) (s.data.toList[k].toNat : Int)).bind fun bt192 => (sextonref03_Sum.l0 r s bt192.1 ((k + 1 : Nat) : Int))) (fun r => ?_) (Ev.bind hst hn)
    simp only [sextonref03_Sum.l0]
    rw [if_pos (by omega), if_pos (by omega), bt_list s k hl, wrap_id (by omega) (by omega)]
    rfl

theorem sum_ev (s : ByteArray) (hs : s.size ≤ 1000000000) : Ev (fun k => sextonref03_Sum.f k s) (sumV s) := sum_l0 s hs s.size 0 (by omega)
theorem four_f (n : Int) (h : In32 n) : sextonref03_four.f n = some (fourS n) := by
  unfold In32 at h
  unfold sextonref03_four.f fourS
  rw [Int.tdiv_eq_ediv_of_nonneg h.1, Int.tdiv_eq_ediv_of_nonneg h.1, Int.tdiv_eq_ediv_of_nonneg h.1, wrap_id (by omega) (by omega), wrap_id (by omega) (by omega), wrap_id (by omega) (by omega), Int.tmod_eq_emod_of_nonneg (by omega), Int.tmod_eq_emod_of_nonneg (by omega), Int.tmod_eq_emod_of_nonneg (by omega)]
  simp only [Int.emod_emod]
theorem refPut (s : ByteArray) : Ev (fun k => sextonref03_Put.f k s) (if s.size ≤ 4000 then (frameOf s, 0) else (⟨#[]⟩, 2)) := by
  have ht := refText s
  by_cases h : s.size ≤ 4000
  · rw [if_pos h] at ht ⊢
    obtain ⟨K1, e1⟩ := ht
    obtain ⟨K2, e2⟩ := sum_ev s (by omega)
    simp only at e1 e2
    refine ⟨K1 + K2, fun k hk => ?_⟩
    show sextonref03_Put.f k s = _
    unfold sextonref03_Put.f
    rw [e1 k (by omega)]
    simp only [Option.bind_some, if_true]
    rw [e2 k (by omega)]
    simp only [Option.bind_some]
    rw [four_f _ (sumV_rng s)]
    simp only [Option.bind_some]
    rw [if_pos (by have := textStr_size s; rw [four_size]; omega)]
    rfl
  · rw [if_neg h] at ht ⊢
    obtain ⟨K1, e1⟩ := ht
    simp only at e1
    refine ⟨K1, fun k hk => ?_⟩
    show sextonref03_Put.f k s = _
    unfold sextonref03_Put.f
    rw [e1 k (by omega)]
    simp only [Option.bind_some]
    rw [if_neg (by decide)]
theorem four_iff (n : Int) (h : In32 n) (l : List UInt8) (hl : l.length = 4) : (fourS n).data.toList = l ↔ n = accB l := by
  unfold In32 at h
  match l, hl with
  | [b0, b1, b2, b3], _ =>
    have q0 := b0.toNat_lt; have q1 := b1.toNat_lt; have q2 := b2.toNat_lt; have q3 := b3.toNat_lt
    have hv : accB [b0, b1, b2, b3] = (((b0.toNat : Int) * 256 + b1.toNat) * 256 + b2.toNat) * 256 + b3.toNat := by
      simp only [accB, List.foldl_cons, List.foldl_nil]; omega
    constructor
    · intro he
      rw [← he, four_list, accB_four _ _ _ _ (by omega) (by omega) (by omega) (by omega)]
      omega
    · intro he
      rw [he, hv, four_list]
      have e0 : ((((b0.toNat : Int) * 256 + b1.toNat) * 256 + b2.toNat) * 256 + b3.toNat) / 16777216 % 256 = b0.toNat := by omega
      have e1 : ((((b0.toNat : Int) * 256 + b1.toNat) * 256 + b2.toNat) * 256 + b3.toNat) / 65536 % 256 = b1.toNat := by omega
      have e2 : ((((b0.toNat : Int) * 256 + b1.toNat) * 256 + b2.toNat) * 256 + b3.toNat) / 256 % 256 = b2.toNat := by omega
      have e3 : ((((b0.toNat : Int) * 256 + b1.toNat) * 256 + b2.toNat) * 256 + b3.toNat) % 256 = b3.toNat := by omega
      rw [e0, e1, e2, e3, u8_of, u8_of, u8_of, u8_of]
theorem refGet (s : ByteArray) : Ev (fun k => sextonref03_Get.f k s) (getFrame s) := by
  unfold getFrame
  by_cases h4 : s.size < 4
  · rw [if_pos h4]
    exact Ev.congr (f := fun _ => some noFrame) (fun k => by unfold sextonref03_Get.f; rw [if_pos (by omega)]; rfl) (Ev.now _)
  · rw [if_neg h4]
    obtain ⟨K1, e1⟩ := refGetText (s.extract 4 s.size)
    simp only at e1
    have hx : (s.extract 0 4).data.toList = s.data.toList.take 4 := by rw [ext_list]; rfl
    have hlen : (s.data.toList.take 4).length = 4 := by rw [List.length_take, len_list]; omega
    by_cases ht : (getText (s.extract 4 s.size)).2.2 = true
    · rw [if_pos ht]
      have hsz : (getText (s.extract 4 s.size)).1.size ≤ 4000 := (getText_got (s := s.extract 4 s.size) (t := (getText (s.extract 4 s.size)).1) (rest := (getText (s.extract 4 s.size)).2.1) (by rw [← ht])).1
      obtain ⟨K2, e2⟩ := sum_ev (getText (s.extract 4 s.size)).1 (by omega)
      simp only at e2
      have hr := sumV_rng (getText (s.extract 4 s.size)).1
      have hi := four_iff _ hr (s.data.toList.take 4) hlen
      refine ⟨K1 + K2, fun k hk => ?_⟩
      show sextonref03_Get.f k s = _
      unfold sextonref03_Get.f
      rw [if_neg (by omega), if_pos (by omega), e1 k (by omega)]
      simp only [Option.bind_some]
      rw [if_pos ht, e2 k (by omega)]
      simp only [Option.bind_some]
      rw [four_f _ hr]
      simp only [Option.bind_some]
      rw [if_pos (by decide)]
      by_cases he : sumV (getText (s.extract 4 s.size)).1 = accB (s.data.toList.take 4)
      · rw [if_pos he, if_pos (by rw [ByteArray.toList_eq, ByteArray.toList_eq, hi.2 he, hx])]
      · rw [if_neg he, if_neg (fun h => he (hi.1 (by rw [ByteArray.toList_eq, ByteArray.toList_eq, hx] at h; exact h)))]
        rfl
    · rw [if_neg ht]
      refine ⟨K1, fun k hk => ?_⟩
      show sextonref03_Get.f k s = _
      unfold sextonref03_Get.f
      rw [if_neg (by omega), if_pos (by omega), e1 k (by omega)]
      simp only [Option.bind_some]
      rw [if_neg ht]
      rfl
end Go.Proofs.Ytoibofhmlokglaa.P
/-
  Layer 7's reference, told plainly.
-/
namespace Go.Proofs.Ytoibofhmlokglaa.P
open Go.RowKit Go.Proofs Go.Proofs.CodecPlain Go.Proofs.YtoibofhmlokglaaW.PrintWords Go.Proofs.YtoibofhmlokglaaW.PrintLast Go.Proofs.Plain

theorem refOpen7 (l0 : List ByteArray) (l1 : List S40) (fr ep : Int) : Ev (fun k => sextonref07_open.f k l0 l1 fr ep) (openE l0 l1 fr ep) := by
  refine Ev.bind (refCheck l0 l1) ?_
  have no : Ev (fun k => sextonref07_open.j0 k fr true l0 l1) 1 := Ev.step (f := fun _ => some 1) (fun k => by simp only [sextonref07_open.j0]; rw [if_pos trivial]) (Ev.now _)
  unfold openE
  by_cases h1 : checkB l0 l1 = true
  rotate_left
  · rw [if_pos (.inl (by simpa using h1))]
    simp only [if_neg h1]
    exact no
  simp only [if_pos h1]
  by_cases h2 : ep < 0
  · rw [if_pos (.inr (.inl h2))]
    simp only [if_pos h2]
    exact no
  by_cases h3 : ep > 1000000000
  · rw [if_pos (.inr (.inr h3))]
    simp only [if_neg h2, decide_eq_true h3]
    exact no
  rw [if_neg (by simp [h1]; omega)]
  simp only [if_neg h2, decide_eq_false h3]
  refine Ev.step (f := fun _ => some (if fr < 0 ∨ (l0.length : Int) ≤ fr then 40 else 0)) (fun k => ?_) (Ev.now _)
  simp only [sextonref07_open.j0]
  rw [if_neg (by decide)]
  by_cases h4 : fr < 0
  · rw [if_pos h4, if_pos (.inl h4)]
  by_cases h5 : fr ≥ (l0.length : Int)
  · rw [if_neg h4, if_pos h5, if_pos (.inr h5)]
  · rw [if_neg h4, if_neg h5, if_neg (by omega)]
theorem refRecord {ep n : Int} {s : ByteArray} (h0 : 0 ≤ ep) (h1 : ep ≤ 1000000000) (h2 : 0 ≤ n) (h3 : n ≤ 1000) (hs : s.size ≤ 200) : Ev (fun k => sextonref07_Record.f k ep n s) (recF ep n s) := by
  have z1 := numStr_size ep
  have z2 := numStr_size n
  have hz : ((numStr ep ++ numStr n) ++ s).size ≤ 4000 := by rw [CodecPlain.size_append, CodecPlain.size_append]; omega
  have a := refNumber ep
  have b := refNumber n
  have c := refPut ((numStr ep ++ numStr n) ++ s)
  rw [if_pos ⟨h0, by omega⟩] at a
  rw [if_pos ⟨h2, by omega⟩] at b
  rw [if_pos hz] at c
  refine Ev.bind a (Ev.bind b ?_)
  simp only [if_pos (show (numStr ep).size + (numStr n).size ≤ 9223372036854775807 by omega), if_pos (show (numStr ep ++ numStr n).size + s.size ≤ 9223372036854775807 by rw [CodecPlain.size_append]; omega)]
  exact Ev.bind c (Ev.now _)
/-- What the reference's read answers. -/
def readR (s : ByteArray) (ep n : Int) : ByteArray × Bool :=
  if (getFrame s).2.2 = 0 ∧ (getFrame s).2.1 = ⟨#[]⟩ then
    ((getNum (getNum (getFrame s).1).2.1).2.1, (getNum (getFrame s).1).2.2 && ((getNum (getNum (getFrame s).1).2.1).2.2 && (decide ((getNum (getFrame s).1).1 = ep) && (decide ((getNum (getNum (getFrame s).1).2.1).1 = n) && decide ((getNum (getNum (getFrame s).1).2.1).2.1.size ≤ 200)))))
  else (⟨#[]⟩, false)
theorem readR_rec (s : ByteArray) (ep n : Int) : ((readR s ep n).2 = true ↔ (recW s).2.2.2 = true ∧ (recW s).1 = ep ∧ (recW s).2.1 = n) ∧ ((readR s ep n).2 = true → (readR s ep n).1 = (recW s).2.2.1) := by
  unfold readR recW
  by_cases h : (getFrame s).2.2 = 0 ∧ (getFrame s).2.1 = ⟨#[]⟩
  · simp only [if_pos h, Bool.and_eq_true, decide_eq_true_eq]
    exact ⟨by constructor <;> intro q <;> simp_all, fun _ => trivial⟩
  · simp only [if_neg h]
    simp
theorem refRead7 (s : ByteArray) (ep n : Int) : Ev (fun k => sextonref07_read.f k s ep n) (readR s ep n) := by
  refine Ev.bind (refGet s) ?_
  unfold readR
  obtain ⟨⟨t, rest, e⟩, hg⟩ : ∃ p, p = getFrame s := ⟨_, rfl⟩
  rw [← hg]
  simp only
  have no : Ev (fun k => sextonref07_read.j0 k ep n t true) (⟨#[]⟩, false) := Ev.step (f := fun _ => some (⟨#[]⟩, false)) (fun k => by simp only [sextonref07_read.j0]; rw [if_pos trivial]) (Ev.now _)
  by_cases he : e = 0
  rotate_left
  · rw [if_neg (fun q => he q.1)]
    simp only [if_neg he]
    exact no
  simp only [if_pos he]
  by_cases hr : rest = ⟨#[]⟩
  rotate_left
  · rw [if_neg (fun q => hr q.2)]
    have : (rest.toList != ([] : List UInt8)) = true := by rw [bne_iff_ne]; intro h; rw [ByteArray.toList_eq] at h; exact hr (ba_ext h)
    rw [this]
    exact no
  rw [if_pos ⟨he, hr⟩]
  have : (rest.toList != ([] : List UInt8)) = false := by rw [hr, ByteArray.toList_eq]; rfl
  rw [this]
  refine Ev.step (f := fun k => (sextonref01_GetNumber.f k t).bind fun bt418 => ((sextonref01_GetNumber.f k bt418.2.1).bind fun bt421 => (if bt418.2.2 = true then (if bt421.2.2 = true then (if bt418.1 = ep then (if bt421.1 = n then (some (bt421.2.1, decide ((bt421.2.1.size : Int) ≤ 200))) else (some (bt421.2.1, false))) else (some (bt421.2.1, false))) else (some (bt421.2.1, false))) else (some (bt421.2.1, false))))) (fun k => by simp only [sextonref07_read.j0]; rw [if_neg (by decide)]) ?_
  refine Ev.bind (refGetNumber t) (Ev.bind (refGetNumber _) ?_)
  refine Ev.congr (fun k => ?_) (Ev.now _)
  by_cases h1 : (getNum t).2.2 = true
  rotate_left
  · rw [if_neg h1]
    simp [h1]
  rw [if_pos h1]
  by_cases h2 : (getNum (getNum t).2.1).2.2 = true
  rotate_left
  · rw [if_neg h2]
    simp [h2]
  rw [if_pos h2]
  by_cases h3 : (getNum t).1 = ep
  rotate_left
  · rw [if_neg h3]
    simp [h3]
  rw [if_pos h3]
  by_cases h4 : (getNum (getNum t).2.1).1 = n
  rotate_left
  · rw [if_neg h4]
    simp [h4]
  rw [if_pos h4, h1, h2, decide_eq_true h3, decide_eq_true h4]
  simp only [Bool.true_and]
  congr 2
  exact decide_eq_decide.2 (by omega)
theorem open_l0 {l0 : List ByteArray} {l1 : List S40} (fr : Nat) (ep : Int) (h : checkB l0 l1 = true) (d : Nat) : ∀ (k : Nat) (acc : List ByteArray), k + d = l0.length → fr ≤ k → acc.length ≤ k → Ev (fun r => sextonref07_Open.l0 r (fr : Int) ep acc (k : Int) l0 l1) (acc ++ recsV ep ((k : Int) - (fr : Int)) ((contV l0 l1).drop k), 0) := by
  obtain ⟨_, c2, _⟩ := check_len h
  have hlen : (contV l0 l1).length = l0.length := applyW_length _ l1 0 l0
  induction d with
  | zero =>
    intro k acc hk hf ha
    rw [List.drop_of_length_le (by omega)]
    exact Ev.step (f := fun _ => some (acc ++ recsV ep ((k : Int) - (fr : Int)) [], 0)) (fun r => by simp only [sextonref07_Open.l0]; rw [if_neg (by omega), recsV, List.append_nil]) (Ev.now _)
  | succ d ih =>
    intro k acc hk hf ha
    have hk' : k < (contV l0 l1).length := by omega
    rw [List.drop_eq_getElem_cons hk']
    have hrd : readV l0 l1 (k : Int) = ((contV l0 l1)[k], 0) := by
      unfold readV
      rw [if_neg (by simp [h]), if_neg (by omega)]
      unfold contV at hk' ⊢
      rw [rd_str _ k hk']
    have r1 := refRead l0 l1 (k : Int)
    rw [hrd] at r1
    have hw : wrap64 ((k : Int) - (fr : Int)) = (k : Int) - (fr : Int) := wrap_at (by omega) (by omega)
    obtain ⟨q1, q2⟩ := readR_rec (contV l0 l1)[k] ep ((k : Int) - (fr : Int))
    have r2 := refRead7 (contV l0 l1)[k] ep ((k : Int) - (fr : Int))
    refine Ev.step (f := fun r => (sextonref04_Read.f r l0 l1 (k : Int)).bind fun bt426 => ((sextonref07_read.f r bt426.1 ep ((k : Int) - (fr : Int))).bind fun bt428 => (if bt428.2 = true then (sextonref07_Open.l0 r (fr : Int) ep (acc ++ [bt428.1]) ((k + 1 : Nat) : Int) l0 l1) else (some (acc, 0))))) (fun r => ?_) (Ev.bind r1 (Ev.bind r2 ?_))
    · simp only [sextonref07_Open.l0]
      rw [if_pos (by omega), hw, wrap_at (x := (k : Int) + 1) (by omega) (by omega)]
      congr 1
      funext t
      congr 1
      funext t2
      rw [if_pos (show acc.length < 8796093022208 by omega)]
      rfl
    · by_cases hb : (readR (contV l0 l1)[k] ep ((k : Int) - (fr : Int))).2 = true
      · simp only [if_pos hb]
        rw [recsV, if_pos (q1.1 hb), q2 hb]
        have := ih (k + 1) (acc ++ [(recW (contV l0 l1)[k]).2.2.1]) (by omega) (by omega) (by simp; omega)
        rw [show ((k + 1 : Nat) : Int) - (fr : Int) = (k : Int) - (fr : Int) + 1 by omega, List.append_assoc, List.singleton_append] at this
        exact this
      · simp only [if_neg hb]
        rw [recsV, if_neg (fun q => hb (q1.2 q)), List.append_nil]
        exact Ev.now _
theorem refOpen (l0 : List ByteArray) (l1 : List S40) (fr ep : Int) : Ev (fun k => sextonref07_Open.f k l0 l1 fr ep) (openV l0 l1 fr ep) := by
  refine Ev.bind (refOpen7 l0 l1 fr ep) ?_
  unfold openV
  by_cases h : openE l0 l1 fr ep = 0
  · rw [if_pos h]
    simp only [if_pos h]
    obtain ⟨g0, g1, g2, g3, g4⟩ := openE_ok h
    obtain ⟨n, rfl⟩ : ∃ n : Nat, fr = n := ⟨fr.toNat, by omega⟩
    have := open_l0 n ep g0 (l0.length - n) n [] (by omega) (Nat.le_refl _) (by simp)
    rw [List.nil_append, Int.sub_self] at this
    exact this
  · rw [if_neg h]
    simp only [if_neg h]
    exact Ev.now _
theorem openV_len (l0 : List ByteArray) (l1 : List S40) (fr ep : Int) : (openV l0 l1 fr ep).1.length ≤ 200 := by
  unfold openV
  by_cases h : openE l0 l1 fr ep = 0
  · rw [if_pos h]
    obtain ⟨g0, _⟩ := openE_ok h
    obtain ⟨_, c2, _⟩ := check_len g0
    have := recsV_len ep ((contV l0 l1).drop fr.toNat) 0
    rw [List.length_drop] at this
    unfold contV at this
    rw [applyW_length] at this
    simp only
    unfold contV
    omega
  · rw [if_neg h]
    simp
theorem refAppend (l0 : List ByteArray) (l1 : List S40) (fr ep : Int) (s : ByteArray) : Ev (fun k => sextonref07_Append.f k l0 l1 fr ep s) (appendV l0 l1 fr ep s) := by
  refine Ev.bind (refOpen l0 l1 fr ep) ?_
  have hln := openV_len l0 l1 fr ep
  unfold openV at hln ⊢
  unfold appendV
  by_cases h : openE l0 l1 fr ep = 0
  rotate_left
  · rw [if_neg h, if_pos h]
    simp only [if_neg h]
    exact Ev.now _
  rw [if_pos h] at hln
  rw [if_pos h, if_neg (fun q => q h)]
  simp only [if_true]
  obtain ⟨g0, g1, g2, g3, g4⟩ := openE_ok h
  obtain ⟨_, c2, _⟩ := check_len g0
  obtain ⟨L, hL⟩ : ∃ L, L = recsV ep 0 ((contV l0 l1).drop fr.toNat) := ⟨_, rfl⟩
  rw [← hL] at hln ⊢
  replace hln : L.length ≤ 200 := hln
  by_cases h1 : 200 < s.size
  · rw [if_pos h1]
    simp only [if_pos (show (s.size : Int) > 200 by omega)]
    exact Ev.now _
  rw [if_neg h1]
  simp only [if_neg (show ¬ (s.size : Int) > 200 by omega)]
  have hw : wrap64 (fr + (L.length : Int)) = fr + (L.length : Int) := wrap_at (by omega) (by omega)
  rw [hw]
  by_cases h2 : (l0.length : Int) ≤ fr + (L.length : Int)
  · rw [if_pos h2]
    simp only [if_pos (show fr + (L.length : Int) ≥ (l0.length : Int) from h2)]
    exact Ev.now _
  rw [if_neg h2]
  simp only [if_neg (show ¬ fr + (L.length : Int) ≥ (l0.length : Int) from h2)]
  refine Ev.bind (refRecord g3 g4 (by omega) (by omega) (by omega)) (Ev.bind (refWrite l0 l1 _ _) ?_)
  exact Ev.now _
theorem append_check {l0 : List ByteArray} {l1 : List S40} {fr ep : Int} {s : ByteArray} (h : (appendV l0 l1 fr ep s).2.2 = 0) : checkB (appendV l0 l1 fr ep s).1 (appendV l0 l1 fr ep s).2.1 = true := by
  unfold appendV at h ⊢
  by_cases h1 : openE l0 l1 fr ep = 0
  rotate_left
  · rw [if_pos h1] at h
    exact absurd h h1
  rw [if_neg (fun q => q h1)] at h ⊢
  obtain ⟨g0, g1, g2, g3, g4⟩ := openE_ok h1
  split at h
  · exact absurd h (by decide)
  split at h
  · exact absurd h (by decide)
  rename_i h2 h3
  rw [if_neg h2, if_neg h3]
  unfold writeV at h ⊢
  split at h
  · exact absurd h (by decide)
  split at h
  · exact absurd h (by decide)
  split at h
  · exact absurd h (by decide)
  split at h
  · exact absurd h (by decide)
  rename_i h4 h5 h6 h7
  rw [if_neg h4, if_neg h5, if_neg h6, if_neg h7]
  exact check_write g0 h5 (by simpa using h6) h7
theorem append_small (l0 : List ByteArray) (l1 : List S40) (fr ep : Int) (s : ByteArray) : (appendV l0 l1 fr ep s).1.length ≤ 200 ∧ (appendV l0 l1 fr ep s).2.1.length ≤ 200 := by
  by_cases h : (appendV l0 l1 fr ep s).2.2 = 0
  · obtain ⟨_, c2, c3, _⟩ := check_len (append_check h)
    exact ⟨c2, by omega⟩
  · unfold appendV at h ⊢
    split
    · exact ⟨by simp, by simp⟩
    split
    · exact ⟨by simp, by simp⟩
    split
    · exact ⟨by simp, by simp⟩
    rename_i h1 h2 h3
    rw [if_neg h1, if_neg h2, if_neg h3] at h
    unfold writeV at h ⊢
    split
    · exact ⟨by simp, by simp⟩
    split
    · exact ⟨by simp, by simp⟩
    split
    · exact ⟨by simp, by simp⟩
    split
    · exact ⟨by simp, by simp⟩
    rename_i h4 h5 h6 h7
    rw [if_neg h4, if_neg h5, if_neg h6, if_neg h7] at h
    exact absurd rfl h
theorem all_small' (fr ep : Int) : ∀ (l : List ByteArray) (x : Int) (b : List ByteArray) (u : List S40), checkB b u = true → (allV' fr ep l x b u).1.length ≤ 200 ∧ (allV' fr ep l x b u).2.1.length ≤ 200
  | [], x, b, u, h => by
    obtain ⟨_, c2, c3, _⟩ := check_len h
    unfold allV'
    split
    · exact ⟨c2, by simp only; omega⟩
    · unfold doneV
      rw [if_pos h]
      exact ⟨by simp only; rw [applyW_length]; exact c2, by simp⟩
  | s :: t, x, b, u, h => by
    obtain ⟨_, c2, c3, _⟩ := check_len h
    unfold allV'
    split
    · exact ⟨c2, by simp only; omega⟩
    · split
      · rename_i h2
        exact all_small' fr ep t _ _ _ (append_check h2)
      · exact ⟨by simp, by simp⟩
theorem all_small (l0 : List ByteArray) (l1 : List S40) (fr ep : Int) (l : List ByteArray) (x : Int) : (allV l0 l1 fr ep l x).1.length ≤ 200 ∧ (allV l0 l1 fr ep l x).2.1.length ≤ 200 := by
  unfold allV
  split
  · rename_i h
    exact all_small' fr ep l _ _ _ (openE_ok h).1
  · exact ⟨by simp, by simp⟩
theorem refAll_l0 (fr ep : Int) (l : List ByteArray) (hl : l.length ≤ 1000) (D : Int) (d : Nat) : ∀ (i : Nat) (x : Int) (b : List ByteArray) (u : List S40), i + d = l.length → checkB b u = true → (i : Int) ≤ D → D ≤ (l.length : Int) + 1 → ((x = -1 ∧ D = (l.length : Int) + 1) ∨ x = D - i) →
    Ev (fun k => sextonref07_All.l0 k fr ep l D (i : Int) b u) (allV' fr ep (l.drop i) x b u) := by
  induction d with
  | zero =>
    intro i x b u hi hc h1 h2 hx
    rw [List.drop_of_length_le (by omega)]
    unfold allV'
    refine Ev.step (f := fun k => sextonref07_All.j3 k fr ep l D (i : Int) false b u) (fun k => by simp only [sextonref07_All.l0]; rw [if_neg (by omega)]) ?_
    by_cases h0 : x = 0
    · rw [if_pos h0]
      exact Ev.step (f := fun _ => some (b, u, false, 0)) (fun k => by simp only [sextonref07_All.j3]; rw [if_neg (by decide), if_pos (by omega)]) (Ev.now _)
    · rw [if_neg h0]
      have hd : (doneV (fun _ => true) b u).2.2 = 0 := by unfold doneV; rw [if_pos hc]
      rw [hd]
      refine Ev.step (f := fun k => (sextonref04_Sync.f k b u).bind fun bt505 => (some (bt505.1, bt505.2.1, true, 0))) (fun k => by simp only [sextonref07_All.j3]; rw [if_neg (by decide), if_neg (by omega)]) ?_
      exact Ev.bind (refSync b u) (Ev.now _)
  | succ d ih =>
    intro i x b u hi hc h1 h2 hx
    have hlt : i < l.length := by omega
    rw [List.drop_eq_getElem_cons hlt]
    unfold allV'
    by_cases h0 : x = 0
    · rw [if_pos h0]
      refine Ev.step (f := fun k => sextonref07_All.j3 k fr ep l D (i : Int) false b u) (fun k => by simp only [sextonref07_All.l0]; rw [if_pos (by omega), decide_eq_false (by omega)]) ?_
      exact Ev.step (f := fun _ => some (b, u, false, 0)) (fun k => by simp only [sextonref07_All.j3]; rw [if_neg (by decide), if_pos (by omega)]) (Ev.now _)
    · rw [if_neg h0]
      refine Ev.step (f := fun k => sextonref07_All.j3 k fr ep l D (i : Int) true b u) (fun k => by simp only [sextonref07_All.l0]; rw [if_pos (by omega), decide_eq_true (by omega)]) ?_
      refine Ev.step (f := fun k => (sextonref07_Append.f k b u fr ep l[i]).bind fun bt497 => (if bt497.2.2 = 0 then (sextonref07_All.l0 k fr ep l D ((i + 1 : Nat) : Int) bt497.1 bt497.2.1) else (some (([] : List ByteArray), ([] : List S40), false, bt497.2.2)))) (fun k => ?_) (Ev.bind (refAppend b u fr ep l[i]) ?_)
      · simp only [sextonref07_All.j3]
        rw [if_pos trivial, if_pos (by omega), if_pos (by omega), rd_str l i hlt, wrap_at (by omega) (by omega)]
        rfl
      · by_cases ha : (appendV b u fr ep l[i]).2.2 = 0
        · rw [if_pos ha]
          simp only [if_pos ha]
          refine ih (i + 1) _ _ _ (by omega) (append_check ha) (by omega) h2 ?_
          by_cases hp : x > 0
          · rw [if_pos hp, wrap_at (by omega) (by omega)]
            rcases hx with hx | hx
            · omega
            · right; omega
          · rw [if_neg hp]
            rcases hx with hx | hx
            · exact .inl hx
            · omega
        · rw [if_neg ha]
          simp only [if_neg ha]
          exact Ev.now _
theorem refAll (l0 : List ByteArray) (l1 : List S40) (fr ep : Int) (l : List ByteArray) (hl : l.length ≤ 1000) (x : Int) : Ev (fun k => sextonref07_All.f k l0 l1 fr ep l x) (allV l0 l1 fr ep l x) := by
  refine Ev.bind (refOpen7 l0 l1 fr ep) ?_
  unfold allV
  by_cases h : openE l0 l1 fr ep = 0
  rotate_left
  · rw [if_neg h]
    simp only [if_neg h]
    exact Ev.now _
  rw [if_pos h]
  simp only [if_pos h]
  obtain ⟨g0, _⟩ := openE_ok h
  obtain ⟨_, c2, c3, _⟩ := check_len g0
  have hw : wrap64 ((l.length : Int) + 1) = (l.length : Int) + 1 := wrap_at (by omega) (by omega)
  rw [hw]
  have j1 : ∀ (D y : Int), 0 ≤ D → D ≤ (l.length : Int) + 1 → ((y = -1 ∧ D = (l.length : Int) + 1) ∨ y = D) → Ev (fun k => sextonref07_All.j1 k fr ep l D l0 l1) (allV' fr ep l y l0 l1) := fun D y h1 h2 h3 => by
    refine Ev.step (f := fun k => sextonref07_All.l0 k fr ep l D ((0 : Nat) : Int) l0 l1) (fun k => by simp only [sextonref07_All.j1]; rw [refOwnD l0 l1 (by omega) (by omega)]; rfl) ?_
    have := refAll_l0 fr ep l hl D l.length 0 y l0 l1 (by omega) g0 (by omega) h2 (by omega)
    rw [List.drop_zero] at this
    exact this
  by_cases h1 : x < 0
  · simp only [if_pos h1]
    refine Ev.step (f := fun k => sextonref07_All.j1 k fr ep l ((l.length : Int) + 1) l0 l1) (fun k => by simp only [sextonref07_All.j0]; rw [if_pos trivial, hw]) (j1 _ _ (by omega) (by omega) (.inl ⟨?_, rfl⟩))
    unfold mn mx
    repeat' split
    all_goals omega
  simp only [if_neg h1]
  by_cases h2 : x > (l.length : Int) + 1
  · simp only [decide_eq_true h2]
    refine Ev.step (f := fun k => sextonref07_All.j1 k fr ep l ((l.length : Int) + 1) l0 l1) (fun k => by simp only [sextonref07_All.j0]; rw [if_pos trivial, hw]) (j1 _ _ (by omega) (by omega) (.inr ?_))
    unfold mn mx
    repeat' split
    all_goals omega
  · simp only [decide_eq_false h2]
    refine Ev.step (f := fun k => sextonref07_All.j1 k fr ep l x l0 l1) (fun k => by simp only [sextonref07_All.j0]; rw [if_neg (by decide)]) (j1 _ _ (by omega) (by omega) (.inr ?_))
    unfold mn mx
    repeat' split
    all_goals omega
/-- What the room is. -/
def roomV (l0 : List ByteArray) (l1 : List S40) (fr ep : Int) : Int × Int := if (openV l0 l1 fr ep).2 = 0 then (wrap64 ((wrap64 ((l0.length : Int) - fr)) - ((openV l0 l1 fr ep).1.length : Int)), 0) else (0, (openV l0 l1 fr ep).2)
theorem room_f (l0 : List ByteArray) (l1 : List S40) (fr ep : Int) : wal_Room.f l0 l1 fr ep = some (roomV l0 l1 fr ep) := by
  unfold wal_Room.f wal_Open.f roomV
  rw [Option.bind_some]
  split <;> rfl
theorem refRoom (l0 : List ByteArray) (l1 : List S40) (fr ep : Int) : Ev (fun k => sextonref07_Room.f k l0 l1 fr ep) (roomV l0 l1 fr ep) := by
  refine Ev.bind (refOpen l0 l1 fr ep) (Ev.congr (f := fun _ => some (roomV l0 l1 fr ep)) (fun k => ?_) (Ev.now _))
  unfold roomV
  split <;> rfl
/-- A disk that is not far is not big. -/
theorem far7_big (l0 : List ByteArray) (l1 : List S40) (l : List ByteArray) (hl : l.length ≤ 9223372036854775807) (hb : Ev (fun k => sextonlaw07_far.f k l0 l1 l) false) : Ev (fun k => sextonref04_Big.f k l0 l1) false := by
  unfold sextonlaw07_far.f at hb
  suffices H : ∀ d i : Nat, i + d = l.length → Ev (fun k => sextonlaw07_far.l0 k l (i : Int) l0 l1) false → Ev (fun k => sextonref04_Big.f k l0 l1) false from H l.length 0 (by omega) hb
  intro d
  induction d with
  | zero =>
    intro i hi h
    obtain ⟨K, e⟩ := h
    refine ⟨K + 1, fun k hk => ?_⟩
    have e1 := e (k + 1) (by omega)
    simp only [sextonlaw07_far.l0] at e1
    rw [if_neg (by omega)] at e1
    obtain ⟨g, e3, e2⟩ := Option.bind_eq_some_iff.1 e1
    by_cases hg : g = true
    · rw [if_pos hg] at e2
      cases e2
    · simp only
      rw [e3]
      simpa using hg
  | succ d ih =>
    intro i hi h
    obtain ⟨K, e⟩ := h
    have hw : wrap64 ((i : Int) + 1) = ((i + 1 : Nat) : Int) := wrap_at (by omega) (by omega)
    refine ih (i + 1) (by omega) ⟨K, fun k hk => ?_⟩
    have e1 := e (k + 1) (by omega)
    simp only [sextonlaw07_far.l0] at e1
    rw [if_pos (by omega), if_pos (by omega)] at e1
    by_cases hs : ((rdOf ByteArray.empty l (i : Int)).size : Int) > 300
    · rw [if_pos hs] at e1
      cases e1
    · rw [if_neg hs, hw] at e1
      exact e1
end Go.Proofs.Ytoibofhmlokglaa.P
/-
  What can be read as data reads as a value of its kind: kind by kind, for the rows of the statements.
-/
namespace Go.Proofs.Ytoibofhmlokglaa.Opens
open Go.ChangeShapes Go.WideShapes Go.ChangeAt Go.RowKit Go.Proofs.YtoibofhmlokglaaW.PrintWords

def Opens (P : Program) {α : Type} (kd : Kd α) (ok : α → Prop) (t : TypeId) : Prop :=
  ∀ {H : Type} (enc : TypeId × Value → H) (W : World) (base : Nat) (spare : Nat → Bool) (held : Bool) (fuel : Nat) (cs : List Value) (x : DataW H × List MemPlace),
    DataW.trod enc P W base spare held fuel t cs = some x → ∃ a, kd.K W a cs ∧ ok a
def OkInt (k : IntKind) (n : Int) : Prop := (Lit.int k n).wf = true
def OkStr (s : ByteArray) : Prop := s.size ≤ maxLen
def OkList {α : Type} (ok : α → Prop) (l : List α) : Prop := l.length ≤ maxLen ∧ ∀ a ∈ l, ok a
def OkPair {α β : Type} (p : α → Prop) (q : β → Prop) (x : α × β) : Prop := p x.1 ∧ q x.2

section
variable {P : Program} {t e : TypeId}
theorem opens_int {k : IntKind} (ht : P.underlying t = some (.int k)) : Opens P (Kd.int k) (OkInt k) t := by
  intro H enc W base spare held fuel cs x h
  obtain ⟨n, rfl, _, hw⟩ := DataW.trod_int ht h
  exact ⟨n, rfl, hw⟩
theorem opens_string (ht : P.underlying t = some .string) : Opens P Kd.string OkStr t := by
  intro H enc W base spare held fuel cs x h
  obtain ⟨s, rfl, _, hs⟩ := DataW.trod_string ht h
  exact ⟨s, rfl, hs⟩
theorem addr_add (a : Addr) (x i : Nat) : a.add (x + i) = (a.add x).add i := by
  unfold Addr.add
  by_cases h1 : x = 0 <;> by_cases h2 : i = 0 <;> simp [h1, h2, Nat.add_assoc]
theorem opens_slice {α : Type} {kd : Kd α} {ok : α → Prop} (ht : P.underlying t = some (.slice e)) (hc : P.cellsOf e = kd.sz) (he : Opens P kd ok e) : Opens P (Kd.slice e kd) (OkList ok) t := by
  intro H enc W base spare held fuel cs x h
  rcases DataW.trod_slice ht h with ⟨rfl, _⟩ | ⟨a, len, cap, elems, rest, n, _, rfl, _, hb, hl, hm, hlen, hel, _, _⟩
  · exact ⟨[], ⟨none, 0, rfl, Nat.le_refl _, rfl, by simp, fun h0 => absurd h0 (Nat.lt_irrefl 0)⟩, by simp [maxLen], by simp⟩
  · have each : ∀ i, i < len → ∃ (y : α) (c : List Value), c.length = kd.sz ∧ kd.K W y c ∧ ok y ∧ ∀ j u, c[j]? = some u → W.cell? ((a.add (i * kd.sz)).add j) = some u := by
      intro i hi
      have h1 := hel i hi
      rw [hc, List.getElem?_eq_getElem (by omega), Option.bind_eq_some_iff] at h1
      obtain ⟨c, hcs, hy⟩ := h1
      obtain ⟨y, hK, hok⟩ := he enc W base spare held n c _ hy
      obtain ⟨_, hcl, hcell⟩ := World.cells?_some hcs
      refine ⟨y, c, kd.K_len hK, hK, hok, fun j u hj => ?_⟩
      have hjl : j < kd.sz := by have := (List.getElem?_eq_some_iff.1 hj).1; rw [kd.K_len hK] at this; exact this
      rw [hcell j hjl, hj]
    have pick : ∃ l : List α, l.length = len ∧ ∀ i y, l[i]? = some y → ∃ c : List Value, c.length = kd.sz ∧ kd.K W y c ∧ ok y ∧ ∀ j u, c[j]? = some u → W.cell? ((a.add (i * kd.sz)).add j) = some u := by
      have key : ∀ m, m ≤ len → ∃ l : List α, l.length = m ∧ ∀ i y, l[i]? = some y → ∃ c : List Value, c.length = kd.sz ∧ kd.K W y c ∧ ok y ∧ ∀ j u, c[j]? = some u → W.cell? ((a.add (i * kd.sz)).add j) = some u := by
        intro m
        induction m with
        | zero => intro _; exact ⟨[], rfl, fun i y h => by simp at h⟩
        | succ m ih =>
          intro hm
          obtain ⟨l, hl1, hl2⟩ := ih (by omega)
          obtain ⟨y, c, h1, h2, h3, h4⟩ := each m (by omega)
          refine ⟨l ++ [y], by simp [hl1], fun i z hz => ?_⟩
          rcases Nat.lt_or_ge i l.length with hi | hi
          · rw [List.getElem?_append_left hi] at hz
            exact hl2 i z hz
          · have : i = l.length := by
              have := (List.getElem?_eq_some_iff.1 hz).1
              rw [List.length_append, List.length_singleton] at this
              omega
            subst this
            have hz' : y = z := by simpa using hz
            subst hz'
            exact ⟨c, h1, h2, h3, by rw [hl1]; exact h4⟩
      exact key len (Nat.le_refl _)
    obtain ⟨l, hl1, hl2⟩ := pick
    subst hl1
    refine ⟨l, ⟨some a, cap, rfl, hl, rfl, by unfold maxLen at hm; omega, fun _ => ⟨a, rfl, fun j p hj => ?_⟩⟩, by omega, fun y hy => ?_⟩
    · obtain ⟨c, h1, h2, _, h4⟩ := hl2 j p hj
      refine ⟨c, h1, h2, fun i u hu => ?_⟩
      rw [← h4 i u hu, addr_add]
    · obtain ⟨i, hi⟩ := List.getElem?_of_mem hy
      obtain ⟨_, _, _, h3, _⟩ := hl2 i y hi
      exact h3

/-- The same of fields in line, from one place of the cells on. -/
def OpensF (P : Program) {α : Type} (kd : Kd α) (ok : α → Prop) (fs : List Field) (off len : Nat) : Prop :=
  ∀ {H : Type} (enc : TypeId × Value → H) (W : World) (base : Nat) (spare : Nat → Bool) (held : Bool) (n : Nat) (cs : List Value),
    (∀ f ∈ fs, ∃ y, DataW.trod enc P W base spare held n f.type ((cs.drop f.offset).take (P.cellsOf f.type)) = some y) → off + len ≤ cs.length → ∃ a, kd.K W a ((cs.drop off).take len) ∧ ok a
theorem opensF_one {α : Type} {kd : Kd α} {ok : α → Prop} {f : Field} {t off len : Nat} (h : Opens P kd ok t) (ht : f.type = t) (ho : f.offset = off) (hl : P.cellsOf t = len) : OpensF P kd ok [f] off len := by
  intro H enc W base spare held n cs hf _
  obtain ⟨y, hy⟩ := hf f List.mem_cons_self
  subst ht ho hl
  exact h enc W base spare held n _ y hy
theorem opensF_pair {α β : Type} {kd : Kd α} {kd' : Kd β} {ok : α → Prop} {ok' : β → Prop} {f : Field} {fs : List Field} {t off len len' : Nat} (h : Opens P kd ok t) (ht : f.type = t) (ho : f.offset = off) (hl : P.cellsOf t = len)
    (h' : OpensF P kd' ok' fs (off + len) len') : OpensF P (Kd.pair kd kd') (OkPair ok ok') (f :: fs) off (len + len') := by
  intro H enc W base spare held n cs hf hle
  obtain ⟨y, hy⟩ := hf f List.mem_cons_self
  subst ht ho hl
  obtain ⟨a, ha, hoka⟩ := h enc W base spare held n _ y hy
  obtain ⟨b, hb, hokb⟩ := h' enc W base spare held n cs (fun g hg => hf g (List.mem_cons_of_mem _ hg)) (by omega)
  refine ⟨(a, b), ⟨_, _, ?_, ha, hb⟩, hoka, hokb⟩
  rw [List.take_add, List.drop_drop]
theorem opens_struct {α β : Type} {kd : Kd α} {ok : α → Prop} {fs : Array Field} {len : Nat} (ht : P.underlying t = some (.struct fs)) (hc : P.cellsOf t = len) (h : OpensF P kd ok fs.toList 0 len) (f : β → α) (g : α → β) (hg : ∀ a, f (g a) = a) :
    Opens P (Kd.iso kd f) (fun b => ok (f b)) t := by
  intro H enc W base spare held fuel cs x hx
  obtain ⟨xs, n, _, _, hl, hlen, hf⟩ := DataW.trod_struct ht hx
  obtain ⟨a, ha, hok⟩ := h enc W base spare held n cs (fun fd hfd => by
    obtain ⟨i, hi⟩ := List.getElem?_of_mem hfd
    have h1 := hf i fd (by simpa using hi)
    have hi2 : i < xs.length := by
      have := (List.getElem?_eq_some_iff.1 hi).1
      rw [hlen]; simpa using this
    rw [List.getElem?_eq_getElem hi2] at h1
    exact ⟨_, h1⟩) (by omega)
  refine ⟨g a, ?_, by show ok (f (g a)); rw [hg]; exact hok⟩
  show kd.K W (f (g a)) cs
  rw [hg]
  have : (cs.drop 0).take len = cs := by rw [List.drop_zero]; exact List.take_of_length_le (by omega)
  rw [this] at ha
  exact ha
theorem opens_struct_id {α : Type} {kd : Kd α} {ok : α → Prop} {fs : Array Field} {len : Nat} (ht : P.underlying t = some (.struct fs)) (hc : P.cellsOf t = len) (h : OpensF P kd ok fs.toList 0 len) : Opens P kd ok t :=
  opens_struct ht hc h id id (fun _ => rfl)

/-! ### a parameter, opened -/
variable {H : Type} {enc : TypeId × Value → H} {W : World} {base : Nat} {spare : Nat → Bool} {held : Bool} {r : Reach} {b0 : Nat} {v : Value} {d : DataW H} {ps : List MemPlace}
theorem param_slice {α : Type} {kd : Kd α} {ok : List α → Prop} (ht : P.underlying t = some (.slice e)) (h : Opens P (Kd.slice e kd) ok t) (hval : Value.okWide P W r b0 t v) (hd : DataW.Trod enc P W base spare held t v d ps) :
    ∃ A c l, v = .slice A l.length c ∧ l.length ≤ c ∧ Kd.C kd W A l.length l ∧ ok l := by
  obtain ⟨a, len, cap, rfl⟩ := okWide_slice ht hval
  obtain ⟨fuel, hf⟩ := hd
  obtain ⟨l, ⟨A, c, hcs, hl, hC⟩, hok⟩ := h enc W base spare held fuel _ _ hf
  have : Value.slice a len cap = Value.slice A l.length c := by simpa [Value.cells] using hcs
  exact ⟨A, c, l, this, hl, hC, hok⟩
theorem param_struct {α : Type} {kd : Kd α} {ok : α → Prop} {fs : Array Field} (ht : P.underlying t = some (.struct fs)) (h : Opens P kd ok t) (hval : Value.okWide P W r b0 t v) (hd : DataW.Trod enc P W base spare held t v d ps) :
    ∃ cs a, v = .agg cs ∧ kd.K W a cs.toList ∧ ok a := by
  obtain ⟨cs, rfl, hsz⟩ := okWide_struct ht hval
  obtain ⟨fuel, hf⟩ := hd
  obtain ⟨a, hK, hok⟩ := h enc W base spare held fuel _ _ hf
  exact ⟨cs, a, rfl, hK, hok⟩
theorem agg_eq {cs : Array Value} {l : List Value} (h : cs.toList = l) : cs = l.toArray := by rw [← h]
end
end Go.Proofs.Ytoibofhmlokglaa.Opens
