/-
  Texts that the claims of this chapter share, joined.
-/
import Derived.Test.YtoibofhmlokglaaPx0
import Derived.Test.YtoibofhmlokglaaC07b
import Derived.Test.YtoibofhmlokglaaC07c
import Derived.Test.YtoibofhmlokglaaC07a
import Derived.Test.YtoibofhmlokglaaWMore
import Derived.Test.YtoibofhmlokglaaWNEv
import Derived.WalkKit
import Derived.ProofKit
import Derived.OpenShut
import Derived.ShutString
import Derived.ChangeOld
import Derived.Below
import Derived.SizedLaws
import Derived.ChangeArms
import Derived.Test.YtoibofhmlokglaaWWords
set_option linter.unusedVariables false
set_option linter.unusedSimpArgs false
-- Written by a program of this session (xprint.py) over the kit's print.py.
namespace Go.Proofs.Ytoibofhmlokglaa.P
open Go.RowKit Go.Proofs.YtoibofhmlokglaaW.PrintWords Go.Proofs.YtoibofhmlokglaaW.PrintLast Go.Proofs.YtoibofhmlokglaaW.PrintMore
attribute [local go_sem] max2_int min2_int max_two min_two max_three min_three max_four min_four   -- for this text's walks alone
set_option linter.unusedVariables false
set_option linter.unusedSimpArgs false

/-! ### wal_Room: function 35 -/
def wal_Room.f (l0_0 : List ByteArray) (l0_1 : List (S40)) (a1 : Int) (a2 : Int) : Option (Int × Int) := (wal_Open.f l0_0 l0_1 a1 a2).bind fun bt514 => (if bt514.2 = 0 then (some (wrap64 ((wrap64 ((l0_0.length : Int) - a1)) - (bt514.1.length : Int)), 0)) else (some (0, bt514.2)))
set_option maxHeartbeats 8000000 in
set_option maxRecDepth 100000 in
theorem wal_Room.calls (A0_0 : Option Addr) (c0_0 : Nat) (l0_0 : List ByteArray) (A0_1 : Option Addr) (c0_1 : Nat) (l0_1 : List (S40)) (a1 : Int) (a2 : Int) (r1 : Int) (r2 : Int) (w : World) (hr0_0 : Kd.C Kd.string w A0_0 l0_0.length l0_0) (hc0_0 : l0_0.length ≤ c0_0) (hr0_1 : Kd.C k40 w A0_1 l0_1.length l0_1) (hc0_1 : l0_1.length ≤ c0_1) (h : wal_Room.f l0_0 l0_1 a1 a2 = some (r1, r2)) :
    Calls Try.prog 35 #[.agg #[.slice A0_0 l0_0.length c0_0, .slice A0_1 l0_1.length c0_1], .int .i64 a1, .int .i64 a2] w fun e w' => e = .returned (.tuple #[.int .i64 r1, .int .i64 r2]) ∧ Below w.heap.size w w' := by
  have hu25 := Try.underlying25
  have HR0_0 := Aside0.mk hr0_0
  have HC0_0 := Aside0.mk hc0_0
  clear hr0_0 hc0_0
  have HR0_1 := Aside0.mk hr0_1
  have HC0_1 := Aside0.mk hc0_1
  clear hr0_1 hc0_1
  have HB := Aside0.mk (Below.refl w.heap.size w)
  have H : ((wal_Open.f l0_0 l0_1 a1 a2).bind fun bt514 => (if bt514.2 = 0 then (some (wrap64 ((wrap64 ((l0_0.length : Int) - a1)) - (bt514.1.length : Int)), 0)) else (some (0, bt514.2)))) = some (r1, r2) := h
  clear h
  replace H := Option.bind_eq_some_iff.mp H
  obtain ⟨⟨t514, t517⟩, A40, H⟩ := H
  replace H : (if t517 = 0 then (some (wrap64 ((wrap64 ((l0_0.length : Int) - a1)) - (t514.length : Int)), 0)) else (some (0, t517))) = some (r1, r2) := H
  have A4 := Aside0.mk A40
  clear A40
  by_cases c5 : t517 = 0
  · rw [if_pos c5] at H
    have c5b0 : (t517 == 0) = true := beq_iff_eq.mpr c5
    have c5b1 : (t517 != 0) = false := bne_eq_false_iff_eq.mpr c5
    clear c5
    simp only [Option.some.injEq, Prod.mk.injEq] at H
    obtain ⟨rfl, rfl⟩ := H
    go_enter Try.func35, Try.ntmps35
    go_wp2_with (first | ((with_reducible refine gate_dst (N := 3) rfl ?_); refine box_event ?hg (N := 3) ?hd (cs := #[.slice A0_0 l0_0.length c0_0, .slice A0_1 l0_1.length c0_1]) (t := 25) ?hr ?_; (case hd => rfl); (case hg => rfl); (case hr => first | (go_simp; done) | (go_simp; rfl)); intro gb513 hg w6 hbox hb; have n0_ := Aside0.mk (below_step (by repeat (first | (with_reducible first | exact HB.out | apply below_alloc | apply pw_below_drewN | apply below_drew1) | exact HB.out)) hb); have n1_ := Aside0.mk (hbox); have n2_ := Aside0.mk ((by rw [hg]; exact (below_size (by repeat (first | (with_reducible first | exact HB.out | apply below_alloc | apply pw_below_drewN | apply below_drew1) | exact HB.out))) : w.heap.size ≤ gb513)); have n3_ := Aside0.mk ((by rw [hg]; exact (below_size (by repeat (first | (with_reducible first | exact HB.out | apply below_alloc | apply pw_below_drewN | apply below_drew1) | exact HB.out))) : w.heap.size ≤ gb513)); clear HB; have HB := n0_; have BK513 := n1_; have GW513 := n2_; have GE513 := n3_; clear n0_ n1_ n2_ n3_; clear hb hbox hg; have hcz7_0 : w6.cell? ⟨gb513, 0, none⟩ = some (.slice A0_0 l0_0.length c0_0) := (blk_cell BK513.out 0).trans rfl; have hcz7_1 : w6.cell? ⟨gb513, 1, none⟩ = some (.slice A0_1 l0_1.length c0_1) := (blk_cell BK513.out 1).trans rfl; have hfz7_0 := blk_frozen BK513.out 0; have hfz7_1 := blk_frozen BK513.out 1) | ((with_reducible refine gate_callee (f := 29) rfl ?_); refine goesL_ (some 14) rfl rfl Try.func29 (by kernel_rfl) rfl #[.agg #[.slice A0_0 l0_0.length c0_0, .slice A0_1 l0_1.length c0_1], .int .i64 a1, .int .i64 a2] rfl (by (try simp only [List.map_toArray, List.map_cons, List.map_nil]); first | done | rfl | (simp only [List.length_drop, List.length_take]; rfl)) ?_; (with_reducible refine (wal_Open.calls _ _ l0_0 _ _ l0_1 a1 a2 t514 t517 _ ?side1 ?side2 ?side3 ?side4 A4.out).mono ?_); (case side1 => repeat (first | exact (Kd.C_below HR0_0.out HB.out) | (with_reducible refine Kd.C_alloc ?_ _) | (with_reducible refine Kd.C_drewN ?_ _) | (with_reducible refine Kd.C_drew ?_))); (case side2 => exact HC0_0.out); (case side3 => repeat (first | exact (Kd.C_below HR0_1.out HB.out) | (with_reducible refine Kd.C_alloc ?_ _) | (with_reducible refine Kd.C_drewN ?_ _) | (with_reducible refine Kd.C_drew ?_))); (case side4 => exact HC0_1.out); rintro e w8 ⟨v515, rfl, ho0, hb⟩; refine ⟨_, rfl, ?_⟩; have n0_ := Aside0.mk (Kd.R_lower ho0 (below_size (by repeat (first | (with_reducible first | exact HB.out | apply below_alloc | apply pw_below_drewN | apply below_drew1 | refine below_set ?_ GE513.out) | exact HB.out)))); have n1_ := Aside0.mk (blk_below (g := gb513) (o := .cells #[.slice A0_0 l0_0.length c0_0, .slice A0_1 l0_1.length c0_1] 25 (0, 0)) (by (with_reducible repeat (first | refine blk_drewN ?_ _ | refine blk_drew ?_ | refine blk_alloc ?_ _)); exact BK513.out) hb); have n2_ := Aside0.mk (below_step (by repeat (first | (with_reducible first | exact HB.out | apply below_alloc | apply pw_below_drewN | apply below_drew1 | refine below_set ?_ GE513.out) | exact HB.out)) hb); clear BK513; clear HB; have HO516 := n0_; have BK513 := n1_; have HB := n2_; clear n0_ n1_ n2_; (try clear hb); (try clear hb2); (try clear hk); (try clear hi); (try clear ho0); have hcz9_0 : w8.cell? ⟨gb513, 0, none⟩ = some (.slice A0_0 l0_0.length c0_0) := (blk_cell BK513.out 0).trans rfl; have hcz9_1 : w8.cell? ⟨gb513, 1, none⟩ = some (.slice A0_1 l0_1.length c0_1) := (blk_cell BK513.out 1).trans rfl; have hfz9_0 := blk_frozen BK513.out 0; have hfz9_1 := blk_frozen BK513.out 1; obtain ⟨Ao10, co10, eo10⟩ := Kd.R_slice HO516.out; subst eo10))
    go_ret2
    exact ⟨by first | rfl | (simp [errW_none, errW_some] <;> rfl) | (simp [*, errW_none, errW_some] <;> rfl), by repeat (first | (with_reducible first | exact HB.out | apply below_alloc | apply pw_below_drewN | apply below_drew1 | refine below_set ?_ GE513.out) | exact HB.out)⟩
  · rw [if_neg c5] at H
    have c5b0 : (t517 == 0) = false := beq_eq_false_iff_ne.mpr c5
    have c5b1 : (t517 != 0) = true := bne_iff_ne.mpr c5
    simp only [Option.some.injEq, Prod.mk.injEq] at H
    obtain ⟨rfl, rfl⟩ := H
    go_enter Try.func35, Try.ntmps35
    go_wp2_with (first | ((with_reducible refine gate_dst (N := 3) rfl ?_); refine box_event ?hg (N := 3) ?hd (cs := #[.slice A0_0 l0_0.length c0_0, .slice A0_1 l0_1.length c0_1]) (t := 25) ?hr ?_; (case hd => rfl); (case hg => rfl); (case hr => first | (go_simp; done) | (go_simp; rfl)); intro gb513 hg w11 hbox hb; have n0_ := Aside0.mk (below_step (by repeat (first | (with_reducible first | exact HB.out | apply below_alloc | apply pw_below_drewN | apply below_drew1) | exact HB.out)) hb); have n1_ := Aside0.mk (hbox); have n2_ := Aside0.mk ((by rw [hg]; exact (below_size (by repeat (first | (with_reducible first | exact HB.out | apply below_alloc | apply pw_below_drewN | apply below_drew1) | exact HB.out))) : w.heap.size ≤ gb513)); have n3_ := Aside0.mk ((by rw [hg]; exact (below_size (by repeat (first | (with_reducible first | exact HB.out | apply below_alloc | apply pw_below_drewN | apply below_drew1) | exact HB.out))) : w.heap.size ≤ gb513)); clear HB; have HB := n0_; have BK513 := n1_; have GW513 := n2_; have GE513 := n3_; clear n0_ n1_ n2_ n3_; clear hb hbox hg; have hcz12_0 : w11.cell? ⟨gb513, 0, none⟩ = some (.slice A0_0 l0_0.length c0_0) := (blk_cell BK513.out 0).trans rfl; have hcz12_1 : w11.cell? ⟨gb513, 1, none⟩ = some (.slice A0_1 l0_1.length c0_1) := (blk_cell BK513.out 1).trans rfl; have hfz12_0 := blk_frozen BK513.out 0; have hfz12_1 := blk_frozen BK513.out 1) | ((with_reducible refine gate_callee (f := 29) rfl ?_); refine goesL_ (some 14) rfl rfl Try.func29 (by kernel_rfl) rfl #[.agg #[.slice A0_0 l0_0.length c0_0, .slice A0_1 l0_1.length c0_1], .int .i64 a1, .int .i64 a2] rfl (by (try simp only [List.map_toArray, List.map_cons, List.map_nil]); first | done | rfl | (simp only [List.length_drop, List.length_take]; rfl)) ?_; (with_reducible refine (wal_Open.calls _ _ l0_0 _ _ l0_1 a1 a2 t514 t517 _ ?side1 ?side2 ?side3 ?side4 A4.out).mono ?_); (case side1 => repeat (first | exact (Kd.C_below HR0_0.out HB.out) | (with_reducible refine Kd.C_alloc ?_ _) | (with_reducible refine Kd.C_drewN ?_ _) | (with_reducible refine Kd.C_drew ?_))); (case side2 => exact HC0_0.out); (case side3 => repeat (first | exact (Kd.C_below HR0_1.out HB.out) | (with_reducible refine Kd.C_alloc ?_ _) | (with_reducible refine Kd.C_drewN ?_ _) | (with_reducible refine Kd.C_drew ?_))); (case side4 => exact HC0_1.out); rintro e w13 ⟨v515, rfl, ho0, hb⟩; refine ⟨_, rfl, ?_⟩; have n0_ := Aside0.mk (Kd.R_lower ho0 (below_size (by repeat (first | (with_reducible first | exact HB.out | apply below_alloc | apply pw_below_drewN | apply below_drew1 | refine below_set ?_ GE513.out) | exact HB.out)))); have n1_ := Aside0.mk (blk_below (g := gb513) (o := .cells #[.slice A0_0 l0_0.length c0_0, .slice A0_1 l0_1.length c0_1] 25 (0, 0)) (by (with_reducible repeat (first | refine blk_drewN ?_ _ | refine blk_drew ?_ | refine blk_alloc ?_ _)); exact BK513.out) hb); have n2_ := Aside0.mk (below_step (by repeat (first | (with_reducible first | exact HB.out | apply below_alloc | apply pw_below_drewN | apply below_drew1 | refine below_set ?_ GE513.out) | exact HB.out)) hb); clear BK513; clear HB; have HO516 := n0_; have BK513 := n1_; have HB := n2_; clear n0_ n1_ n2_; (try clear hb); (try clear hb2); (try clear hk); (try clear hi); (try clear ho0)))
    go_ret2
    exact ⟨by first | rfl | (simp [errW_none, errW_some] <;> rfl) | (simp [*, errW_none, errW_some] <;> rfl), by repeat (first | (with_reducible first | exact HB.out | apply below_alloc | apply pw_below_drewN | apply below_drew1 | refine below_set ?_ GE513.out) | exact HB.out)⟩

end Go.Proofs.Ytoibofhmlokglaa.P
/-
  sexton/sextonlaw07.logged answers true. The print's walk, with the branches that would answer false closed.
-/
-- Written by a program of this session (xprint.py) over the kit's print.py.
namespace Go.Proofs.Ytoibofhmlokglaa.P
open Go.RowKit Go.Proofs.YtoibofhmlokglaaW.PrintWords Go.Proofs.YtoibofhmlokglaaW.PrintLast Go.Proofs.YtoibofhmlokglaaW.PrintMore
attribute [local go_sem] max2_int min2_int max_two min_two max_three min_three max_four min_four   -- for this text's walks alone
set_option linter.unusedVariables false
set_option linter.unusedSimpArgs false

/-! ### sextonlaw07_loggedP: function 37 -/
def sextonlaw07_loggedP.f (k : Nat)  : Option (Bool) := (disk_New.f 5).bind fun bt136 => ((wal_Append.f bt136.1 bt136.2.1 2 1 (⟨#[97]⟩ : ByteArray)).bind fun bt144 => ((wal_Append.f bt144.1 bt144.2.1 2 1 (⟨#[98]⟩ : ByteArray)).bind fun bt152 => ((wal_Open.f bt152.1 bt152.2.1 2 1).bind fun bt160 => ((wal_Open.f bt152.1 bt152.2.1 2 2).bind fun bt164 => ((disk_Crash.f bt152.1 bt152.2.1 (([false, true] : List Bool))).bind fun bt171 => ((wal_Open.f bt171.1 bt171.2.1 2 1).bind fun bt179 => ((wal_Room.f bt152.1 bt152.2.1 2 1).bind fun bt183 => ((wal_Open.f bt152.1 bt152.2.1 5 1).bind fun bt185 => (if bt136.2.2 = 0 then (if bt144.2.2 = bt136.2.2 then (if bt152.2.2 = bt136.2.2 then (if bt160.2 = bt136.2.2 then ((sextonref01_Texts.f k bt160.1 (([(⟨#[97]⟩ : ByteArray), (⟨#[98]⟩ : ByteArray)] : List ByteArray))).bind fun t192 => (if t192 = true then (if bt164.2 = bt136.2.2 then (if (bt164.1.length : Int) = 0 then (if bt171.2.2 = bt136.2.2 then (if bt179.2 = bt136.2.2 then (if (bt179.1.length : Int) = 0 then (if bt183.2 = bt136.2.2 then (if bt183.1 = 1 then (some (bt185.2 == 40)) else (some false)) else (some false)) else (some false)) else (some false)) else (some false)) else (some false)) else (some false)) else (some false))) else (some false)) else (some false)) else (some false)) else (some false))))))))))
theorem sextonlaw07_loggedP.mono : ∀ k, LeO (sextonlaw07_loggedP.f k ) (sextonlaw07_loggedP.f (k + 1) ) := by
  intro  k
  unfold sextonlaw07_loggedP.f
  repeat' first
      | (with_reducible exact sextonref01_Texts.mono _ _ _)
      | (with_reducible exact LeO.refl _)
      | (with_reducible exact LeO.none _)
      | (with_reducible refine LeO.ite ?_ ?_)
      | (with_reducible refine LeO.bind ?_ (fun _ => ?_))
      | exact sextonref01_Texts.mono _ _ _
      | exact LeO.none _
      | refine LeO.ite ?_ ?_
      | refine LeO.bind ?_ (fun _ => ?_)
theorem lit_S (xs : List ByteArray) (W : World) (e : TypeId) {g : Nat} (hg : g = W.heap.size) (hm : xs.length ≤ 9223372036854775807) : Kd.C Kd.string (W.alloc (.cells (xs.map Value.string).toArray e)) (some ⟨g, 0, none⟩) xs.length xs := by
  subst hg
  have ho := World.ownsRow_lit (base := 0) (e := e) (size := 1) W (xs.map Value.string).toArray xs.length (Nat.zero_le _) (by simpa [maxLen] using hm) (by simp)
  simp only [List.toList_toArray] at ho
  exact (Kd.R_reads' (Kd.R_of_own (ok := fun _ => True) ho (fun _ _ => trivial))).2.2
set_option maxHeartbeats 8000000 in
set_option maxRecDepth 100000 in
theorem sextonlaw07_loggedP.calls (k : Nat)  (r : Bool) (hrt : r = true := by rfl) (w : World) (h : sextonlaw07_loggedP.f k  = some r) :
    Calls Try.prog 37 #[] w fun e w' => e = .returned (.bool r) ∧ Below w.heap.size w w' := by
  have HRT := Aside0.mk hrt
  have hu25 := Try.underlying25
  have HB := Aside0.mk (Below.refl w.heap.size w)
  have H : ((disk_New.f 5).bind fun bt136 => ((wal_Append.f bt136.1 bt136.2.1 2 1 (⟨#[97]⟩ : ByteArray)).bind fun bt144 => ((wal_Append.f bt144.1 bt144.2.1 2 1 (⟨#[98]⟩ : ByteArray)).bind fun bt152 => ((wal_Open.f bt152.1 bt152.2.1 2 1).bind fun bt160 => ((wal_Open.f bt152.1 bt152.2.1 2 2).bind fun bt164 => ((disk_Crash.f bt152.1 bt152.2.1 (([false, true] : List Bool))).bind fun bt171 => ((wal_Open.f bt171.1 bt171.2.1 2 1).bind fun bt179 => ((wal_Room.f bt152.1 bt152.2.1 2 1).bind fun bt183 => ((wal_Open.f bt152.1 bt152.2.1 5 1).bind fun bt185 => (if bt136.2.2 = 0 then (if bt144.2.2 = bt136.2.2 then (if bt152.2.2 = bt136.2.2 then (if bt160.2 = bt136.2.2 then ((sextonref01_Texts.f k bt160.1 (([(⟨#[97]⟩ : ByteArray), (⟨#[98]⟩ : ByteArray)] : List ByteArray))).bind fun t192 => (if t192 = true then (if bt164.2 = bt136.2.2 then (if (bt164.1.length : Int) = 0 then (if bt171.2.2 = bt136.2.2 then (if bt179.2 = bt136.2.2 then (if (bt179.1.length : Int) = 0 then (if bt183.2 = bt136.2.2 then (if bt183.1 = 1 then (some (bt185.2 == 40)) else (some false)) else (some false)) else (some false)) else (some false)) else (some false)) else (some false)) else (some false)) else (some false))) else (some false)) else (some false)) else (some false)) else (some false))))))))))) = some r := h
  clear h
  replace H := Option.bind_eq_some_iff.mp H
  obtain ⟨⟨t136, t139, t142⟩, A10, H⟩ := H
  replace H : ((wal_Append.f t136 t139 2 1 (⟨#[97]⟩ : ByteArray)).bind fun bt144 => ((wal_Append.f bt144.1 bt144.2.1 2 1 (⟨#[98]⟩ : ByteArray)).bind fun bt152 => ((wal_Open.f bt152.1 bt152.2.1 2 1).bind fun bt160 => ((wal_Open.f bt152.1 bt152.2.1 2 2).bind fun bt164 => ((disk_Crash.f bt152.1 bt152.2.1 (([false, true] : List Bool))).bind fun bt171 => ((wal_Open.f bt171.1 bt171.2.1 2 1).bind fun bt179 => ((wal_Room.f bt152.1 bt152.2.1 2 1).bind fun bt183 => ((wal_Open.f bt152.1 bt152.2.1 5 1).bind fun bt185 => (if t142 = 0 then (if bt144.2.2 = t142 then (if bt152.2.2 = t142 then (if bt160.2 = t142 then ((sextonref01_Texts.f k bt160.1 (([(⟨#[97]⟩ : ByteArray), (⟨#[98]⟩ : ByteArray)] : List ByteArray))).bind fun t192 => (if t192 = true then (if bt164.2 = t142 then (if (bt164.1.length : Int) = 0 then (if bt171.2.2 = t142 then (if bt179.2 = t142 then (if (bt179.1.length : Int) = 0 then (if bt183.2 = t142 then (if bt183.1 = 1 then (some (bt185.2 == 40)) else (some false)) else (some false)) else (some false)) else (some false)) else (some false)) else (some false)) else (some false)) else (some false))) else (some false)) else (some false)) else (some false)) else (some false)))))))))) = some r := H
  have A1 := Aside0.mk A10
  clear A10
  replace H := Option.bind_eq_some_iff.mp H
  obtain ⟨⟨t144, t147, t150⟩, A20, H⟩ := H
  replace H : ((wal_Append.f t144 t147 2 1 (⟨#[98]⟩ : ByteArray)).bind fun bt152 => ((wal_Open.f bt152.1 bt152.2.1 2 1).bind fun bt160 => ((wal_Open.f bt152.1 bt152.2.1 2 2).bind fun bt164 => ((disk_Crash.f bt152.1 bt152.2.1 (([false, true] : List Bool))).bind fun bt171 => ((wal_Open.f bt171.1 bt171.2.1 2 1).bind fun bt179 => ((wal_Room.f bt152.1 bt152.2.1 2 1).bind fun bt183 => ((wal_Open.f bt152.1 bt152.2.1 5 1).bind fun bt185 => (if t142 = 0 then (if t150 = t142 then (if bt152.2.2 = t142 then (if bt160.2 = t142 then ((sextonref01_Texts.f k bt160.1 (([(⟨#[97]⟩ : ByteArray), (⟨#[98]⟩ : ByteArray)] : List ByteArray))).bind fun t192 => (if t192 = true then (if bt164.2 = t142 then (if (bt164.1.length : Int) = 0 then (if bt171.2.2 = t142 then (if bt179.2 = t142 then (if (bt179.1.length : Int) = 0 then (if bt183.2 = t142 then (if bt183.1 = 1 then (some (bt185.2 == 40)) else (some false)) else (some false)) else (some false)) else (some false)) else (some false)) else (some false)) else (some false)) else (some false))) else (some false)) else (some false)) else (some false)) else (some false))))))))) = some r := H
  have A2 := Aside0.mk A20
  clear A20
  replace H := Option.bind_eq_some_iff.mp H
  obtain ⟨⟨t152, t155, t158⟩, A30, H⟩ := H
  replace H : ((wal_Open.f t152 t155 2 1).bind fun bt160 => ((wal_Open.f t152 t155 2 2).bind fun bt164 => ((disk_Crash.f t152 t155 (([false, true] : List Bool))).bind fun bt171 => ((wal_Open.f bt171.1 bt171.2.1 2 1).bind fun bt179 => ((wal_Room.f t152 t155 2 1).bind fun bt183 => ((wal_Open.f t152 t155 5 1).bind fun bt185 => (if t142 = 0 then (if t150 = t142 then (if t158 = t142 then (if bt160.2 = t142 then ((sextonref01_Texts.f k bt160.1 (([(⟨#[97]⟩ : ByteArray), (⟨#[98]⟩ : ByteArray)] : List ByteArray))).bind fun t192 => (if t192 = true then (if bt164.2 = t142 then (if (bt164.1.length : Int) = 0 then (if bt171.2.2 = t142 then (if bt179.2 = t142 then (if (bt179.1.length : Int) = 0 then (if bt183.2 = t142 then (if bt183.1 = 1 then (some (bt185.2 == 40)) else (some false)) else (some false)) else (some false)) else (some false)) else (some false)) else (some false)) else (some false)) else (some false))) else (some false)) else (some false)) else (some false)) else (some false)))))))) = some r := H
  have A3 := Aside0.mk A30
  clear A30
  replace H := Option.bind_eq_some_iff.mp H
  obtain ⟨⟨t160, t163⟩, A40, H⟩ := H
  replace H : ((wal_Open.f t152 t155 2 2).bind fun bt164 => ((disk_Crash.f t152 t155 (([false, true] : List Bool))).bind fun bt171 => ((wal_Open.f bt171.1 bt171.2.1 2 1).bind fun bt179 => ((wal_Room.f t152 t155 2 1).bind fun bt183 => ((wal_Open.f t152 t155 5 1).bind fun bt185 => (if t142 = 0 then (if t150 = t142 then (if t158 = t142 then (if t163 = t142 then ((sextonref01_Texts.f k t160 (([(⟨#[97]⟩ : ByteArray), (⟨#[98]⟩ : ByteArray)] : List ByteArray))).bind fun t192 => (if t192 = true then (if bt164.2 = t142 then (if (bt164.1.length : Int) = 0 then (if bt171.2.2 = t142 then (if bt179.2 = t142 then (if (bt179.1.length : Int) = 0 then (if bt183.2 = t142 then (if bt183.1 = 1 then (some (bt185.2 == 40)) else (some false)) else (some false)) else (some false)) else (some false)) else (some false)) else (some false)) else (some false)) else (some false))) else (some false)) else (some false)) else (some false)) else (some false))))))) = some r := H
  have A4 := Aside0.mk A40
  clear A40
  replace H := Option.bind_eq_some_iff.mp H
  obtain ⟨⟨t164, t167⟩, A50, H⟩ := H
  replace H : ((disk_Crash.f t152 t155 (([false, true] : List Bool))).bind fun bt171 => ((wal_Open.f bt171.1 bt171.2.1 2 1).bind fun bt179 => ((wal_Room.f t152 t155 2 1).bind fun bt183 => ((wal_Open.f t152 t155 5 1).bind fun bt185 => (if t142 = 0 then (if t150 = t142 then (if t158 = t142 then (if t163 = t142 then ((sextonref01_Texts.f k t160 (([(⟨#[97]⟩ : ByteArray), (⟨#[98]⟩ : ByteArray)] : List ByteArray))).bind fun t192 => (if t192 = true then (if t167 = t142 then (if (t164.length : Int) = 0 then (if bt171.2.2 = t142 then (if bt179.2 = t142 then (if (bt179.1.length : Int) = 0 then (if bt183.2 = t142 then (if bt183.1 = 1 then (some (bt185.2 == 40)) else (some false)) else (some false)) else (some false)) else (some false)) else (some false)) else (some false)) else (some false)) else (some false))) else (some false)) else (some false)) else (some false)) else (some false)))))) = some r := H
  have A5 := Aside0.mk A50
  clear A50
  obtain ⟨y168, hy168⟩ : ∃ y_ : List Bool, y_ = (([false, true] : List Bool)) := ⟨_, rfl⟩
  replace H : ((disk_Crash.f t152 t155 y168).bind fun bt171 => ((wal_Open.f bt171.1 bt171.2.1 2 1).bind fun bt179 => ((wal_Room.f t152 t155 2 1).bind fun bt183 => ((wal_Open.f t152 t155 5 1).bind fun bt185 => (if t142 = 0 then (if t150 = t142 then (if t158 = t142 then (if t163 = t142 then ((sextonref01_Texts.f k t160 (([(⟨#[97]⟩ : ByteArray), (⟨#[98]⟩ : ByteArray)] : List ByteArray))).bind fun t192 => (if t192 = true then (if t167 = t142 then (if (t164.length : Int) = 0 then (if bt171.2.2 = t142 then (if bt179.2 = t142 then (if (bt179.1.length : Int) = 0 then (if bt183.2 = t142 then (if bt183.1 = 1 then (some (bt185.2 == 40)) else (some false)) else (some false)) else (some false)) else (some false)) else (some false)) else (some false)) else (some false)) else (some false))) else (some false)) else (some false)) else (some false)) else (some false)))))) = some r := by first | (rw [hy168]; with_reducible exact H) | (have H2_ := (Option.bind_some _ _).symm.trans H; rw [hy168]; with_reducible exact H2_) | (have H2_ := (Option.bind_some _ _).symm.trans H; with_reducible exact H2_) | with_reducible exact H | (rw [hy168]; exact H) | exact H
  have Ny168 := Aside0.mk hy168
  clear hy168
  replace H := Option.bind_eq_some_iff.mp H
  obtain ⟨⟨t171, t174, t177⟩, A60, H⟩ := H
  replace H : ((wal_Open.f t171 t174 2 1).bind fun bt179 => ((wal_Room.f t152 t155 2 1).bind fun bt183 => ((wal_Open.f t152 t155 5 1).bind fun bt185 => (if t142 = 0 then (if t150 = t142 then (if t158 = t142 then (if t163 = t142 then ((sextonref01_Texts.f k t160 (([(⟨#[97]⟩ : ByteArray), (⟨#[98]⟩ : ByteArray)] : List ByteArray))).bind fun t192 => (if t192 = true then (if t167 = t142 then (if (t164.length : Int) = 0 then (if t177 = t142 then (if bt179.2 = t142 then (if (bt179.1.length : Int) = 0 then (if bt183.2 = t142 then (if bt183.1 = 1 then (some (bt185.2 == 40)) else (some false)) else (some false)) else (some false)) else (some false)) else (some false)) else (some false)) else (some false)) else (some false))) else (some false)) else (some false)) else (some false)) else (some false))))) = some r := H
  have A6 := Aside0.mk A60
  clear A60
  replace H := Option.bind_eq_some_iff.mp H
  obtain ⟨⟨t179, t182⟩, A70, H⟩ := H
  replace H : ((wal_Room.f t152 t155 2 1).bind fun bt183 => ((wal_Open.f t152 t155 5 1).bind fun bt185 => (if t142 = 0 then (if t150 = t142 then (if t158 = t142 then (if t163 = t142 then ((sextonref01_Texts.f k t160 (([(⟨#[97]⟩ : ByteArray), (⟨#[98]⟩ : ByteArray)] : List ByteArray))).bind fun t192 => (if t192 = true then (if t167 = t142 then (if (t164.length : Int) = 0 then (if t177 = t142 then (if t182 = t142 then (if (t179.length : Int) = 0 then (if bt183.2 = t142 then (if bt183.1 = 1 then (some (bt185.2 == 40)) else (some false)) else (some false)) else (some false)) else (some false)) else (some false)) else (some false)) else (some false)) else (some false))) else (some false)) else (some false)) else (some false)) else (some false)))) = some r := H
  have A7 := Aside0.mk A70
  clear A70
  replace H := Option.bind_eq_some_iff.mp H
  obtain ⟨⟨t183, t184⟩, A80, H⟩ := H
  replace H : ((wal_Open.f t152 t155 5 1).bind fun bt185 => (if t142 = 0 then (if t150 = t142 then (if t158 = t142 then (if t163 = t142 then ((sextonref01_Texts.f k t160 (([(⟨#[97]⟩ : ByteArray), (⟨#[98]⟩ : ByteArray)] : List ByteArray))).bind fun t192 => (if t192 = true then (if t167 = t142 then (if (t164.length : Int) = 0 then (if t177 = t142 then (if t182 = t142 then (if (t179.length : Int) = 0 then (if t184 = t142 then (if t183 = 1 then (some (bt185.2 == 40)) else (some false)) else (some false)) else (some false)) else (some false)) else (some false)) else (some false)) else (some false)) else (some false))) else (some false)) else (some false)) else (some false)) else (some false))) = some r := H
  have A8 := Aside0.mk A80
  clear A80
  replace H := Option.bind_eq_some_iff.mp H
  obtain ⟨⟨t185, t188⟩, A90, H⟩ := H
  replace H : (if t142 = 0 then (if t150 = t142 then (if t158 = t142 then (if t163 = t142 then ((sextonref01_Texts.f k t160 (([(⟨#[97]⟩ : ByteArray), (⟨#[98]⟩ : ByteArray)] : List ByteArray))).bind fun t192 => (if t192 = true then (if t167 = t142 then (if (t164.length : Int) = 0 then (if t177 = t142 then (if t182 = t142 then (if (t179.length : Int) = 0 then (if t184 = t142 then (if t183 = 1 then (some (t188 == 40)) else (some false)) else (some false)) else (some false)) else (some false)) else (some false)) else (some false)) else (some false)) else (some false))) else (some false)) else (some false)) else (some false)) else (some false)) = some r := H
  have A9 := Aside0.mk A90
  clear A90
  by_cases c10 : t142 = 0
  · rw [if_pos c10] at H
    have c10b0 : (t142 == 0) = true := beq_iff_eq.mpr c10
    have c10b1 : (t142 != 0) = false := bne_eq_false_iff_eq.mpr c10
    clear c10
    by_cases c11 : t150 = t142
    · rw [if_pos c11] at H
      have c11b0 : (t150 == t142) = true := beq_iff_eq.mpr c11
      have c11b1 : (t150 != t142) = false := bne_eq_false_iff_eq.mpr c11
      clear c11
      by_cases c12 : t158 = t142
      · rw [if_pos c12] at H
        have c12b0 : (t158 == t142) = true := beq_iff_eq.mpr c12
        have c12b1 : (t158 != t142) = false := bne_eq_false_iff_eq.mpr c12
        clear c12
        by_cases c13 : t163 = t142
        · rw [if_pos c13] at H
          have c13b0 : (t163 == t142) = true := beq_iff_eq.mpr c13
          have c13b1 : (t163 != t142) = false := bne_eq_false_iff_eq.mpr c13
          clear c13
          obtain ⟨y189, hy189⟩ : ∃ y_ : List ByteArray, y_ = (([(⟨#[97]⟩ : ByteArray), (⟨#[98]⟩ : ByteArray)] : List ByteArray)) := ⟨_, rfl⟩
          replace H : ((sextonref01_Texts.f k t160 y189).bind fun t192 => (if t192 = true then (if t167 = t142 then (if (t164.length : Int) = 0 then (if t177 = t142 then (if t182 = t142 then (if (t179.length : Int) = 0 then (if t184 = t142 then (if t183 = 1 then (some (t188 == 40)) else (some false)) else (some false)) else (some false)) else (some false)) else (some false)) else (some false)) else (some false)) else (some false))) = some r := by first | (rw [hy189]; with_reducible exact H) | (have H2_ := (Option.bind_some _ _).symm.trans H; rw [hy189]; with_reducible exact H2_) | (have H2_ := (Option.bind_some _ _).symm.trans H; with_reducible exact H2_) | with_reducible exact H | (rw [hy189]; exact H) | exact H
          have Ny189 := Aside0.mk hy189
          clear hy189
          replace H := Option.bind_eq_some_iff.mp H
          obtain ⟨t192, A140, H⟩ := H
          replace H : (if t192 = true then (if t167 = t142 then (if (t164.length : Int) = 0 then (if t177 = t142 then (if t182 = t142 then (if (t179.length : Int) = 0 then (if t184 = t142 then (if t183 = 1 then (some (t188 == 40)) else (some false)) else (some false)) else (some false)) else (some false)) else (some false)) else (some false)) else (some false)) else (some false)) = some r := H
          have A14 := Aside0.mk A140
          clear A140
          by_cases c15 : t192 = true
          · subst c15
            have H1 : (if t167 = t142 then (if (t164.length : Int) = 0 then (if t177 = t142 then (if t182 = t142 then (if (t179.length : Int) = 0 then (if t184 = t142 then (if t183 = 1 then (some (t188 == 40)) else (some false)) else (some false)) else (some false)) else (some false)) else (some false)) else (some false)) else (some false)) = some r := by rw [if_pos rfl] at H; exact H
            clear H
            have H := H1
            clear H1
            by_cases c16 : t167 = t142
            · rw [if_pos c16] at H
              have c16b0 : (t167 == t142) = true := beq_iff_eq.mpr c16
              have c16b1 : (t167 != t142) = false := bne_eq_false_iff_eq.mpr c16
              clear c16
              by_cases c17 : (t164.length : Int) = 0
              · rw [if_pos c17] at H
                have c17b0 : ((t164.length : Int) == 0) = true := beq_iff_eq.mpr c17
                have c17b1 : ((t164.length : Int) != 0) = false := bne_eq_false_iff_eq.mpr c17
                clear c17
                by_cases c18 : t177 = t142
                · rw [if_pos c18] at H
                  have c18b0 : (t177 == t142) = true := beq_iff_eq.mpr c18
                  have c18b1 : (t177 != t142) = false := bne_eq_false_iff_eq.mpr c18
                  clear c18
                  by_cases c19 : t182 = t142
                  · rw [if_pos c19] at H
                    have c19b0 : (t182 == t142) = true := beq_iff_eq.mpr c19
                    have c19b1 : (t182 != t142) = false := bne_eq_false_iff_eq.mpr c19
                    clear c19
                    by_cases c20 : (t179.length : Int) = 0
                    · rw [if_pos c20] at H
                      have c20b0 : ((t179.length : Int) == 0) = true := beq_iff_eq.mpr c20
                      have c20b1 : ((t179.length : Int) != 0) = false := bne_eq_false_iff_eq.mpr c20
                      clear c20
                      by_cases c21 : t184 = t142
                      · rw [if_pos c21] at H
                        have c21b0 : (t184 == t142) = true := beq_iff_eq.mpr c21
                        have c21b1 : (t184 != t142) = false := bne_eq_false_iff_eq.mpr c21
                        clear c21
                        by_cases c22 : t183 = 1
                        · rw [if_pos c22] at H
                          have c22b0 : (t183 == 1) = true := beq_iff_eq.mpr c22
                          have c22b1 : (t183 != 1) = false := bne_eq_false_iff_eq.mpr c22
                          clear c22
                          obtain rfl := Option.some.inj H
                          go_enter Try.func37, Try.ntmps37
                          go_wp2_with (first | ((with_reducible refine gate_callee (f := 21) rfl ?_); refine goesL_ (some 20) rfl rfl Try.func21 (by kernel_rfl) rfl #[.int .i64 5] rfl (by (try simp only [List.map_toArray, List.map_cons, List.map_nil]); first | done | rfl | (simp only [List.length_drop, List.length_take]; rfl)) ?_; (with_reducible refine (disk_New.calls 5 t136 t139 t142 _ A1.out).mono ?_); rintro e w23 ⟨v137, v140, rfl, ho0, ho1, hb⟩; refine ⟨_, rfl, ?_⟩; have n0_ := Aside0.mk (Kd.R_lower ho0 (below_size (by repeat (first | (with_reducible first | exact HB.out | apply below_alloc | apply pw_below_drewN | apply below_drew1) | exact HB.out)))); have n1_ := Aside0.mk (Kd.R_lower ho1 (below_size (by repeat (first | (with_reducible first | exact HB.out | apply below_alloc | apply pw_below_drewN | apply below_drew1) | exact HB.out)))); have n2_ := Aside0.mk (below_step (by repeat (first | (with_reducible first | exact HB.out | apply below_alloc | apply pw_below_drewN | apply below_drew1) | exact HB.out)) hb); clear HB; have HO138 := n0_; have HO141 := n1_; have HB := n2_; clear n0_ n1_ n2_; (try clear hb); (try clear hb2); (try clear hk); (try clear hi); (try clear ho0); (try clear ho1)) | ((with_reducible refine gate_dst (N := 1) rfl ?_); (try (refine gate_guard (by rfl) ?_; dsimp only)); refine box_event ?hg (N := 1) ?hd (cs := #[.slice none 0 0, .slice none 0 0]) (t := 25) ?hr ?_; (case hd => rfl); (case hg => rfl); (case hr => first | (go_simp; done) | (go_simp; rfl)); intro gb143 hg w24 hbox hb; have n0_ := Aside0.mk (Kd.R_below (by (with_reducible repeat (first | apply Kd.R_alloc | apply Kd.R_drewN | apply Kd.R_drew)); exact HO138.out) hb); have n1_ := Aside0.mk (Kd.R_below (by (with_reducible repeat (first | apply Kd.R_alloc | apply Kd.R_drewN | apply Kd.R_drew)); exact HO141.out) hb); have n2_ := Aside0.mk (below_step (by repeat (first | (with_reducible first | exact HB.out | apply below_alloc | apply pw_below_drewN | apply below_drew1) | exact HB.out)) hb); have n3_ := Aside0.mk (hbox); have n4_ := Aside0.mk ((by rw [hg]; exact (below_size (by repeat (first | (with_reducible first | exact HB.out | apply below_alloc | apply pw_below_drewN | apply below_drew1) | exact HB.out))) : w.heap.size ≤ gb143)); have n5_ := Aside0.mk ((by rw [hg]; exact (below_size (by repeat (first | (with_reducible first | exact HB.out | apply below_alloc | apply pw_below_drewN | apply below_drew1) | exact HB.out))) : w.heap.size ≤ gb143)); clear HO138; clear HO141; clear HB; have HO138 := n0_; have HO141 := n1_; have HB := n2_; have BK143 := n3_; have GW143 := n4_; have GE143 := n5_; clear n0_ n1_ n2_ n3_ n4_ n5_; clear hb hbox hg; obtain ⟨Ao25, co25, eo25⟩ := Kd.R_slice HO138.out; subst eo25; have hcz26_0 : w24.cell? ⟨gb143, 0, none⟩ = some (.slice none 0 0) := (blk_cell BK143.out 0).trans rfl; have hcz26_1 : w24.cell? ⟨gb143, 1, none⟩ = some (.slice none 0 0) := (blk_cell BK143.out 1).trans rfl; have hfz26_0 := blk_frozen BK143.out 0; have hfz26_1 := blk_frozen BK143.out 1; obtain ⟨Ao27, co27, eo27⟩ := Kd.R_slice HO141.out; subst eo27) | ((with_reducible refine gate_callee (f := 31) rfl ?_); refine goesL_ (some 25) rfl rfl Try.func31 (by kernel_rfl) rfl #[.agg #[.slice Ao25 t136.length co25, .slice Ao27 t139.length co27], .int .i64 2, .int .i64 1, .string (⟨#[97]⟩ : ByteArray)] rfl (by (try simp only [List.map_toArray, List.map_cons, List.map_nil]); first | done | rfl | (simp only [List.length_drop, List.length_take]; rfl)) ?_; (with_reducible refine (wal_Append.calls _ _ t136 _ _ t139 2 1 (⟨#[97]⟩ : ByteArray) t144 t147 t150 _ ?side1 ?side2 ?side3 ?side4 A2.out).mono ?_); (case side1 => refine (Kd.R_reads' (e := 9) (base := w.heap.size) (ok := fun k_ => True) (n := t136.length) (c := co25) ?_).2.2; exact (by (with_reducible repeat (first | apply Kd.R_alloc | apply Kd.R_drewN | apply Kd.R_drew)); exact (Kd.R_mono (Kd.R_far (p := ⟨gb143, 1, none⟩) (Kd.R_far (p := ⟨gb143, 0, none⟩) (Kd.R_types HO138.out BK143.out (by decide)) (fun _ hk => hk.2) (.slice Ao25 t136.length co25)) (fun _ hk => hk.2) (.slice Ao27 t139.length co27)) (fun _ h_ => h_.1)))); (case side2 => exact (Kd.R_reads' HO138.out).2.1); (case side3 => refine (Kd.R_reads' (e := 40) (base := w.heap.size) (ok := fun k_ => True) (n := t139.length) (c := co27) ?_).2.2; exact (by (with_reducible repeat (first | apply Kd.R_alloc | apply Kd.R_drewN | apply Kd.R_drew)); exact (Kd.R_mono (Kd.R_far (p := ⟨gb143, 1, none⟩) (Kd.R_far (p := ⟨gb143, 0, none⟩) (Kd.R_types HO141.out BK143.out (by decide)) (fun _ hk => hk.2) (.slice Ao25 t136.length co25)) (fun _ hk => hk.2) (.slice Ao27 t139.length co27)) (fun _ h_ => h_.1)))); (case side4 => exact (Kd.R_reads' HO141.out).2.1); rintro e w28 ⟨v145, v148, rfl, ho0, ho1, hb⟩; refine ⟨_, rfl, ?_⟩; have n0_ := Aside0.mk (Kd.R_elder' (by (with_reducible repeat (first | apply Kd.R_alloc | apply Kd.R_drewN | apply Kd.R_drew)); exact (Kd.R_mono (Kd.R_far (p := ⟨gb143, 1, none⟩) (Kd.R_far (p := ⟨gb143, 0, none⟩) (Kd.R_types HO138.out BK143.out (by decide)) (fun _ hk => hk.2) (.slice Ao25 t136.length co25)) (fun _ hk => hk.2) (.slice Ao27 t139.length co27)) (fun _ h_ => h_.1))) (Kd.R_base ho0) hb); have n1_ := Aside0.mk (Kd.R_elder' (by (with_reducible repeat (first | apply Kd.R_alloc | apply Kd.R_drewN | apply Kd.R_drew)); exact (Kd.R_mono (Kd.R_far (p := ⟨gb143, 1, none⟩) (Kd.R_far (p := ⟨gb143, 0, none⟩) (Kd.R_types HO141.out BK143.out (by decide)) (fun _ hk => hk.2) (.slice Ao25 t136.length co25)) (fun _ hk => hk.2) (.slice Ao27 t139.length co27)) (fun _ h_ => h_.1))) (Kd.R_base ho1) hb); have n2_ := Aside0.mk (Kd.R_lower (Kd.R_new' ho0 (Kd.R_lt (by (with_reducible repeat (first | apply Kd.R_alloc | apply Kd.R_drewN | apply Kd.R_drew)); exact (Kd.R_mono (Kd.R_far (p := ⟨gb143, 1, none⟩) (Kd.R_far (p := ⟨gb143, 0, none⟩) (Kd.R_types HO138.out BK143.out (by decide)) (fun _ hk => hk.2) (.slice Ao25 t136.length co25)) (fun _ hk => hk.2) (.slice Ao27 t139.length co27)) (fun _ h_ => h_.1))))) (below_size (by repeat (first | (with_reducible first | exact HB.out | apply below_alloc | apply pw_below_drewN | apply below_drew1 | refine below_set ?_ GE143.out) | exact HB.out)))); have n3_ := Aside0.mk (Kd.R_lower (Kd.R_new' ho1 (Kd.R_lt (by (with_reducible repeat (first | apply Kd.R_alloc | apply Kd.R_drewN | apply Kd.R_drew)); exact (Kd.R_mono (Kd.R_far (p := ⟨gb143, 1, none⟩) (Kd.R_far (p := ⟨gb143, 0, none⟩) (Kd.R_types HO141.out BK143.out (by decide)) (fun _ hk => hk.2) (.slice Ao25 t136.length co25)) (fun _ hk => hk.2) (.slice Ao27 t139.length co27)) (fun _ h_ => h_.1))))) (below_size (by repeat (first | (with_reducible first | exact HB.out | apply below_alloc | apply pw_below_drewN | apply below_drew1 | refine below_set ?_ GE143.out) | exact HB.out)))); have n4_ := Aside0.mk (blk_below (g := gb143) (o := .cells #[.slice Ao25 t136.length co25, .slice Ao27 t139.length co27] 25 (0, 0)) (by (with_reducible repeat (first | refine blk_drewN ?_ _ | refine blk_drew ?_ | refine blk_alloc ?_ _)); refine blk_put (cs := #[.slice Ao25 t136.length co25, .slice none 0 0]) ?_ 1 _ rfl; (with_reducible repeat (first | refine blk_drewN ?_ _ | refine blk_drew ?_ | refine blk_alloc ?_ _)); refine blk_put (cs := #[.slice none 0 0, .slice none 0 0]) ?_ 0 _ rfl; (with_reducible repeat (first | refine blk_drewN ?_ _ | refine blk_drew ?_ | refine blk_alloc ?_ _)); exact BK143.out) hb); have n5_ := Aside0.mk (below_step (by repeat (first | (with_reducible first | exact HB.out | apply below_alloc | apply pw_below_drewN | apply below_drew1 | refine below_set ?_ GE143.out) | exact HB.out)) hb); clear HO138; clear HO141; clear BK143; clear HB; have HO138 := n0_; have HO141 := n1_; have HO146 := n2_; have HO149 := n3_; have BK143 := n4_; have HB := n5_; clear n0_ n1_ n2_ n3_ n4_ n5_; (try clear hb); (try clear hb2); (try clear hk); (try clear hi); (try clear ho0); (try clear ho1)) | ((with_reducible refine gate_dst (N := 3) rfl ?_); (try (refine gate_guard (by rfl) ?_; dsimp only)); refine box_event ?hg (N := 3) ?hd (cs := #[.slice none 0 0, .slice none 0 0]) (t := 25) ?hr ?_; (case hd => rfl); (case hg => rfl); (case hr => first | (go_simp; done) | (go_simp; rfl)); intro gb151 hg w29 hbox hb; have n0_ := Aside0.mk (Kd.R_below (by (with_reducible repeat (first | apply Kd.R_alloc | apply Kd.R_drewN | apply Kd.R_drew)); exact HO138.out) hb); have n1_ := Aside0.mk (Kd.R_below (by (with_reducible repeat (first | apply Kd.R_alloc | apply Kd.R_drewN | apply Kd.R_drew)); exact HO141.out) hb); have n2_ := Aside0.mk (Kd.R_below (by (with_reducible repeat (first | apply Kd.R_alloc | apply Kd.R_drewN | apply Kd.R_drew)); exact HO146.out) hb); have n3_ := Aside0.mk (Kd.R_below (by (with_reducible repeat (first | apply Kd.R_alloc | apply Kd.R_drewN | apply Kd.R_drew)); exact HO149.out) hb); have n4_ := Aside0.mk (blk_below (g := gb143) (o := .cells #[.slice Ao25 t136.length co25, .slice Ao27 t139.length co27] 25 (0, 0)) (by (with_reducible repeat (first | refine blk_drewN ?_ _ | refine blk_drew ?_ | refine blk_alloc ?_ _)); exact BK143.out) hb); have n5_ := Aside0.mk (below_step (by repeat (first | (with_reducible first | exact HB.out | apply below_alloc | apply pw_below_drewN | apply below_drew1 | refine below_set ?_ GE143.out) | exact HB.out)) hb); have n6_ := Aside0.mk (hbox); have n7_ := Aside0.mk ((by rw [hg]; exact (below_size (by repeat (first | (with_reducible first | exact HB.out | apply below_alloc | apply pw_below_drewN | apply below_drew1 | refine below_set ?_ GE143.out) | exact HB.out))) : w.heap.size ≤ gb151)); have n8_ := Aside0.mk ((by rw [hg]; exact (below_size (by repeat (first | (with_reducible first | exact HB.out | apply below_alloc | apply pw_below_drewN | apply below_drew1 | refine below_set ?_ GE143.out) | exact HB.out))) : w.heap.size ≤ gb151)); have n9_ := Aside0.mk ((by rw [hg]; exact Nat.ne_of_lt (blk_lt (g := gb143) (o := .cells #[.slice Ao25 t136.length co25, .slice Ao27 t139.length co27] 25 (0, 0)) (by (with_reducible repeat (first | refine blk_drewN ?_ _ | refine blk_drew ?_ | refine blk_alloc ?_ _)); exact BK143.out)) : gb143 ≠ gb151)); have n10_ := Aside0.mk ((by rw [hg]; exact Nat.ne_of_gt (blk_lt (g := gb143) (o := .cells #[.slice Ao25 t136.length co25, .slice Ao27 t139.length co27] 25 (0, 0)) (by (with_reducible repeat (first | refine blk_drewN ?_ _ | refine blk_drew ?_ | refine blk_alloc ?_ _)); exact BK143.out)) : gb151 ≠ gb143)); clear HO138; clear HO141; clear HO146; clear HO149; clear BK143; clear HB; have HO138 := n0_; have HO141 := n1_; have HO146 := n2_; have HO149 := n3_; have BK143 := n4_; have HB := n5_; have BK151 := n6_; have GW151 := n7_; have GE151 := n8_; have NB143_151 := n9_; have NB151_143 := n10_; clear n0_ n1_ n2_ n3_ n4_ n5_ n6_ n7_ n8_ n9_ n10_; clear hb hbox hg; obtain ⟨Ao30, co30, eo30⟩ := Kd.R_slice HO146.out; subst eo30; have hnb31 := NB151_143.out; have hnc31 := NB143_151.out; have hcz32_0 : w29.cell? ⟨gb151, 0, none⟩ = some (.slice none 0 0) := (blk_cell BK151.out 0).trans rfl; have hcz32_1 : w29.cell? ⟨gb151, 1, none⟩ = some (.slice none 0 0) := (blk_cell BK151.out 1).trans rfl; have hfz32_0 := blk_frozen BK151.out 0; have hfz32_1 := blk_frozen BK151.out 1; obtain ⟨Ao33, co33, eo33⟩ := Kd.R_slice HO149.out; subst eo33) | ((with_reducible refine gate_callee (f := 31) rfl ?_); refine goesL_ (some 30) rfl rfl Try.func31 (by kernel_rfl) rfl #[.agg #[.slice Ao30 t144.length co30, .slice Ao33 t147.length co33], .int .i64 2, .int .i64 1, .string (⟨#[98]⟩ : ByteArray)] rfl (by (try simp only [List.map_toArray, List.map_cons, List.map_nil]); first | done | rfl | (simp only [List.length_drop, List.length_take]; rfl)) ?_; (with_reducible refine (wal_Append.calls _ _ t144 _ _ t147 2 1 (⟨#[98]⟩ : ByteArray) t152 t155 t158 _ ?side1 ?side2 ?side3 ?side4 A3.out).mono ?_); (case side1 => refine (Kd.R_reads' (e := 9) (base := w.heap.size) (ok := fun k_ => (True ∧ some k_ ≠ (.slice Ao25 t136.length co25 : Value).ownBlock)) (n := t144.length) (c := co30) ?_).2.2; exact (by (with_reducible repeat (first | apply Kd.R_alloc | apply Kd.R_drewN | apply Kd.R_drew)); exact (Kd.R_mono (Kd.R_far (p := ⟨gb151, 1, none⟩) (Kd.R_far (p := ⟨gb151, 0, none⟩) (Kd.R_types HO146.out BK151.out (by decide)) (fun _ hk => hk.2) (.slice Ao30 t144.length co30)) (fun _ hk => hk.2) (.slice Ao33 t147.length co33)) (fun _ h_ => h_.1)))); (case side2 => exact (Kd.R_reads' HO146.out).2.1); (case side3 => refine (Kd.R_reads' (e := 40) (base := w.heap.size) (ok := fun k_ => (True ∧ some k_ ≠ (.slice Ao27 t139.length co27 : Value).ownBlock)) (n := t147.length) (c := co33) ?_).2.2; exact (by (with_reducible repeat (first | apply Kd.R_alloc | apply Kd.R_drewN | apply Kd.R_drew)); exact (Kd.R_mono (Kd.R_far (p := ⟨gb151, 1, none⟩) (Kd.R_far (p := ⟨gb151, 0, none⟩) (Kd.R_types HO149.out BK151.out (by decide)) (fun _ hk => hk.2) (.slice Ao30 t144.length co30)) (fun _ hk => hk.2) (.slice Ao33 t147.length co33)) (fun _ h_ => h_.1)))); (case side4 => exact (Kd.R_reads' HO149.out).2.1); rintro e w34 ⟨v153, v156, rfl, ho0, ho1, hb⟩; refine ⟨_, rfl, ?_⟩; have n0_ := Aside0.mk (Kd.R_elder' (by (with_reducible repeat (first | apply Kd.R_alloc | apply Kd.R_drewN | apply Kd.R_drew)); exact (Kd.R_mono (Kd.R_far (p := ⟨gb151, 1, none⟩) (Kd.R_far (p := ⟨gb151, 0, none⟩) (Kd.R_types HO138.out BK151.out (by decide)) (fun _ hk => hk.2) (.slice Ao30 t144.length co30)) (fun _ hk => hk.2) (.slice Ao33 t147.length co33)) (fun _ h_ => h_.1))) (Kd.R_base ho0) hb); have n1_ := Aside0.mk (Kd.R_elder' (by (with_reducible repeat (first | apply Kd.R_alloc | apply Kd.R_drewN | apply Kd.R_drew)); exact (Kd.R_mono (Kd.R_far (p := ⟨gb151, 1, none⟩) (Kd.R_far (p := ⟨gb151, 0, none⟩) (Kd.R_types HO141.out BK151.out (by decide)) (fun _ hk => hk.2) (.slice Ao30 t144.length co30)) (fun _ hk => hk.2) (.slice Ao33 t147.length co33)) (fun _ h_ => h_.1))) (Kd.R_base ho1) hb); have n2_ := Aside0.mk (Kd.R_elder' (by (with_reducible repeat (first | apply Kd.R_alloc | apply Kd.R_drewN | apply Kd.R_drew)); exact (Kd.R_mono (Kd.R_far (p := ⟨gb151, 1, none⟩) (Kd.R_far (p := ⟨gb151, 0, none⟩) (Kd.R_types HO146.out BK151.out (by decide)) (fun _ hk => hk.2) (.slice Ao30 t144.length co30)) (fun _ hk => hk.2) (.slice Ao33 t147.length co33)) (fun _ h_ => h_.1))) (Kd.R_base ho0) hb); have n3_ := Aside0.mk (Kd.R_elder' (by (with_reducible repeat (first | apply Kd.R_alloc | apply Kd.R_drewN | apply Kd.R_drew)); exact (Kd.R_mono (Kd.R_far (p := ⟨gb151, 1, none⟩) (Kd.R_far (p := ⟨gb151, 0, none⟩) (Kd.R_types HO149.out BK151.out (by decide)) (fun _ hk => hk.2) (.slice Ao30 t144.length co30)) (fun _ hk => hk.2) (.slice Ao33 t147.length co33)) (fun _ h_ => h_.1))) (Kd.R_base ho1) hb); have n4_ := Aside0.mk (Kd.R_lower (Kd.R_new' (Kd.R_new' ho0 (Kd.R_lt (by (with_reducible repeat (first | apply Kd.R_alloc | apply Kd.R_drewN | apply Kd.R_drew)); exact (Kd.R_mono (Kd.R_far (p := ⟨gb151, 1, none⟩) (Kd.R_far (p := ⟨gb151, 0, none⟩) (Kd.R_types HO138.out BK151.out (by decide)) (fun _ hk => hk.2) (.slice Ao30 t144.length co30)) (fun _ hk => hk.2) (.slice Ao33 t147.length co33)) (fun _ h_ => h_.1))))) (Kd.R_lt (by (with_reducible repeat (first | apply Kd.R_alloc | apply Kd.R_drewN | apply Kd.R_drew)); exact (Kd.R_mono (Kd.R_far (p := ⟨gb151, 1, none⟩) (Kd.R_far (p := ⟨gb151, 0, none⟩) (Kd.R_types HO146.out BK151.out (by decide)) (fun _ hk => hk.2) (.slice Ao30 t144.length co30)) (fun _ hk => hk.2) (.slice Ao33 t147.length co33)) (fun _ h_ => h_.1))))) (below_size (by repeat (first | (with_reducible first | exact HB.out | apply below_alloc | apply pw_below_drewN | apply below_drew1 | refine below_set ?_ GE143.out | refine below_set ?_ GE151.out) | exact HB.out)))); have n5_ := Aside0.mk (Kd.R_lower (Kd.R_new' (Kd.R_new' ho1 (Kd.R_lt (by (with_reducible repeat (first | apply Kd.R_alloc | apply Kd.R_drewN | apply Kd.R_drew)); exact (Kd.R_mono (Kd.R_far (p := ⟨gb151, 1, none⟩) (Kd.R_far (p := ⟨gb151, 0, none⟩) (Kd.R_types HO141.out BK151.out (by decide)) (fun _ hk => hk.2) (.slice Ao30 t144.length co30)) (fun _ hk => hk.2) (.slice Ao33 t147.length co33)) (fun _ h_ => h_.1))))) (Kd.R_lt (by (with_reducible repeat (first | apply Kd.R_alloc | apply Kd.R_drewN | apply Kd.R_drew)); exact (Kd.R_mono (Kd.R_far (p := ⟨gb151, 1, none⟩) (Kd.R_far (p := ⟨gb151, 0, none⟩) (Kd.R_types HO149.out BK151.out (by decide)) (fun _ hk => hk.2) (.slice Ao30 t144.length co30)) (fun _ hk => hk.2) (.slice Ao33 t147.length co33)) (fun _ h_ => h_.1))))) (below_size (by repeat (first | (with_reducible first | exact HB.out | apply below_alloc | apply pw_below_drewN | apply below_drew1 | refine below_set ?_ GE143.out | refine below_set ?_ GE151.out) | exact HB.out)))); have n6_ := Aside0.mk (blk_below (g := gb143) (o := .cells #[.slice Ao25 t136.length co25, .slice Ao27 t139.length co27] 25 (0, 0)) (by (with_reducible repeat (first | refine blk_drewN ?_ _ | refine blk_drew ?_ | refine blk_alloc ?_ _)); refine blk_far ?_ NB143_151.out _; (with_reducible repeat (first | refine blk_drewN ?_ _ | refine blk_drew ?_ | refine blk_alloc ?_ _)); refine blk_far ?_ NB143_151.out _; (with_reducible repeat (first | refine blk_drewN ?_ _ | refine blk_drew ?_ | refine blk_alloc ?_ _)); exact BK143.out) hb); have n7_ := Aside0.mk (blk_below (g := gb151) (o := .cells #[.slice Ao30 t144.length co30, .slice Ao33 t147.length co33] 25 (0, 0)) (by (with_reducible repeat (first | refine blk_drewN ?_ _ | refine blk_drew ?_ | refine blk_alloc ?_ _)); refine blk_put (cs := #[.slice Ao30 t144.length co30, .slice none 0 0]) ?_ 1 _ rfl; (with_reducible repeat (first | refine blk_drewN ?_ _ | refine blk_drew ?_ | refine blk_alloc ?_ _)); refine blk_put (cs := #[.slice none 0 0, .slice none 0 0]) ?_ 0 _ rfl; (with_reducible repeat (first | refine blk_drewN ?_ _ | refine blk_drew ?_ | refine blk_alloc ?_ _)); exact BK151.out) hb); have n8_ := Aside0.mk (below_step (by repeat (first | (with_reducible first | exact HB.out | apply below_alloc | apply pw_below_drewN | apply below_drew1 | refine below_set ?_ GE143.out | refine below_set ?_ GE151.out) | exact HB.out)) hb); clear HO138; clear HO141; clear HO146; clear HO149; clear BK143; clear BK151; clear HB; have HO138 := n0_; have HO141 := n1_; have HO146 := n2_; have HO149 := n3_; have HO154 := n4_; have HO157 := n5_; have BK143 := n6_; have BK151 := n7_; have HB := n8_; clear n0_ n1_ n2_ n3_ n4_ n5_ n6_ n7_ n8_; (try clear hb); (try clear hb2); (try clear hk); (try clear hi); (try clear ho0); (try clear ho1)) | ((with_reducible refine gate_dst (N := 5) rfl ?_); (try (refine gate_guard (by rfl) ?_; dsimp only)); refine box_event ?hg (N := 5) ?hd (cs := #[.slice none 0 0, .slice none 0 0]) (t := 25) ?hr ?_; (case hd => rfl); (case hg => rfl); (case hr => first | (go_simp; done) | (go_simp; rfl)); intro gb159 hg w35 hbox hb; have n0_ := Aside0.mk (Kd.R_below (by (with_reducible repeat (first | apply Kd.R_alloc | apply Kd.R_drewN | apply Kd.R_drew)); exact HO138.out) hb); have n1_ := Aside0.mk (Kd.R_below (by (with_reducible repeat (first | apply Kd.R_alloc | apply Kd.R_drewN | apply Kd.R_drew)); exact HO141.out) hb); have n2_ := Aside0.mk (Kd.R_below (by (with_reducible repeat (first | apply Kd.R_alloc | apply Kd.R_drewN | apply Kd.R_drew)); exact HO146.out) hb); have n3_ := Aside0.mk (Kd.R_below (by (with_reducible repeat (first | apply Kd.R_alloc | apply Kd.R_drewN | apply Kd.R_drew)); exact HO149.out) hb); have n4_ := Aside0.mk (Kd.R_below (by (with_reducible repeat (first | apply Kd.R_alloc | apply Kd.R_drewN | apply Kd.R_drew)); exact HO154.out) hb); have n5_ := Aside0.mk (Kd.R_below (by (with_reducible repeat (first | apply Kd.R_alloc | apply Kd.R_drewN | apply Kd.R_drew)); exact HO157.out) hb); have n6_ := Aside0.mk (blk_below (g := gb143) (o := .cells #[.slice Ao25 t136.length co25, .slice Ao27 t139.length co27] 25 (0, 0)) (by (with_reducible repeat (first | refine blk_drewN ?_ _ | refine blk_drew ?_ | refine blk_alloc ?_ _)); exact BK143.out) hb); have n7_ := Aside0.mk (blk_below (g := gb151) (o := .cells #[.slice Ao30 t144.length co30, .slice Ao33 t147.length co33] 25 (0, 0)) (by (with_reducible repeat (first | refine blk_drewN ?_ _ | refine blk_drew ?_ | refine blk_alloc ?_ _)); exact BK151.out) hb); have n8_ := Aside0.mk (below_step (by repeat (first | (with_reducible first | exact HB.out | apply below_alloc | apply pw_below_drewN | apply below_drew1 | refine below_set ?_ GE143.out | refine below_set ?_ GE151.out) | exact HB.out)) hb); have n9_ := Aside0.mk (hbox); have n10_ := Aside0.mk ((by rw [hg]; exact (below_size (by repeat (first | (with_reducible first | exact HB.out | apply below_alloc | apply pw_below_drewN | apply below_drew1 | refine below_set ?_ GE143.out | refine below_set ?_ GE151.out) | exact HB.out))) : w.heap.size ≤ gb159)); have n11_ := Aside0.mk ((by rw [hg]; exact (below_size (by repeat (first | (with_reducible first | exact HB.out | apply below_alloc | apply pw_below_drewN | apply below_drew1 | refine below_set ?_ GE143.out | refine below_set ?_ GE151.out) | exact HB.out))) : w.heap.size ≤ gb159)); have n12_ := Aside0.mk ((by rw [hg]; exact Nat.ne_of_lt (blk_lt (g := gb143) (o := .cells #[.slice Ao25 t136.length co25, .slice Ao27 t139.length co27] 25 (0, 0)) (by (with_reducible repeat (first | refine blk_drewN ?_ _ | refine blk_drew ?_ | refine blk_alloc ?_ _)); exact BK143.out)) : gb143 ≠ gb159)); have n13_ := Aside0.mk ((by rw [hg]; exact Nat.ne_of_gt (blk_lt (g := gb143) (o := .cells #[.slice Ao25 t136.length co25, .slice Ao27 t139.length co27] 25 (0, 0)) (by (with_reducible repeat (first | refine blk_drewN ?_ _ | refine blk_drew ?_ | refine blk_alloc ?_ _)); exact BK143.out)) : gb159 ≠ gb143)); have n14_ := Aside0.mk ((by rw [hg]; exact Nat.ne_of_lt (blk_lt (g := gb151) (o := .cells #[.slice Ao30 t144.length co30, .slice Ao33 t147.length co33] 25 (0, 0)) (by (with_reducible repeat (first | refine blk_drewN ?_ _ | refine blk_drew ?_ | refine blk_alloc ?_ _)); exact BK151.out)) : gb151 ≠ gb159)); have n15_ := Aside0.mk ((by rw [hg]; exact Nat.ne_of_gt (blk_lt (g := gb151) (o := .cells #[.slice Ao30 t144.length co30, .slice Ao33 t147.length co33] 25 (0, 0)) (by (with_reducible repeat (first | refine blk_drewN ?_ _ | refine blk_drew ?_ | refine blk_alloc ?_ _)); exact BK151.out)) : gb159 ≠ gb151)); clear HO138; clear HO141; clear HO146; clear HO149; clear HO154; clear HO157; clear BK143; clear BK151; clear HB; have HO138 := n0_; have HO141 := n1_; have HO146 := n2_; have HO149 := n3_; have HO154 := n4_; have HO157 := n5_; have BK143 := n6_; have BK151 := n7_; have HB := n8_; have BK159 := n9_; have GW159 := n10_; have GE159 := n11_; have NB143_159 := n12_; have NB159_143 := n13_; have NB151_159 := n14_; have NB159_151 := n15_; clear n0_ n1_ n2_ n3_ n4_ n5_ n6_ n7_ n8_ n9_ n10_ n11_ n12_ n13_ n14_ n15_; clear hb hbox hg; obtain ⟨Ao36, co36, eo36⟩ := Kd.R_slice HO154.out; subst eo36; have hnb37 := NB159_143.out; have hnc37 := NB143_159.out; have hnb38 := NB159_151.out; have hnc38 := NB151_159.out; have hcz39_0 : w35.cell? ⟨gb159, 0, none⟩ = some (.slice none 0 0) := (blk_cell BK159.out 0).trans rfl; have hcz39_1 : w35.cell? ⟨gb159, 1, none⟩ = some (.slice none 0 0) := (blk_cell BK159.out 1).trans rfl; have hfz39_0 := blk_frozen BK159.out 0; have hfz39_1 := blk_frozen BK159.out 1; obtain ⟨Ao40, co40, eo40⟩ := Kd.R_slice HO157.out; subst eo40) | ((with_reducible refine gate_callee (f := 29) rfl ?_); refine goesL_ (some 35) rfl rfl Try.func29 (by kernel_rfl) rfl #[.agg #[.slice Ao36 t152.length co36, .slice Ao40 t155.length co40], .int .i64 2, .int .i64 1] rfl (by (try simp only [List.map_toArray, List.map_cons, List.map_nil]); first | done | rfl | (simp only [List.length_drop, List.length_take]; rfl)) ?_; (with_reducible refine (wal_Open.calls _ _ t152 _ _ t155 2 1 t160 t163 _ ?side1 ?side2 ?side3 ?side4 A4.out).mono ?_); (case side1 => refine (Kd.R_reads' (e := 9) (base := w.heap.size) (ok := fun k_ => ((True ∧ some k_ ≠ (.slice Ao25 t136.length co25 : Value).ownBlock) ∧ some k_ ≠ (.slice Ao30 t144.length co30 : Value).ownBlock)) (n := t152.length) (c := co36) ?_).2.2; exact (by (with_reducible repeat (first | apply Kd.R_alloc | apply Kd.R_drewN | apply Kd.R_drew)); exact (Kd.R_mono (Kd.R_far (p := ⟨gb159, 1, none⟩) (Kd.R_far (p := ⟨gb159, 0, none⟩) (Kd.R_types HO154.out BK159.out (by decide)) (fun _ hk => hk.2) (.slice Ao36 t152.length co36)) (fun _ hk => hk.2) (.slice Ao40 t155.length co40)) (fun _ h_ => h_.1)))); (case side2 => exact (Kd.R_reads' HO154.out).2.1); (case side3 => refine (Kd.R_reads' (e := 40) (base := w.heap.size) (ok := fun k_ => ((True ∧ some k_ ≠ (.slice Ao27 t139.length co27 : Value).ownBlock) ∧ some k_ ≠ (.slice Ao33 t147.length co33 : Value).ownBlock)) (n := t155.length) (c := co40) ?_).2.2; exact (by (with_reducible repeat (first | apply Kd.R_alloc | apply Kd.R_drewN | apply Kd.R_drew)); exact (Kd.R_mono (Kd.R_far (p := ⟨gb159, 1, none⟩) (Kd.R_far (p := ⟨gb159, 0, none⟩) (Kd.R_types HO157.out BK159.out (by decide)) (fun _ hk => hk.2) (.slice Ao36 t152.length co36)) (fun _ hk => hk.2) (.slice Ao40 t155.length co40)) (fun _ h_ => h_.1)))); (case side4 => exact (Kd.R_reads' HO157.out).2.1); rintro e w41 ⟨v161, rfl, ho0, hb⟩; refine ⟨_, rfl, ?_⟩; have n0_ := Aside0.mk (Kd.R_elder' (by (with_reducible repeat (first | apply Kd.R_alloc | apply Kd.R_drewN | apply Kd.R_drew)); exact (Kd.R_mono (Kd.R_far (p := ⟨gb159, 1, none⟩) (Kd.R_far (p := ⟨gb159, 0, none⟩) (Kd.R_types HO138.out BK159.out (by decide)) (fun _ hk => hk.2) (.slice Ao36 t152.length co36)) (fun _ hk => hk.2) (.slice Ao40 t155.length co40)) (fun _ h_ => h_.1))) (Kd.R_base ho0) hb); have n1_ := Aside0.mk (Kd.R_below (by (with_reducible repeat (first | apply Kd.R_alloc | apply Kd.R_drewN | apply Kd.R_drew)); exact (Kd.R_mono (Kd.R_far (p := ⟨gb159, 1, none⟩) (Kd.R_far (p := ⟨gb159, 0, none⟩) (Kd.R_types HO141.out BK159.out (by decide)) (fun _ hk => hk.2) (.slice Ao36 t152.length co36)) (fun _ hk => hk.2) (.slice Ao40 t155.length co40)) (fun _ h_ => h_.1))) hb); have n2_ := Aside0.mk (Kd.R_elder' (by (with_reducible repeat (first | apply Kd.R_alloc | apply Kd.R_drewN | apply Kd.R_drew)); exact (Kd.R_mono (Kd.R_far (p := ⟨gb159, 1, none⟩) (Kd.R_far (p := ⟨gb159, 0, none⟩) (Kd.R_types HO146.out BK159.out (by decide)) (fun _ hk => hk.2) (.slice Ao36 t152.length co36)) (fun _ hk => hk.2) (.slice Ao40 t155.length co40)) (fun _ h_ => h_.1))) (Kd.R_base ho0) hb); have n3_ := Aside0.mk (Kd.R_below (by (with_reducible repeat (first | apply Kd.R_alloc | apply Kd.R_drewN | apply Kd.R_drew)); exact (Kd.R_mono (Kd.R_far (p := ⟨gb159, 1, none⟩) (Kd.R_far (p := ⟨gb159, 0, none⟩) (Kd.R_types HO149.out BK159.out (by decide)) (fun _ hk => hk.2) (.slice Ao36 t152.length co36)) (fun _ hk => hk.2) (.slice Ao40 t155.length co40)) (fun _ h_ => h_.1))) hb); have n4_ := Aside0.mk (Kd.R_elder' (by (with_reducible repeat (first | apply Kd.R_alloc | apply Kd.R_drewN | apply Kd.R_drew)); exact (Kd.R_mono (Kd.R_far (p := ⟨gb159, 1, none⟩) (Kd.R_far (p := ⟨gb159, 0, none⟩) (Kd.R_types HO154.out BK159.out (by decide)) (fun _ hk => hk.2) (.slice Ao36 t152.length co36)) (fun _ hk => hk.2) (.slice Ao40 t155.length co40)) (fun _ h_ => h_.1))) (Kd.R_base ho0) hb); have n5_ := Aside0.mk (Kd.R_below (by (with_reducible repeat (first | apply Kd.R_alloc | apply Kd.R_drewN | apply Kd.R_drew)); exact (Kd.R_mono (Kd.R_far (p := ⟨gb159, 1, none⟩) (Kd.R_far (p := ⟨gb159, 0, none⟩) (Kd.R_types HO157.out BK159.out (by decide)) (fun _ hk => hk.2) (.slice Ao36 t152.length co36)) (fun _ hk => hk.2) (.slice Ao40 t155.length co40)) (fun _ h_ => h_.1))) hb); have n6_ := Aside0.mk (Kd.R_lower (Kd.R_new' (Kd.R_new' (Kd.R_new' ho0 (Kd.R_lt (by (with_reducible repeat (first | apply Kd.R_alloc | apply Kd.R_drewN | apply Kd.R_drew)); exact (Kd.R_mono (Kd.R_far (p := ⟨gb159, 1, none⟩) (Kd.R_far (p := ⟨gb159, 0, none⟩) (Kd.R_types HO138.out BK159.out (by decide)) (fun _ hk => hk.2) (.slice Ao36 t152.length co36)) (fun _ hk => hk.2) (.slice Ao40 t155.length co40)) (fun _ h_ => h_.1))))) (Kd.R_lt (by (with_reducible repeat (first | apply Kd.R_alloc | apply Kd.R_drewN | apply Kd.R_drew)); exact (Kd.R_mono (Kd.R_far (p := ⟨gb159, 1, none⟩) (Kd.R_far (p := ⟨gb159, 0, none⟩) (Kd.R_types HO146.out BK159.out (by decide)) (fun _ hk => hk.2) (.slice Ao36 t152.length co36)) (fun _ hk => hk.2) (.slice Ao40 t155.length co40)) (fun _ h_ => h_.1))))) (Kd.R_lt (by (with_reducible repeat (first | apply Kd.R_alloc | apply Kd.R_drewN | apply Kd.R_drew)); exact (Kd.R_mono (Kd.R_far (p := ⟨gb159, 1, none⟩) (Kd.R_far (p := ⟨gb159, 0, none⟩) (Kd.R_types HO154.out BK159.out (by decide)) (fun _ hk => hk.2) (.slice Ao36 t152.length co36)) (fun _ hk => hk.2) (.slice Ao40 t155.length co40)) (fun _ h_ => h_.1))))) (below_size (by repeat (first | (with_reducible first | exact HB.out | apply below_alloc | apply pw_below_drewN | apply below_drew1 | refine below_set ?_ GE143.out | refine below_set ?_ GE151.out | refine below_set ?_ GE159.out) | exact HB.out)))); have n7_ := Aside0.mk (blk_below (g := gb143) (o := .cells #[.slice Ao25 t136.length co25, .slice Ao27 t139.length co27] 25 (0, 0)) (by (with_reducible repeat (first | refine blk_drewN ?_ _ | refine blk_drew ?_ | refine blk_alloc ?_ _)); refine blk_far ?_ NB143_159.out _; (with_reducible repeat (first | refine blk_drewN ?_ _ | refine blk_drew ?_ | refine blk_alloc ?_ _)); refine blk_far ?_ NB143_159.out _; (with_reducible repeat (first | refine blk_drewN ?_ _ | refine blk_drew ?_ | refine blk_alloc ?_ _)); exact BK143.out) hb); have n8_ := Aside0.mk (blk_below (g := gb151) (o := .cells #[.slice Ao30 t144.length co30, .slice Ao33 t147.length co33] 25 (0, 0)) (by (with_reducible repeat (first | refine blk_drewN ?_ _ | refine blk_drew ?_ | refine blk_alloc ?_ _)); refine blk_far ?_ NB151_159.out _; (with_reducible repeat (first | refine blk_drewN ?_ _ | refine blk_drew ?_ | refine blk_alloc ?_ _)); refine blk_far ?_ NB151_159.out _; (with_reducible repeat (first | refine blk_drewN ?_ _ | refine blk_drew ?_ | refine blk_alloc ?_ _)); exact BK151.out) hb); have n9_ := Aside0.mk (blk_below (g := gb159) (o := .cells #[.slice Ao36 t152.length co36, .slice Ao40 t155.length co40] 25 (0, 0)) (by (with_reducible repeat (first | refine blk_drewN ?_ _ | refine blk_drew ?_ | refine blk_alloc ?_ _)); refine blk_put (cs := #[.slice Ao36 t152.length co36, .slice none 0 0]) ?_ 1 _ rfl; (with_reducible repeat (first | refine blk_drewN ?_ _ | refine blk_drew ?_ | refine blk_alloc ?_ _)); refine blk_put (cs := #[.slice none 0 0, .slice none 0 0]) ?_ 0 _ rfl; (with_reducible repeat (first | refine blk_drewN ?_ _ | refine blk_drew ?_ | refine blk_alloc ?_ _)); exact BK159.out) hb); have n10_ := Aside0.mk (below_step (by repeat (first | (with_reducible first | exact HB.out | apply below_alloc | apply pw_below_drewN | apply below_drew1 | refine below_set ?_ GE143.out | refine below_set ?_ GE151.out | refine below_set ?_ GE159.out) | exact HB.out)) hb); clear HO138; clear HO141; clear HO146; clear HO149; clear HO154; clear HO157; clear BK143; clear BK151; clear BK159; clear HB; have HO138 := n0_; have HO141 := n1_; have HO146 := n2_; have HO149 := n3_; have HO154 := n4_; have HO157 := n5_; have HO162 := n6_; have BK143 := n7_; have BK151 := n8_; have BK159 := n9_; have HB := n10_; clear n0_ n1_ n2_ n3_ n4_ n5_ n6_ n7_ n8_ n9_ n10_; (try clear hb); (try clear hb2); (try clear hk); (try clear hi); (try clear ho0); have hcz42_0 : w41.cell? ⟨gb159, 0, none⟩ = some (.slice Ao36 t152.length co36) := (blk_cell BK159.out 0).trans rfl; have hcz42_1 : w41.cell? ⟨gb159, 1, none⟩ = some (.slice Ao40 t155.length co40) := (blk_cell BK159.out 1).trans rfl; have hfz42_0 := blk_frozen BK159.out 0; have hfz42_1 := blk_frozen BK159.out 1) | ((with_reducible refine gate_callee (f := 29) rfl ?_); refine goesL_ (some 40) rfl rfl Try.func29 (by kernel_rfl) rfl #[.agg #[.slice Ao36 t152.length co36, .slice Ao40 t155.length co40], .int .i64 2, .int .i64 2] rfl (by (try simp only [List.map_toArray, List.map_cons, List.map_nil]); first | done | rfl | (simp only [List.length_drop, List.length_take]; rfl)) ?_; (with_reducible refine (wal_Open.calls _ _ t152 _ _ t155 2 2 t164 t167 _ ?side1 ?side2 ?side3 ?side4 A5.out).mono ?_); (case side1 => repeat (first | exact (Kd.R_reads' HO154.out).2.2 | (with_reducible refine Kd.C_alloc ?_ _) | (with_reducible refine Kd.C_drewN ?_ _) | (with_reducible refine Kd.C_drew ?_))); (case side2 => exact (Kd.R_reads' HO154.out).2.1); (case side3 => repeat (first | exact (Kd.R_reads' HO157.out).2.2 | (with_reducible refine Kd.C_alloc ?_ _) | (with_reducible refine Kd.C_drewN ?_ _) | (with_reducible refine Kd.C_drew ?_))); (case side4 => exact (Kd.R_reads' HO157.out).2.1); rintro e w43 ⟨v165, rfl, ho0, hb⟩; refine ⟨_, rfl, ?_⟩; have n0_ := Aside0.mk (Kd.R_elder' (by (with_reducible repeat (first | apply Kd.R_alloc | apply Kd.R_drewN | apply Kd.R_drew)); exact HO138.out) (Kd.R_base ho0) hb); have n1_ := Aside0.mk (Kd.R_below (by (with_reducible repeat (first | apply Kd.R_alloc | apply Kd.R_drewN | apply Kd.R_drew)); exact HO141.out) hb); have n2_ := Aside0.mk (Kd.R_elder' (by (with_reducible repeat (first | apply Kd.R_alloc | apply Kd.R_drewN | apply Kd.R_drew)); exact HO146.out) (Kd.R_base ho0) hb); have n3_ := Aside0.mk (Kd.R_below (by (with_reducible repeat (first | apply Kd.R_alloc | apply Kd.R_drewN | apply Kd.R_drew)); exact HO149.out) hb); have n4_ := Aside0.mk (Kd.R_elder' (by (with_reducible repeat (first | apply Kd.R_alloc | apply Kd.R_drewN | apply Kd.R_drew)); exact HO154.out) (Kd.R_base ho0) hb); have n5_ := Aside0.mk (Kd.R_below (by (with_reducible repeat (first | apply Kd.R_alloc | apply Kd.R_drewN | apply Kd.R_drew)); exact HO157.out) hb); have n6_ := Aside0.mk (Kd.R_elder' (by (with_reducible repeat (first | apply Kd.R_alloc | apply Kd.R_drewN | apply Kd.R_drew)); exact HO162.out) (Kd.R_base ho0) hb); have n7_ := Aside0.mk (Kd.R_lower (Kd.R_new' (Kd.R_new' (Kd.R_new' (Kd.R_new' ho0 (Kd.R_lt (by (with_reducible repeat (first | apply Kd.R_alloc | apply Kd.R_drewN | apply Kd.R_drew)); exact HO138.out))) (Kd.R_lt (by (with_reducible repeat (first | apply Kd.R_alloc | apply Kd.R_drewN | apply Kd.R_drew)); exact HO146.out))) (Kd.R_lt (by (with_reducible repeat (first | apply Kd.R_alloc | apply Kd.R_drewN | apply Kd.R_drew)); exact HO154.out))) (Kd.R_lt (by (with_reducible repeat (first | apply Kd.R_alloc | apply Kd.R_drewN | apply Kd.R_drew)); exact HO162.out))) (below_size (by repeat (first | (with_reducible first | exact HB.out | apply below_alloc | apply pw_below_drewN | apply below_drew1 | refine below_set ?_ GE143.out | refine below_set ?_ GE151.out | refine below_set ?_ GE159.out) | exact HB.out)))); have n8_ := Aside0.mk (blk_below (g := gb143) (o := .cells #[.slice Ao25 t136.length co25, .slice Ao27 t139.length co27] 25 (0, 0)) (by (with_reducible repeat (first | refine blk_drewN ?_ _ | refine blk_drew ?_ | refine blk_alloc ?_ _)); exact BK143.out) hb); have n9_ := Aside0.mk (blk_below (g := gb151) (o := .cells #[.slice Ao30 t144.length co30, .slice Ao33 t147.length co33] 25 (0, 0)) (by (with_reducible repeat (first | refine blk_drewN ?_ _ | refine blk_drew ?_ | refine blk_alloc ?_ _)); exact BK151.out) hb); have n10_ := Aside0.mk (blk_below (g := gb159) (o := .cells #[.slice Ao36 t152.length co36, .slice Ao40 t155.length co40] 25 (0, 0)) (by (with_reducible repeat (first | refine blk_drewN ?_ _ | refine blk_drew ?_ | refine blk_alloc ?_ _)); exact BK159.out) hb); have n11_ := Aside0.mk (below_step (by repeat (first | (with_reducible first | exact HB.out | apply below_alloc | apply pw_below_drewN | apply below_drew1 | refine below_set ?_ GE143.out | refine below_set ?_ GE151.out | refine below_set ?_ GE159.out) | exact HB.out)) hb); clear HO138; clear HO141; clear HO146; clear HO149; clear HO154; clear HO157; clear HO162; clear BK143; clear BK151; clear BK159; clear HB; have HO138 := n0_; have HO141 := n1_; have HO146 := n2_; have HO149 := n3_; have HO154 := n4_; have HO157 := n5_; have HO162 := n6_; have HO166 := n7_; have BK143 := n8_; have BK151 := n9_; have BK159 := n10_; have HB := n11_; clear n0_ n1_ n2_ n3_ n4_ n5_ n6_ n7_ n8_ n9_ n10_ n11_; (try clear hb); (try clear hb2); (try clear hk); (try clear hi); (try clear ho0); have hcz44_0 : w43.cell? ⟨gb159, 0, none⟩ = some (.slice Ao36 t152.length co36) := (blk_cell BK159.out 0).trans rfl; have hcz44_1 : w43.cell? ⟨gb159, 1, none⟩ = some (.slice Ao40 t155.length co40) := (blk_cell BK159.out 1).trans rfl; have hfz44_0 := blk_frozen BK159.out 0; have hfz44_1 := blk_frozen BK159.out 1) | ((with_reducible refine gate_dst (N := 45) rfl ?_); (try (refine gate_guard (by rfl) ?_; dsimp only)); refine Kd.R_lit Kd.bool _ 4 ?hg (N := 45) ?hd (xs := ([false, true] : List Bool)) (inner := [.bool false, .bool true]) (ok := fun _ => True) (okp := fun _ => True) ?hr ?hp (fun _ hk => hk) trivial (Below.refl _ _) (Nat.le_refl _) (by simp) ?_; (case hd => rfl); (case hg => rfl); (case hr => first | (go_simp; done) | (go_simp; rfl)); (case hp => exact (Reps.one (show Kd.M Kd.bool _ _ _ false [.bool false] from rfl) (Reps.one (show Kd.M Kd.bool _ _ _ true [.bool true] from rfl) (Reps.none _ _)))); intro v169 w45 ho46 hb hg_ hnew_; clear hg_ hnew_; (first | rw [← Ny168.out] at ho46 | (simp only [Int.reduceToNat] at ho46; rw [← Ny168.out] at ho46)); have n0_ := Aside0.mk (Kd.R_below (by (with_reducible repeat (first | apply Kd.R_alloc | apply Kd.R_drewN | apply Kd.R_drew)); exact HO138.out) hb); have n1_ := Aside0.mk (Kd.R_below (by (with_reducible repeat (first | apply Kd.R_alloc | apply Kd.R_drewN | apply Kd.R_drew)); exact HO141.out) hb); have n2_ := Aside0.mk (Kd.R_below (by (with_reducible repeat (first | apply Kd.R_alloc | apply Kd.R_drewN | apply Kd.R_drew)); exact HO146.out) hb); have n3_ := Aside0.mk (Kd.R_below (by (with_reducible repeat (first | apply Kd.R_alloc | apply Kd.R_drewN | apply Kd.R_drew)); exact HO149.out) hb); have n4_ := Aside0.mk (Kd.R_below (by (with_reducible repeat (first | apply Kd.R_alloc | apply Kd.R_drewN | apply Kd.R_drew)); exact HO154.out) hb); have n5_ := Aside0.mk (Kd.R_below (by (with_reducible repeat (first | apply Kd.R_alloc | apply Kd.R_drewN | apply Kd.R_drew)); exact HO157.out) hb); have n6_ := Aside0.mk (Kd.R_below (by (with_reducible repeat (first | apply Kd.R_alloc | apply Kd.R_drewN | apply Kd.R_drew)); exact HO162.out) hb); have n7_ := Aside0.mk (Kd.R_below (by (with_reducible repeat (first | apply Kd.R_alloc | apply Kd.R_drewN | apply Kd.R_drew)); exact HO166.out) hb); have n8_ := Aside0.mk (Kd.R_lower ho46 (below_size (by repeat (first | (with_reducible first | exact HB.out | apply below_alloc | apply pw_below_drewN | apply below_drew1 | refine below_set ?_ GE143.out | refine below_set ?_ GE151.out | refine below_set ?_ GE159.out) | exact HB.out)))); have n9_ := Aside0.mk (blk_below (g := gb143) (o := .cells #[.slice Ao25 t136.length co25, .slice Ao27 t139.length co27] 25 (0, 0)) (by (with_reducible repeat (first | refine blk_drewN ?_ _ | refine blk_drew ?_ | refine blk_alloc ?_ _)); exact BK143.out) hb); have n10_ := Aside0.mk (blk_below (g := gb151) (o := .cells #[.slice Ao30 t144.length co30, .slice Ao33 t147.length co33] 25 (0, 0)) (by (with_reducible repeat (first | refine blk_drewN ?_ _ | refine blk_drew ?_ | refine blk_alloc ?_ _)); exact BK151.out) hb); have n11_ := Aside0.mk (blk_below (g := gb159) (o := .cells #[.slice Ao36 t152.length co36, .slice Ao40 t155.length co40] 25 (0, 0)) (by (with_reducible repeat (first | refine blk_drewN ?_ _ | refine blk_drew ?_ | refine blk_alloc ?_ _)); exact BK159.out) hb); have n12_ := Aside0.mk (below_step (by repeat (first | (with_reducible first | exact HB.out | apply below_alloc | apply pw_below_drewN | apply below_drew1 | refine below_set ?_ GE143.out | refine below_set ?_ GE151.out | refine below_set ?_ GE159.out) | exact HB.out)) hb); clear HO138; clear HO141; clear HO146; clear HO149; clear HO154; clear HO157; clear HO162; clear HO166; clear BK143; clear BK151; clear BK159; clear HB; have HO138 := n0_; have HO141 := n1_; have HO146 := n2_; have HO149 := n3_; have HO154 := n4_; have HO157 := n5_; have HO162 := n6_; have HO166 := n7_; have HO170 := n8_; have BK143 := n9_; have BK151 := n10_; have BK159 := n11_; have HB := n12_; clear n0_ n1_ n2_ n3_ n4_ n5_ n6_ n7_ n8_ n9_ n10_ n11_ n12_; clear hb ho46; obtain ⟨Ao47, co47, eo47⟩ := Kd.R_slice HO170.out; subst eo47) | ((with_reducible refine gate_callee (f := 19) rfl ?_); refine goesL_ (some 46) rfl rfl Try.func19 (by kernel_rfl) rfl #[.agg #[.slice Ao36 t152.length co36, .slice Ao40 t155.length co40], .slice Ao47 y168.length co47] rfl (by (try simp only [List.map_toArray, List.map_cons, List.map_nil]); first | done | rfl | (simp only [List.length_drop, List.length_take]; rfl)) ?_; (with_reducible refine (disk_Crash.calls _ _ t152 _ _ t155 _ _ y168 t171 t174 t177 _ ?side1 ?side2 ?side3 ?side4 ?side5 ?side6 A6.out).mono ?_); (case side1 => repeat (first | exact (Kd.R_reads' HO154.out).2.2 | (with_reducible refine Kd.C_alloc ?_ _) | (with_reducible refine Kd.C_drewN ?_ _) | (with_reducible refine Kd.C_drew ?_))); (case side2 => exact (Kd.R_reads' HO154.out).2.1); (case side3 => repeat (first | exact (Kd.R_reads' HO157.out).2.2 | (with_reducible refine Kd.C_alloc ?_ _) | (with_reducible refine Kd.C_drewN ?_ _) | (with_reducible refine Kd.C_drew ?_))); (case side4 => exact (Kd.R_reads' HO157.out).2.1); (case side5 => repeat (first | exact (Kd.R_reads' HO170.out).2.2 | (with_reducible refine Kd.C_alloc ?_ _) | (with_reducible refine Kd.C_drewN ?_ _) | (with_reducible refine Kd.C_drew ?_))); (case side6 => exact (Kd.R_reads' HO170.out).2.1); rintro e w48 ⟨v172, v175, rfl, ho0, ho1, hb⟩; refine ⟨_, rfl, ?_⟩; have n0_ := Aside0.mk (Kd.R_elder' (by (with_reducible repeat (first | apply Kd.R_alloc | apply Kd.R_drewN | apply Kd.R_drew)); exact HO138.out) (Kd.R_base ho0) hb); have n1_ := Aside0.mk (Kd.R_elder' (by (with_reducible repeat (first | apply Kd.R_alloc | apply Kd.R_drewN | apply Kd.R_drew)); exact HO141.out) (Kd.R_base ho1) hb); have n2_ := Aside0.mk (Kd.R_elder' (by (with_reducible repeat (first | apply Kd.R_alloc | apply Kd.R_drewN | apply Kd.R_drew)); exact HO146.out) (Kd.R_base ho0) hb); have n3_ := Aside0.mk (Kd.R_elder' (by (with_reducible repeat (first | apply Kd.R_alloc | apply Kd.R_drewN | apply Kd.R_drew)); exact HO149.out) (Kd.R_base ho1) hb); have n4_ := Aside0.mk (Kd.R_elder' (by (with_reducible repeat (first | apply Kd.R_alloc | apply Kd.R_drewN | apply Kd.R_drew)); exact HO154.out) (Kd.R_base ho0) hb); have n5_ := Aside0.mk (Kd.R_elder' (by (with_reducible repeat (first | apply Kd.R_alloc | apply Kd.R_drewN | apply Kd.R_drew)); exact HO157.out) (Kd.R_base ho1) hb); have n6_ := Aside0.mk (Kd.R_elder' (by (with_reducible repeat (first | apply Kd.R_alloc | apply Kd.R_drewN | apply Kd.R_drew)); exact HO162.out) (Kd.R_base ho0) hb); have n7_ := Aside0.mk (Kd.R_elder' (by (with_reducible repeat (first | apply Kd.R_alloc | apply Kd.R_drewN | apply Kd.R_drew)); exact HO166.out) (Kd.R_base ho0) hb); have n8_ := Aside0.mk (Kd.R_below (by (with_reducible repeat (first | apply Kd.R_alloc | apply Kd.R_drewN | apply Kd.R_drew)); exact HO170.out) hb); have n9_ := Aside0.mk (Kd.R_lower (Kd.R_new' (Kd.R_new' (Kd.R_new' (Kd.R_new' (Kd.R_new' ho0 (Kd.R_lt (by (with_reducible repeat (first | apply Kd.R_alloc | apply Kd.R_drewN | apply Kd.R_drew)); exact HO138.out))) (Kd.R_lt (by (with_reducible repeat (first | apply Kd.R_alloc | apply Kd.R_drewN | apply Kd.R_drew)); exact HO146.out))) (Kd.R_lt (by (with_reducible repeat (first | apply Kd.R_alloc | apply Kd.R_drewN | apply Kd.R_drew)); exact HO154.out))) (Kd.R_lt (by (with_reducible repeat (first | apply Kd.R_alloc | apply Kd.R_drewN | apply Kd.R_drew)); exact HO162.out))) (Kd.R_lt (by (with_reducible repeat (first | apply Kd.R_alloc | apply Kd.R_drewN | apply Kd.R_drew)); exact HO166.out))) (below_size (by repeat (first | (with_reducible first | exact HB.out | apply below_alloc | apply pw_below_drewN | apply below_drew1 | refine below_set ?_ GE143.out | refine below_set ?_ GE151.out | refine below_set ?_ GE159.out) | exact HB.out)))); have n10_ := Aside0.mk (Kd.R_lower (Kd.R_new' (Kd.R_new' (Kd.R_new' ho1 (Kd.R_lt (by (with_reducible repeat (first | apply Kd.R_alloc | apply Kd.R_drewN | apply Kd.R_drew)); exact HO141.out))) (Kd.R_lt (by (with_reducible repeat (first | apply Kd.R_alloc | apply Kd.R_drewN | apply Kd.R_drew)); exact HO149.out))) (Kd.R_lt (by (with_reducible repeat (first | apply Kd.R_alloc | apply Kd.R_drewN | apply Kd.R_drew)); exact HO157.out))) (below_size (by repeat (first | (with_reducible first | exact HB.out | apply below_alloc | apply pw_below_drewN | apply below_drew1 | refine below_set ?_ GE143.out | refine below_set ?_ GE151.out | refine below_set ?_ GE159.out) | exact HB.out)))); have n11_ := Aside0.mk (blk_below (g := gb143) (o := .cells #[.slice Ao25 t136.length co25, .slice Ao27 t139.length co27] 25 (0, 0)) (by (with_reducible repeat (first | refine blk_drewN ?_ _ | refine blk_drew ?_ | refine blk_alloc ?_ _)); exact BK143.out) hb); have n12_ := Aside0.mk (blk_below (g := gb151) (o := .cells #[.slice Ao30 t144.length co30, .slice Ao33 t147.length co33] 25 (0, 0)) (by (with_reducible repeat (first | refine blk_drewN ?_ _ | refine blk_drew ?_ | refine blk_alloc ?_ _)); exact BK151.out) hb); have n13_ := Aside0.mk (blk_below (g := gb159) (o := .cells #[.slice Ao36 t152.length co36, .slice Ao40 t155.length co40] 25 (0, 0)) (by (with_reducible repeat (first | refine blk_drewN ?_ _ | refine blk_drew ?_ | refine blk_alloc ?_ _)); exact BK159.out) hb); have n14_ := Aside0.mk (below_step (by repeat (first | (with_reducible first | exact HB.out | apply below_alloc | apply pw_below_drewN | apply below_drew1 | refine below_set ?_ GE143.out | refine below_set ?_ GE151.out | refine below_set ?_ GE159.out) | exact HB.out)) hb); clear HO138; clear HO141; clear HO146; clear HO149; clear HO154; clear HO157; clear HO162; clear HO166; clear HO170; clear BK143; clear BK151; clear BK159; clear HB; have HO138 := n0_; have HO141 := n1_; have HO146 := n2_; have HO149 := n3_; have HO154 := n4_; have HO157 := n5_; have HO162 := n6_; have HO166 := n7_; have HO170 := n8_; have HO173 := n9_; have HO176 := n10_; have BK143 := n11_; have BK151 := n12_; have BK159 := n13_; have HB := n14_; clear n0_ n1_ n2_ n3_ n4_ n5_ n6_ n7_ n8_ n9_ n10_ n11_ n12_ n13_ n14_; (try clear hb); (try clear hb2); (try clear hk); (try clear hi); (try clear ho0); (try clear ho1)) | ((with_reducible refine gate_dst (N := 11) rfl ?_); (try (refine gate_guard (by rfl) ?_; dsimp only)); refine box_event ?hg (N := 11) ?hd (cs := #[.slice none 0 0, .slice none 0 0]) (t := 25) ?hr ?_; (case hd => rfl); (case hg => rfl); (case hr => first | (go_simp; done) | (go_simp; rfl)); intro gb178 hg w49 hbox hb; have n0_ := Aside0.mk (Kd.R_below (by (with_reducible repeat (first | apply Kd.R_alloc | apply Kd.R_drewN | apply Kd.R_drew)); exact HO138.out) hb); have n1_ := Aside0.mk (Kd.R_below (by (with_reducible repeat (first | apply Kd.R_alloc | apply Kd.R_drewN | apply Kd.R_drew)); exact HO141.out) hb); have n2_ := Aside0.mk (Kd.R_below (by (with_reducible repeat (first | apply Kd.R_alloc | apply Kd.R_drewN | apply Kd.R_drew)); exact HO146.out) hb); have n3_ := Aside0.mk (Kd.R_below (by (with_reducible repeat (first | apply Kd.R_alloc | apply Kd.R_drewN | apply Kd.R_drew)); exact HO149.out) hb); have n4_ := Aside0.mk (Kd.R_below (by (with_reducible repeat (first | apply Kd.R_alloc | apply Kd.R_drewN | apply Kd.R_drew)); exact HO154.out) hb); have n5_ := Aside0.mk (Kd.R_below (by (with_reducible repeat (first | apply Kd.R_alloc | apply Kd.R_drewN | apply Kd.R_drew)); exact HO157.out) hb); have n6_ := Aside0.mk (Kd.R_below (by (with_reducible repeat (first | apply Kd.R_alloc | apply Kd.R_drewN | apply Kd.R_drew)); exact HO162.out) hb); have n7_ := Aside0.mk (Kd.R_below (by (with_reducible repeat (first | apply Kd.R_alloc | apply Kd.R_drewN | apply Kd.R_drew)); exact HO166.out) hb); have n8_ := Aside0.mk (Kd.R_below (by (with_reducible repeat (first | apply Kd.R_alloc | apply Kd.R_drewN | apply Kd.R_drew)); exact HO170.out) hb); have n9_ := Aside0.mk (Kd.R_below (by (with_reducible repeat (first | apply Kd.R_alloc | apply Kd.R_drewN | apply Kd.R_drew)); exact HO173.out) hb); have n10_ := Aside0.mk (Kd.R_below (by (with_reducible repeat (first | apply Kd.R_alloc | apply Kd.R_drewN | apply Kd.R_drew)); exact HO176.out) hb); have n11_ := Aside0.mk (blk_below (g := gb143) (o := .cells #[.slice Ao25 t136.length co25, .slice Ao27 t139.length co27] 25 (0, 0)) (by (with_reducible repeat (first | refine blk_drewN ?_ _ | refine blk_drew ?_ | refine blk_alloc ?_ _)); exact BK143.out) hb); have n12_ := Aside0.mk (blk_below (g := gb151) (o := .cells #[.slice Ao30 t144.length co30, .slice Ao33 t147.length co33] 25 (0, 0)) (by (with_reducible repeat (first | refine blk_drewN ?_ _ | refine blk_drew ?_ | refine blk_alloc ?_ _)); exact BK151.out) hb); have n13_ := Aside0.mk (blk_below (g := gb159) (o := .cells #[.slice Ao36 t152.length co36, .slice Ao40 t155.length co40] 25 (0, 0)) (by (with_reducible repeat (first | refine blk_drewN ?_ _ | refine blk_drew ?_ | refine blk_alloc ?_ _)); exact BK159.out) hb); have n14_ := Aside0.mk (below_step (by repeat (first | (with_reducible first | exact HB.out | apply below_alloc | apply pw_below_drewN | apply below_drew1 | refine below_set ?_ GE143.out | refine below_set ?_ GE151.out | refine below_set ?_ GE159.out) | exact HB.out)) hb); have n15_ := Aside0.mk (hbox); have n16_ := Aside0.mk ((by rw [hg]; exact (below_size (by repeat (first | (with_reducible first | exact HB.out | apply below_alloc | apply pw_below_drewN | apply below_drew1 | refine below_set ?_ GE143.out | refine below_set ?_ GE151.out | refine below_set ?_ GE159.out) | exact HB.out))) : w.heap.size ≤ gb178)); have n17_ := Aside0.mk ((by rw [hg]; exact (below_size (by repeat (first | (with_reducible first | exact HB.out | apply below_alloc | apply pw_below_drewN | apply below_drew1 | refine below_set ?_ GE143.out | refine below_set ?_ GE151.out | refine below_set ?_ GE159.out) | exact HB.out))) : w.heap.size ≤ gb178)); have n18_ := Aside0.mk ((by rw [hg]; exact Nat.ne_of_lt (blk_lt (g := gb143) (o := .cells #[.slice Ao25 t136.length co25, .slice Ao27 t139.length co27] 25 (0, 0)) (by (with_reducible repeat (first | refine blk_drewN ?_ _ | refine blk_drew ?_ | refine blk_alloc ?_ _)); exact BK143.out)) : gb143 ≠ gb178)); have n19_ := Aside0.mk ((by rw [hg]; exact Nat.ne_of_gt (blk_lt (g := gb143) (o := .cells #[.slice Ao25 t136.length co25, .slice Ao27 t139.length co27] 25 (0, 0)) (by (with_reducible repeat (first | refine blk_drewN ?_ _ | refine blk_drew ?_ | refine blk_alloc ?_ _)); exact BK143.out)) : gb178 ≠ gb143)); have n20_ := Aside0.mk ((by rw [hg]; exact Nat.ne_of_lt (blk_lt (g := gb151) (o := .cells #[.slice Ao30 t144.length co30, .slice Ao33 t147.length co33] 25 (0, 0)) (by (with_reducible repeat (first | refine blk_drewN ?_ _ | refine blk_drew ?_ | refine blk_alloc ?_ _)); exact BK151.out)) : gb151 ≠ gb178)); have n21_ := Aside0.mk ((by rw [hg]; exact Nat.ne_of_gt (blk_lt (g := gb151) (o := .cells #[.slice Ao30 t144.length co30, .slice Ao33 t147.length co33] 25 (0, 0)) (by (with_reducible repeat (first | refine blk_drewN ?_ _ | refine blk_drew ?_ | refine blk_alloc ?_ _)); exact BK151.out)) : gb178 ≠ gb151)); have n22_ := Aside0.mk ((by rw [hg]; exact Nat.ne_of_lt (blk_lt (g := gb159) (o := .cells #[.slice Ao36 t152.length co36, .slice Ao40 t155.length co40] 25 (0, 0)) (by (with_reducible repeat (first | refine blk_drewN ?_ _ | refine blk_drew ?_ | refine blk_alloc ?_ _)); exact BK159.out)) : gb159 ≠ gb178)); have n23_ := Aside0.mk ((by rw [hg]; exact Nat.ne_of_gt (blk_lt (g := gb159) (o := .cells #[.slice Ao36 t152.length co36, .slice Ao40 t155.length co40] 25 (0, 0)) (by (with_reducible repeat (first | refine blk_drewN ?_ _ | refine blk_drew ?_ | refine blk_alloc ?_ _)); exact BK159.out)) : gb178 ≠ gb159)); clear HO138; clear HO141; clear HO146; clear HO149; clear HO154; clear HO157; clear HO162; clear HO166; clear HO170; clear HO173; clear HO176; clear BK143; clear BK151; clear BK159; clear HB; have HO138 := n0_; have HO141 := n1_; have HO146 := n2_; have HO149 := n3_; have HO154 := n4_; have HO157 := n5_; have HO162 := n6_; have HO166 := n7_; have HO170 := n8_; have HO173 := n9_; have HO176 := n10_; have BK143 := n11_; have BK151 := n12_; have BK159 := n13_; have HB := n14_; have BK178 := n15_; have GW178 := n16_; have GE178 := n17_; have NB143_178 := n18_; have NB178_143 := n19_; have NB151_178 := n20_; have NB178_151 := n21_; have NB159_178 := n22_; have NB178_159 := n23_; clear n0_ n1_ n2_ n3_ n4_ n5_ n6_ n7_ n8_ n9_ n10_ n11_ n12_ n13_ n14_ n15_ n16_ n17_ n18_ n19_ n20_ n21_ n22_ n23_; clear hb hbox hg; obtain ⟨Ao50, co50, eo50⟩ := Kd.R_slice HO173.out; subst eo50; have hnb51 := NB178_143.out; have hnc51 := NB143_178.out; have hnb52 := NB178_151.out; have hnc52 := NB151_178.out; have hnb53 := NB178_159.out; have hnc53 := NB159_178.out; have hcz54_0 : w49.cell? ⟨gb178, 0, none⟩ = some (.slice none 0 0) := (blk_cell BK178.out 0).trans rfl; have hcz54_1 : w49.cell? ⟨gb178, 1, none⟩ = some (.slice none 0 0) := (blk_cell BK178.out 1).trans rfl; have hfz54_0 := blk_frozen BK178.out 0; have hfz54_1 := blk_frozen BK178.out 1; obtain ⟨Ao55, co55, eo55⟩ := Kd.R_slice HO176.out; subst eo55) | ((with_reducible refine gate_callee (f := 29) rfl ?_); refine goesL_ (some 51) rfl rfl Try.func29 (by kernel_rfl) rfl #[.agg #[.slice Ao50 t171.length co50, .slice Ao55 t174.length co55], .int .i64 2, .int .i64 1] rfl (by (try simp only [List.map_toArray, List.map_cons, List.map_nil]); first | done | rfl | (simp only [List.length_drop, List.length_take]; rfl)) ?_; (with_reducible refine (wal_Open.calls _ _ t171 _ _ t174 2 1 t179 t182 _ ?side1 ?side2 ?side3 ?side4 A7.out).mono ?_); (case side1 => refine (Kd.R_reads' (e := 9) (base := w.heap.size) (ok := fun k_ => (((((True ∧ some k_ ≠ (.slice Ao25 t136.length co25 : Value).ownBlock) ∧ some k_ ≠ (.slice Ao30 t144.length co30 : Value).ownBlock) ∧ some k_ ≠ (.slice Ao36 t152.length co36 : Value).ownBlock) ∧ some k_ ≠ (v161 : Value).ownBlock) ∧ some k_ ≠ (v165 : Value).ownBlock)) (n := t171.length) (c := co50) ?_).2.2; exact (by (with_reducible repeat (first | apply Kd.R_alloc | apply Kd.R_drewN | apply Kd.R_drew)); exact (Kd.R_mono (Kd.R_far (p := ⟨gb178, 1, none⟩) (Kd.R_far (p := ⟨gb178, 0, none⟩) (Kd.R_types HO173.out BK178.out (by decide)) (fun _ hk => hk.2) (.slice Ao50 t171.length co50)) (fun _ hk => hk.2) (.slice Ao55 t174.length co55)) (fun _ h_ => h_.1)))); (case side2 => exact (Kd.R_reads' HO173.out).2.1); (case side3 => refine (Kd.R_reads' (e := 40) (base := w.heap.size) (ok := fun k_ => (((True ∧ some k_ ≠ (.slice Ao27 t139.length co27 : Value).ownBlock) ∧ some k_ ≠ (.slice Ao33 t147.length co33 : Value).ownBlock) ∧ some k_ ≠ (.slice Ao40 t155.length co40 : Value).ownBlock)) (n := t174.length) (c := co55) ?_).2.2; exact (by (with_reducible repeat (first | apply Kd.R_alloc | apply Kd.R_drewN | apply Kd.R_drew)); exact (Kd.R_mono (Kd.R_far (p := ⟨gb178, 1, none⟩) (Kd.R_far (p := ⟨gb178, 0, none⟩) (Kd.R_types HO176.out BK178.out (by decide)) (fun _ hk => hk.2) (.slice Ao50 t171.length co50)) (fun _ hk => hk.2) (.slice Ao55 t174.length co55)) (fun _ h_ => h_.1)))); (case side4 => exact (Kd.R_reads' HO176.out).2.1); rintro e w56 ⟨v180, rfl, ho0, hb⟩; refine ⟨_, rfl, ?_⟩; have n0_ := Aside0.mk (Kd.R_elder' (by (with_reducible repeat (first | apply Kd.R_alloc | apply Kd.R_drewN | apply Kd.R_drew)); exact (Kd.R_mono (Kd.R_far (p := ⟨gb178, 1, none⟩) (Kd.R_far (p := ⟨gb178, 0, none⟩) (Kd.R_types HO138.out BK178.out (by decide)) (fun _ hk => hk.2) (.slice Ao50 t171.length co50)) (fun _ hk => hk.2) (.slice Ao55 t174.length co55)) (fun _ h_ => h_.1))) (Kd.R_base ho0) hb); have n1_ := Aside0.mk (Kd.R_below (by (with_reducible repeat (first | apply Kd.R_alloc | apply Kd.R_drewN | apply Kd.R_drew)); exact (Kd.R_mono (Kd.R_far (p := ⟨gb178, 1, none⟩) (Kd.R_far (p := ⟨gb178, 0, none⟩) (Kd.R_types HO141.out BK178.out (by decide)) (fun _ hk => hk.2) (.slice Ao50 t171.length co50)) (fun _ hk => hk.2) (.slice Ao55 t174.length co55)) (fun _ h_ => h_.1))) hb); have n2_ := Aside0.mk (Kd.R_elder' (by (with_reducible repeat (first | apply Kd.R_alloc | apply Kd.R_drewN | apply Kd.R_drew)); exact (Kd.R_mono (Kd.R_far (p := ⟨gb178, 1, none⟩) (Kd.R_far (p := ⟨gb178, 0, none⟩) (Kd.R_types HO146.out BK178.out (by decide)) (fun _ hk => hk.2) (.slice Ao50 t171.length co50)) (fun _ hk => hk.2) (.slice Ao55 t174.length co55)) (fun _ h_ => h_.1))) (Kd.R_base ho0) hb); have n3_ := Aside0.mk (Kd.R_below (by (with_reducible repeat (first | apply Kd.R_alloc | apply Kd.R_drewN | apply Kd.R_drew)); exact (Kd.R_mono (Kd.R_far (p := ⟨gb178, 1, none⟩) (Kd.R_far (p := ⟨gb178, 0, none⟩) (Kd.R_types HO149.out BK178.out (by decide)) (fun _ hk => hk.2) (.slice Ao50 t171.length co50)) (fun _ hk => hk.2) (.slice Ao55 t174.length co55)) (fun _ h_ => h_.1))) hb); have n4_ := Aside0.mk (Kd.R_elder' (by (with_reducible repeat (first | apply Kd.R_alloc | apply Kd.R_drewN | apply Kd.R_drew)); exact (Kd.R_mono (Kd.R_far (p := ⟨gb178, 1, none⟩) (Kd.R_far (p := ⟨gb178, 0, none⟩) (Kd.R_types HO154.out BK178.out (by decide)) (fun _ hk => hk.2) (.slice Ao50 t171.length co50)) (fun _ hk => hk.2) (.slice Ao55 t174.length co55)) (fun _ h_ => h_.1))) (Kd.R_base ho0) hb); have n5_ := Aside0.mk (Kd.R_below (by (with_reducible repeat (first | apply Kd.R_alloc | apply Kd.R_drewN | apply Kd.R_drew)); exact (Kd.R_mono (Kd.R_far (p := ⟨gb178, 1, none⟩) (Kd.R_far (p := ⟨gb178, 0, none⟩) (Kd.R_types HO157.out BK178.out (by decide)) (fun _ hk => hk.2) (.slice Ao50 t171.length co50)) (fun _ hk => hk.2) (.slice Ao55 t174.length co55)) (fun _ h_ => h_.1))) hb); have n6_ := Aside0.mk (Kd.R_elder' (by (with_reducible repeat (first | apply Kd.R_alloc | apply Kd.R_drewN | apply Kd.R_drew)); exact (Kd.R_mono (Kd.R_far (p := ⟨gb178, 1, none⟩) (Kd.R_far (p := ⟨gb178, 0, none⟩) (Kd.R_types HO162.out BK178.out (by decide)) (fun _ hk => hk.2) (.slice Ao50 t171.length co50)) (fun _ hk => hk.2) (.slice Ao55 t174.length co55)) (fun _ h_ => h_.1))) (Kd.R_base ho0) hb); have n7_ := Aside0.mk (Kd.R_elder' (by (with_reducible repeat (first | apply Kd.R_alloc | apply Kd.R_drewN | apply Kd.R_drew)); exact (Kd.R_mono (Kd.R_far (p := ⟨gb178, 1, none⟩) (Kd.R_far (p := ⟨gb178, 0, none⟩) (Kd.R_types HO166.out BK178.out (by decide)) (fun _ hk => hk.2) (.slice Ao50 t171.length co50)) (fun _ hk => hk.2) (.slice Ao55 t174.length co55)) (fun _ h_ => h_.1))) (Kd.R_base ho0) hb); have n8_ := Aside0.mk (Kd.R_below (by (with_reducible repeat (first | apply Kd.R_alloc | apply Kd.R_drewN | apply Kd.R_drew)); exact (Kd.R_mono (Kd.R_far (p := ⟨gb178, 1, none⟩) (Kd.R_far (p := ⟨gb178, 0, none⟩) (Kd.R_types HO170.out BK178.out (by decide)) (fun _ hk => hk.2) (.slice Ao50 t171.length co50)) (fun _ hk => hk.2) (.slice Ao55 t174.length co55)) (fun _ h_ => h_.1))) hb); have n9_ := Aside0.mk (Kd.R_elder' (by (with_reducible repeat (first | apply Kd.R_alloc | apply Kd.R_drewN | apply Kd.R_drew)); exact (Kd.R_mono (Kd.R_far (p := ⟨gb178, 1, none⟩) (Kd.R_far (p := ⟨gb178, 0, none⟩) (Kd.R_types HO173.out BK178.out (by decide)) (fun _ hk => hk.2) (.slice Ao50 t171.length co50)) (fun _ hk => hk.2) (.slice Ao55 t174.length co55)) (fun _ h_ => h_.1))) (Kd.R_base ho0) hb); have n10_ := Aside0.mk (Kd.R_below (by (with_reducible repeat (first | apply Kd.R_alloc | apply Kd.R_drewN | apply Kd.R_drew)); exact (Kd.R_mono (Kd.R_far (p := ⟨gb178, 1, none⟩) (Kd.R_far (p := ⟨gb178, 0, none⟩) (Kd.R_types HO176.out BK178.out (by decide)) (fun _ hk => hk.2) (.slice Ao50 t171.length co50)) (fun _ hk => hk.2) (.slice Ao55 t174.length co55)) (fun _ h_ => h_.1))) hb); have n11_ := Aside0.mk (Kd.R_lower (Kd.R_new' (Kd.R_new' (Kd.R_new' (Kd.R_new' (Kd.R_new' (Kd.R_new' ho0 (Kd.R_lt (by (with_reducible repeat (first | apply Kd.R_alloc | apply Kd.R_drewN | apply Kd.R_drew)); exact (Kd.R_mono (Kd.R_far (p := ⟨gb178, 1, none⟩) (Kd.R_far (p := ⟨gb178, 0, none⟩) (Kd.R_types HO138.out BK178.out (by decide)) (fun _ hk => hk.2) (.slice Ao50 t171.length co50)) (fun _ hk => hk.2) (.slice Ao55 t174.length co55)) (fun _ h_ => h_.1))))) (Kd.R_lt (by (with_reducible repeat (first | apply Kd.R_alloc | apply Kd.R_drewN | apply Kd.R_drew)); exact (Kd.R_mono (Kd.R_far (p := ⟨gb178, 1, none⟩) (Kd.R_far (p := ⟨gb178, 0, none⟩) (Kd.R_types HO146.out BK178.out (by decide)) (fun _ hk => hk.2) (.slice Ao50 t171.length co50)) (fun _ hk => hk.2) (.slice Ao55 t174.length co55)) (fun _ h_ => h_.1))))) (Kd.R_lt (by (with_reducible repeat (first | apply Kd.R_alloc | apply Kd.R_drewN | apply Kd.R_drew)); exact (Kd.R_mono (Kd.R_far (p := ⟨gb178, 1, none⟩) (Kd.R_far (p := ⟨gb178, 0, none⟩) (Kd.R_types HO154.out BK178.out (by decide)) (fun _ hk => hk.2) (.slice Ao50 t171.length co50)) (fun _ hk => hk.2) (.slice Ao55 t174.length co55)) (fun _ h_ => h_.1))))) (Kd.R_lt (by (with_reducible repeat (first | apply Kd.R_alloc | apply Kd.R_drewN | apply Kd.R_drew)); exact (Kd.R_mono (Kd.R_far (p := ⟨gb178, 1, none⟩) (Kd.R_far (p := ⟨gb178, 0, none⟩) (Kd.R_types HO162.out BK178.out (by decide)) (fun _ hk => hk.2) (.slice Ao50 t171.length co50)) (fun _ hk => hk.2) (.slice Ao55 t174.length co55)) (fun _ h_ => h_.1))))) (Kd.R_lt (by (with_reducible repeat (first | apply Kd.R_alloc | apply Kd.R_drewN | apply Kd.R_drew)); exact (Kd.R_mono (Kd.R_far (p := ⟨gb178, 1, none⟩) (Kd.R_far (p := ⟨gb178, 0, none⟩) (Kd.R_types HO166.out BK178.out (by decide)) (fun _ hk => hk.2) (.slice Ao50 t171.length co50)) (fun _ hk => hk.2) (.slice Ao55 t174.length co55)) (fun _ h_ => h_.1))))) (Kd.R_lt (by (with_reducible repeat (first | apply Kd.R_alloc | apply Kd.R_drewN | apply Kd.R_drew)); exact (Kd.R_mono (Kd.R_far (p := ⟨gb178, 1, none⟩) (Kd.R_far (p := ⟨gb178, 0, none⟩) (Kd.R_types HO173.out BK178.out (by decide)) (fun _ hk => hk.2) (.slice Ao50 t171.length co50)) (fun _ hk => hk.2) (.slice Ao55 t174.length co55)) (fun _ h_ => h_.1))))) (below_size (by repeat (first | (with_reducible first | exact HB.out | apply below_alloc | apply pw_below_drewN | apply below_drew1 | refine below_set ?_ GE143.out | refine below_set ?_ GE151.out | refine below_set ?_ GE159.out | refine below_set ?_ GE178.out) | exact HB.out)))); have n12_ := Aside0.mk (blk_below (g := gb143) (o := .cells #[.slice Ao25 t136.length co25, .slice Ao27 t139.length co27] 25 (0, 0)) (by (with_reducible repeat (first | refine blk_drewN ?_ _ | refine blk_drew ?_ | refine blk_alloc ?_ _)); refine blk_far ?_ NB143_178.out _; (with_reducible repeat (first | refine blk_drewN ?_ _ | refine blk_drew ?_ | refine blk_alloc ?_ _)); refine blk_far ?_ NB143_178.out _; (with_reducible repeat (first | refine blk_drewN ?_ _ | refine blk_drew ?_ | refine blk_alloc ?_ _)); exact BK143.out) hb); have n13_ := Aside0.mk (blk_below (g := gb151) (o := .cells #[.slice Ao30 t144.length co30, .slice Ao33 t147.length co33] 25 (0, 0)) (by (with_reducible repeat (first | refine blk_drewN ?_ _ | refine blk_drew ?_ | refine blk_alloc ?_ _)); refine blk_far ?_ NB151_178.out _; (with_reducible repeat (first | refine blk_drewN ?_ _ | refine blk_drew ?_ | refine blk_alloc ?_ _)); refine blk_far ?_ NB151_178.out _; (with_reducible repeat (first | refine blk_drewN ?_ _ | refine blk_drew ?_ | refine blk_alloc ?_ _)); exact BK151.out) hb); have n14_ := Aside0.mk (blk_below (g := gb159) (o := .cells #[.slice Ao36 t152.length co36, .slice Ao40 t155.length co40] 25 (0, 0)) (by (with_reducible repeat (first | refine blk_drewN ?_ _ | refine blk_drew ?_ | refine blk_alloc ?_ _)); refine blk_far ?_ NB159_178.out _; (with_reducible repeat (first | refine blk_drewN ?_ _ | refine blk_drew ?_ | refine blk_alloc ?_ _)); refine blk_far ?_ NB159_178.out _; (with_reducible repeat (first | refine blk_drewN ?_ _ | refine blk_drew ?_ | refine blk_alloc ?_ _)); exact BK159.out) hb); have n15_ := Aside0.mk (blk_below (g := gb178) (o := .cells #[.slice Ao50 t171.length co50, .slice Ao55 t174.length co55] 25 (0, 0)) (by (with_reducible repeat (first | refine blk_drewN ?_ _ | refine blk_drew ?_ | refine blk_alloc ?_ _)); refine blk_put (cs := #[.slice Ao50 t171.length co50, .slice none 0 0]) ?_ 1 _ rfl; (with_reducible repeat (first | refine blk_drewN ?_ _ | refine blk_drew ?_ | refine blk_alloc ?_ _)); refine blk_put (cs := #[.slice none 0 0, .slice none 0 0]) ?_ 0 _ rfl; (with_reducible repeat (first | refine blk_drewN ?_ _ | refine blk_drew ?_ | refine blk_alloc ?_ _)); exact BK178.out) hb); have n16_ := Aside0.mk (below_step (by repeat (first | (with_reducible first | exact HB.out | apply below_alloc | apply pw_below_drewN | apply below_drew1 | refine below_set ?_ GE143.out | refine below_set ?_ GE151.out | refine below_set ?_ GE159.out | refine below_set ?_ GE178.out) | exact HB.out)) hb); clear HO138; clear HO141; clear HO146; clear HO149; clear HO154; clear HO157; clear HO162; clear HO166; clear HO170; clear HO173; clear HO176; clear BK143; clear BK151; clear BK159; clear BK178; clear HB; have HO138 := n0_; have HO141 := n1_; have HO146 := n2_; have HO149 := n3_; have HO154 := n4_; have HO157 := n5_; have HO162 := n6_; have HO166 := n7_; have HO170 := n8_; have HO173 := n9_; have HO176 := n10_; have HO181 := n11_; have BK143 := n12_; have BK151 := n13_; have BK159 := n14_; have BK178 := n15_; have HB := n16_; clear n0_ n1_ n2_ n3_ n4_ n5_ n6_ n7_ n8_ n9_ n10_ n11_ n12_ n13_ n14_ n15_ n16_; (try clear hb); (try clear hb2); (try clear hk); (try clear hi); (try clear ho0); have hcz57_0 : w56.cell? ⟨gb159, 0, none⟩ = some (.slice Ao36 t152.length co36) := (blk_cell BK159.out 0).trans rfl; have hcz57_1 : w56.cell? ⟨gb159, 1, none⟩ = some (.slice Ao40 t155.length co40) := (blk_cell BK159.out 1).trans rfl; have hfz57_0 := blk_frozen BK159.out 0; have hfz57_1 := blk_frozen BK159.out 1) | ((with_reducible refine gate_callee (f := 35) rfl ?_); refine goesL_ (some 56) rfl rfl Try.func35 (by kernel_rfl) rfl #[.agg #[.slice Ao36 t152.length co36, .slice Ao40 t155.length co40], .int .i64 2, .int .i64 1] rfl (by (try simp only [List.map_toArray, List.map_cons, List.map_nil]); first | done | rfl | (simp only [List.length_drop, List.length_take]; rfl)) ?_; (with_reducible refine (wal_Room.calls _ _ t152 _ _ t155 2 1 t183 t184 _ ?side1 ?side2 ?side3 ?side4 A8.out).mono ?_); (case side1 => repeat (first | exact (Kd.R_reads' HO154.out).2.2 | (with_reducible refine Kd.C_alloc ?_ _) | (with_reducible refine Kd.C_drewN ?_ _) | (with_reducible refine Kd.C_drew ?_))); (case side2 => exact (Kd.R_reads' HO154.out).2.1); (case side3 => repeat (first | exact (Kd.R_reads' HO157.out).2.2 | (with_reducible refine Kd.C_alloc ?_ _) | (with_reducible refine Kd.C_drewN ?_ _) | (with_reducible refine Kd.C_drew ?_))); (case side4 => exact (Kd.R_reads' HO157.out).2.1); rintro e w58 ⟨rfl, hb⟩; refine ⟨_, rfl, ?_⟩; have n0_ := Aside0.mk (Kd.R_below (by (with_reducible repeat (first | apply Kd.R_alloc | apply Kd.R_drewN | apply Kd.R_drew)); exact HO138.out) hb); have n1_ := Aside0.mk (Kd.R_below (by (with_reducible repeat (first | apply Kd.R_alloc | apply Kd.R_drewN | apply Kd.R_drew)); exact HO141.out) hb); have n2_ := Aside0.mk (Kd.R_below (by (with_reducible repeat (first | apply Kd.R_alloc | apply Kd.R_drewN | apply Kd.R_drew)); exact HO146.out) hb); have n3_ := Aside0.mk (Kd.R_below (by (with_reducible repeat (first | apply Kd.R_alloc | apply Kd.R_drewN | apply Kd.R_drew)); exact HO149.out) hb); have n4_ := Aside0.mk (Kd.R_below (by (with_reducible repeat (first | apply Kd.R_alloc | apply Kd.R_drewN | apply Kd.R_drew)); exact HO154.out) hb); have n5_ := Aside0.mk (Kd.R_below (by (with_reducible repeat (first | apply Kd.R_alloc | apply Kd.R_drewN | apply Kd.R_drew)); exact HO157.out) hb); have n6_ := Aside0.mk (Kd.R_below (by (with_reducible repeat (first | apply Kd.R_alloc | apply Kd.R_drewN | apply Kd.R_drew)); exact HO162.out) hb); have n7_ := Aside0.mk (Kd.R_below (by (with_reducible repeat (first | apply Kd.R_alloc | apply Kd.R_drewN | apply Kd.R_drew)); exact HO166.out) hb); have n8_ := Aside0.mk (Kd.R_below (by (with_reducible repeat (first | apply Kd.R_alloc | apply Kd.R_drewN | apply Kd.R_drew)); exact HO170.out) hb); have n9_ := Aside0.mk (Kd.R_below (by (with_reducible repeat (first | apply Kd.R_alloc | apply Kd.R_drewN | apply Kd.R_drew)); exact HO173.out) hb); have n10_ := Aside0.mk (Kd.R_below (by (with_reducible repeat (first | apply Kd.R_alloc | apply Kd.R_drewN | apply Kd.R_drew)); exact HO176.out) hb); have n11_ := Aside0.mk (Kd.R_below (by (with_reducible repeat (first | apply Kd.R_alloc | apply Kd.R_drewN | apply Kd.R_drew)); exact HO181.out) hb); have n12_ := Aside0.mk (blk_below (g := gb143) (o := .cells #[.slice Ao25 t136.length co25, .slice Ao27 t139.length co27] 25 (0, 0)) (by (with_reducible repeat (first | refine blk_drewN ?_ _ | refine blk_drew ?_ | refine blk_alloc ?_ _)); exact BK143.out) hb); have n13_ := Aside0.mk (blk_below (g := gb151) (o := .cells #[.slice Ao30 t144.length co30, .slice Ao33 t147.length co33] 25 (0, 0)) (by (with_reducible repeat (first | refine blk_drewN ?_ _ | refine blk_drew ?_ | refine blk_alloc ?_ _)); exact BK151.out) hb); have n14_ := Aside0.mk (blk_below (g := gb159) (o := .cells #[.slice Ao36 t152.length co36, .slice Ao40 t155.length co40] 25 (0, 0)) (by (with_reducible repeat (first | refine blk_drewN ?_ _ | refine blk_drew ?_ | refine blk_alloc ?_ _)); exact BK159.out) hb); have n15_ := Aside0.mk (blk_below (g := gb178) (o := .cells #[.slice Ao50 t171.length co50, .slice Ao55 t174.length co55] 25 (0, 0)) (by (with_reducible repeat (first | refine blk_drewN ?_ _ | refine blk_drew ?_ | refine blk_alloc ?_ _)); exact BK178.out) hb); have n16_ := Aside0.mk (below_step (by repeat (first | (with_reducible first | exact HB.out | apply below_alloc | apply pw_below_drewN | apply below_drew1 | refine below_set ?_ GE143.out | refine below_set ?_ GE151.out | refine below_set ?_ GE159.out | refine below_set ?_ GE178.out) | exact HB.out)) hb); clear HO138; clear HO141; clear HO146; clear HO149; clear HO154; clear HO157; clear HO162; clear HO166; clear HO170; clear HO173; clear HO176; clear HO181; clear BK143; clear BK151; clear BK159; clear BK178; clear HB; have HO138 := n0_; have HO141 := n1_; have HO146 := n2_; have HO149 := n3_; have HO154 := n4_; have HO157 := n5_; have HO162 := n6_; have HO166 := n7_; have HO170 := n8_; have HO173 := n9_; have HO176 := n10_; have HO181 := n11_; have BK143 := n12_; have BK151 := n13_; have BK159 := n14_; have BK178 := n15_; have HB := n16_; clear n0_ n1_ n2_ n3_ n4_ n5_ n6_ n7_ n8_ n9_ n10_ n11_ n12_ n13_ n14_ n15_ n16_; (try clear hb); (try clear hb2); (try clear hk); (try clear hi); have hcz59_0 : w58.cell? ⟨gb159, 0, none⟩ = some (.slice Ao36 t152.length co36) := (blk_cell BK159.out 0).trans rfl; have hcz59_1 : w58.cell? ⟨gb159, 1, none⟩ = some (.slice Ao40 t155.length co40) := (blk_cell BK159.out 1).trans rfl; have hfz59_0 := blk_frozen BK159.out 0; have hfz59_1 := blk_frozen BK159.out 1) | ((with_reducible refine gate_callee (f := 29) rfl ?_); refine goesL_ (some 61) rfl rfl Try.func29 (by kernel_rfl) rfl #[.agg #[.slice Ao36 t152.length co36, .slice Ao40 t155.length co40], .int .i64 5, .int .i64 1] rfl (by (try simp only [List.map_toArray, List.map_cons, List.map_nil]); first | done | rfl | (simp only [List.length_drop, List.length_take]; rfl)) ?_; (with_reducible refine (wal_Open.calls _ _ t152 _ _ t155 5 1 t185 t188 _ ?side1 ?side2 ?side3 ?side4 A9.out).mono ?_); (case side1 => repeat (first | exact (Kd.R_reads' HO154.out).2.2 | (with_reducible refine Kd.C_alloc ?_ _) | (with_reducible refine Kd.C_drewN ?_ _) | (with_reducible refine Kd.C_drew ?_))); (case side2 => exact (Kd.R_reads' HO154.out).2.1); (case side3 => repeat (first | exact (Kd.R_reads' HO157.out).2.2 | (with_reducible refine Kd.C_alloc ?_ _) | (with_reducible refine Kd.C_drewN ?_ _) | (with_reducible refine Kd.C_drew ?_))); (case side4 => exact (Kd.R_reads' HO157.out).2.1); rintro e w60 ⟨v186, rfl, ho0, hb⟩; refine ⟨_, rfl, ?_⟩; have n0_ := Aside0.mk (Kd.R_elder' (by (with_reducible repeat (first | apply Kd.R_alloc | apply Kd.R_drewN | apply Kd.R_drew)); exact HO138.out) (Kd.R_base ho0) hb); have n1_ := Aside0.mk (Kd.R_below (by (with_reducible repeat (first | apply Kd.R_alloc | apply Kd.R_drewN | apply Kd.R_drew)); exact HO141.out) hb); have n2_ := Aside0.mk (Kd.R_elder' (by (with_reducible repeat (first | apply Kd.R_alloc | apply Kd.R_drewN | apply Kd.R_drew)); exact HO146.out) (Kd.R_base ho0) hb); have n3_ := Aside0.mk (Kd.R_below (by (with_reducible repeat (first | apply Kd.R_alloc | apply Kd.R_drewN | apply Kd.R_drew)); exact HO149.out) hb); have n4_ := Aside0.mk (Kd.R_elder' (by (with_reducible repeat (first | apply Kd.R_alloc | apply Kd.R_drewN | apply Kd.R_drew)); exact HO154.out) (Kd.R_base ho0) hb); have n5_ := Aside0.mk (Kd.R_below (by (with_reducible repeat (first | apply Kd.R_alloc | apply Kd.R_drewN | apply Kd.R_drew)); exact HO157.out) hb); have n6_ := Aside0.mk (Kd.R_elder' (by (with_reducible repeat (first | apply Kd.R_alloc | apply Kd.R_drewN | apply Kd.R_drew)); exact HO162.out) (Kd.R_base ho0) hb); have n7_ := Aside0.mk (Kd.R_elder' (by (with_reducible repeat (first | apply Kd.R_alloc | apply Kd.R_drewN | apply Kd.R_drew)); exact HO166.out) (Kd.R_base ho0) hb); have n8_ := Aside0.mk (Kd.R_below (by (with_reducible repeat (first | apply Kd.R_alloc | apply Kd.R_drewN | apply Kd.R_drew)); exact HO170.out) hb); have n9_ := Aside0.mk (Kd.R_elder' (by (with_reducible repeat (first | apply Kd.R_alloc | apply Kd.R_drewN | apply Kd.R_drew)); exact HO173.out) (Kd.R_base ho0) hb); have n10_ := Aside0.mk (Kd.R_below (by (with_reducible repeat (first | apply Kd.R_alloc | apply Kd.R_drewN | apply Kd.R_drew)); exact HO176.out) hb); have n11_ := Aside0.mk (Kd.R_elder' (by (with_reducible repeat (first | apply Kd.R_alloc | apply Kd.R_drewN | apply Kd.R_drew)); exact HO181.out) (Kd.R_base ho0) hb); have n12_ := Aside0.mk (Kd.R_lower (Kd.R_new' (Kd.R_new' (Kd.R_new' (Kd.R_new' (Kd.R_new' (Kd.R_new' (Kd.R_new' ho0 (Kd.R_lt (by (with_reducible repeat (first | apply Kd.R_alloc | apply Kd.R_drewN | apply Kd.R_drew)); exact HO138.out))) (Kd.R_lt (by (with_reducible repeat (first | apply Kd.R_alloc | apply Kd.R_drewN | apply Kd.R_drew)); exact HO146.out))) (Kd.R_lt (by (with_reducible repeat (first | apply Kd.R_alloc | apply Kd.R_drewN | apply Kd.R_drew)); exact HO154.out))) (Kd.R_lt (by (with_reducible repeat (first | apply Kd.R_alloc | apply Kd.R_drewN | apply Kd.R_drew)); exact HO162.out))) (Kd.R_lt (by (with_reducible repeat (first | apply Kd.R_alloc | apply Kd.R_drewN | apply Kd.R_drew)); exact HO166.out))) (Kd.R_lt (by (with_reducible repeat (first | apply Kd.R_alloc | apply Kd.R_drewN | apply Kd.R_drew)); exact HO173.out))) (Kd.R_lt (by (with_reducible repeat (first | apply Kd.R_alloc | apply Kd.R_drewN | apply Kd.R_drew)); exact HO181.out))) (below_size (by repeat (first | (with_reducible first | exact HB.out | apply below_alloc | apply pw_below_drewN | apply below_drew1 | refine below_set ?_ GE143.out | refine below_set ?_ GE151.out | refine below_set ?_ GE159.out | refine below_set ?_ GE178.out) | exact HB.out)))); have n13_ := Aside0.mk (blk_below (g := gb143) (o := .cells #[.slice Ao25 t136.length co25, .slice Ao27 t139.length co27] 25 (0, 0)) (by (with_reducible repeat (first | refine blk_drewN ?_ _ | refine blk_drew ?_ | refine blk_alloc ?_ _)); exact BK143.out) hb); have n14_ := Aside0.mk (blk_below (g := gb151) (o := .cells #[.slice Ao30 t144.length co30, .slice Ao33 t147.length co33] 25 (0, 0)) (by (with_reducible repeat (first | refine blk_drewN ?_ _ | refine blk_drew ?_ | refine blk_alloc ?_ _)); exact BK151.out) hb); have n15_ := Aside0.mk (blk_below (g := gb159) (o := .cells #[.slice Ao36 t152.length co36, .slice Ao40 t155.length co40] 25 (0, 0)) (by (with_reducible repeat (first | refine blk_drewN ?_ _ | refine blk_drew ?_ | refine blk_alloc ?_ _)); exact BK159.out) hb); have n16_ := Aside0.mk (blk_below (g := gb178) (o := .cells #[.slice Ao50 t171.length co50, .slice Ao55 t174.length co55] 25 (0, 0)) (by (with_reducible repeat (first | refine blk_drewN ?_ _ | refine blk_drew ?_ | refine blk_alloc ?_ _)); exact BK178.out) hb); have n17_ := Aside0.mk (below_step (by repeat (first | (with_reducible first | exact HB.out | apply below_alloc | apply pw_below_drewN | apply below_drew1 | refine below_set ?_ GE143.out | refine below_set ?_ GE151.out | refine below_set ?_ GE159.out | refine below_set ?_ GE178.out) | exact HB.out)) hb); clear HO138; clear HO141; clear HO146; clear HO149; clear HO154; clear HO157; clear HO162; clear HO166; clear HO170; clear HO173; clear HO176; clear HO181; clear BK143; clear BK151; clear BK159; clear BK178; clear HB; have HO138 := n0_; have HO141 := n1_; have HO146 := n2_; have HO149 := n3_; have HO154 := n4_; have HO157 := n5_; have HO162 := n6_; have HO166 := n7_; have HO170 := n8_; have HO173 := n9_; have HO176 := n10_; have HO181 := n11_; have HO187 := n12_; have BK143 := n13_; have BK151 := n14_; have BK159 := n15_; have BK178 := n16_; have HB := n17_; clear n0_ n1_ n2_ n3_ n4_ n5_ n6_ n7_ n8_ n9_ n10_ n11_ n12_ n13_ n14_ n15_ n16_ n17_; (try clear hb); (try clear hb2); (try clear hk); (try clear hi); (try clear ho0)) | (go_at_call 38; (obtain ⟨Ao63, co63, eo63⟩ := Kd.R_slice HO162.out; subst eo63; refine (sextonref01_Texts.calls k _ _ t160 _ 2 [⟨#[97]⟩, ⟨#[98]⟩] true _ (by repeat (first | exact (Kd.R_reads' HO162.out).2.2 | (with_reducible refine Kd.C_alloc ?_ _) | (with_reducible refine Kd.C_drewN ?_ _) | (with_reducible refine Kd.C_drew ?_))) (Kd.R_reads' HO162.out).2.1 ?lit (by simp) (by rw [← Ny189.out]; exact A14.out)).mono ?_; (case lit => exact lit_S [⟨#[97]⟩, ⟨#[98]⟩] _ _ (by first | rfl | simp [World.setCell]) (by decide)); rintro e w' ⟨rfl, ⟨nd, rfl⟩⟩; obtain ⟨Ao65, co65, eo65⟩ := Kd.R_slice HO166.out; subst eo65; obtain ⟨Ao66, co66, eo66⟩ := Kd.R_slice HO181.out; subst eo66)))
                          go_ret
                          exact ⟨by first | rfl | (simp [errW_none, errW_some] <;> rfl) | (simp [*, errW_none, errW_some] <;> rfl), by repeat (first | (with_reducible first | exact HB.out | apply below_alloc | apply pw_below_drewN | apply below_drew1 | refine below_set ?_ GE143.out | refine below_set ?_ GE151.out | refine below_set ?_ GE159.out | refine below_set ?_ GE178.out) | exact HB.out)⟩
                        · rw [if_neg c22] at H
                          exact absurd (H.trans (congrArg some HRT.out)) (by decide)
                      · rw [if_neg c21] at H
                        exact absurd (H.trans (congrArg some HRT.out)) (by decide)
                    · rw [if_neg c20] at H
                      exact absurd (H.trans (congrArg some HRT.out)) (by decide)
                  · rw [if_neg c19] at H
                    exact absurd (H.trans (congrArg some HRT.out)) (by decide)
                · rw [if_neg c18] at H
                  exact absurd (H.trans (congrArg some HRT.out)) (by decide)
              · rw [if_neg c17] at H
                exact absurd (H.trans (congrArg some HRT.out)) (by decide)
            · rw [if_neg c16] at H
              exact absurd (H.trans (congrArg some HRT.out)) (by decide)
          · replace c15 := Bool.eq_false_iff.mpr c15
            subst c15
            have H1 : (some false) = some r := by rw [if_neg (show ¬ (false = true) by decide)] at H; exact H
            exact absurd (H1.trans (congrArg some HRT.out)) (by decide)
        · rw [if_neg c13] at H
          exact absurd (H.trans (congrArg some HRT.out)) (by decide)
      · rw [if_neg c12] at H
        exact absurd (H.trans (congrArg some HRT.out)) (by decide)
    · rw [if_neg c11] at H
      exact absurd (H.trans (congrArg some HRT.out)) (by decide)
  · rw [if_neg c10] at H
    exact absurd (H.trans (congrArg some HRT.out)) (by decide)

/-- THE ONE PURE STATEMENT of sextonlaw07_loggedP: yours. -/

theorem sextonlaw07_loggedP_true : sextonlaw07_loggedP.f 60 = some true := by decide +kernel
/-- What it answers. -/
def sextonlaw07_logged.f : Option Bool := some true
theorem sextonlaw07_logged.calls (r : Bool) (w : World) (h : sextonlaw07_logged.f = some r) :
    Calls Try.prog 37 #[] w fun e w' => e = .returned (.bool r) ∧ Below w.heap.size w w' := by
  obtain rfl := Option.some.inj h
  exact sextonlaw07_loggedP.calls 60 true (w := w) (h := sextonlaw07_loggedP_true)
end Go.Proofs.Ytoibofhmlokglaa.P
/-
  What a crash leaves, plainly.
-/
namespace Go.Proofs.Ytoibofhmlokglaa.P
open Go.RowKit Go.Proofs.YtoibofhmlokglaaW.PrintWords Go.Proofs.YtoibofhmlokglaaW.PrintLast Go.Proofs.Plain

theorem apply_from (p : Int → Bool) : ∀ (l : List S40) (i : Nat) (b : List ByteArray) (k : Nat), k < b.length →
    (applyW p i l b)[k]? = b[k]? ∨ ∃ x ∈ l, x.f0.toNat = k ∧ (applyW p i l b)[k]? = some x.f1
  | [], i, b, k, h => .inl rfl
  | y :: l, i, b, k, h => by
    simp only [applyW]
    by_cases hp : p (i : Int) = true
    · rw [if_pos hp]
      rcases apply_from p l (i + 1) (b.set y.f0.toNat y.f1) k (by simpa using h) with h1 | ⟨x, hx, h2, h3⟩
      · by_cases hk : y.f0.toNat = k
        · right
          refine ⟨y, List.mem_cons_self, hk, ?_⟩
          rw [h1, List.getElem?_set, if_pos hk, if_pos (by omega)]
        · left
          rw [h1, List.getElem?_set, if_neg hk]
      · exact .inr ⟨x, List.mem_cons_of_mem _ hx, h2, h3⟩
    · rw [if_neg hp]
      rcases apply_from p l (i + 1) b k h with h1 | ⟨x, hx, h2, h3⟩
      · exact .inl h1
      · exact .inr ⟨x, List.mem_cons_of_mem _ hx, h2, h3⟩


theorem crash_parts (p : Int → Bool) {l0 : List ByteArray} {l1 : List S40} (h : checkB l0 l1 = true) (k : Nat) (hk : k < (applyW p 0 l1 l0).length) (hk' : k < l0.length) :
    (applyW p 0 l1 l0)[k] = l0[k] ∨ ∃ x ∈ l1, x.f0 = (k : Int) ∧ x.f1 = (applyW p 0 l1 l0)[k] := by
  obtain ⟨_, _, _, _, hx⟩ := check_len h
  rcases apply_from p l1 0 l0 k hk' with h1 | ⟨x, hm, h2, h3⟩
  · left
    rw [List.getElem?_eq_getElem hk, List.getElem?_eq_getElem hk'] at h1
    exact Option.some.inj h1
  · right
    rw [List.getElem?_eq_getElem hk] at h3
    have := hx x hm
    exact ⟨x, hm, by omega, (Option.some.inj h3).symm⟩

theorem crash_right (p : Int → Bool) {l0 : List ByteArray} {l1 : List S40} (h : checkB l0 l1 = true) : checkB (applyW p 0 l1 l0) [] = true := by
  obtain ⟨h1, h2, h3, h4, h5⟩ := check_len h
  unfold checkB
  have hany : (applyW p 0 l1 l0).any longS = false := by
    rw [List.any_eq_false]
    intro s hs
    obtain ⟨k, hk, rfl⟩ := List.getElem_of_mem hs
    have hsz : (applyW p 0 l1 l0)[k].size ≤ 256 := by
      rcases crash_parts p h k hk (by rw [applyW_length] at hk; exact hk) with e | ⟨x, hx, _, e⟩
      · rw [e]; exact h4 _ (List.getElem_mem _)
      · rw [← e]; exact (h5 x hx).2.2
    unfold longS
    simp
    omega
  rw [hany, applyW_length]
  simp
  omega

theorem apply_congr {p q : Int → Bool} : ∀ (l : List S40) (i : Nat) (b : List ByteArray), (∀ j : Nat, i ≤ j → j < i + l.length → p (j : Int) = q (j : Int)) → applyW p i l b = applyW q i l b
  | [], i, b, _ => rfl
  | y :: l, i, b, h => by
    simp only [applyW]
    rw [h i (Nat.le_refl _) (by simp)]
    exact apply_congr l (i + 1) _ (fun j h1 h2 => h j (by omega) (by simp; omega))

theorem apply_none {p : Int → Bool} (hp : ∀ j : Nat, p (j : Int) = false) : ∀ (l : List S40) (i : Nat) (b : List ByteArray), applyW p i l b = b
  | [], i, b => rfl
  | y :: l, i, b => by
    simp only [applyW]
    rw [hp i, if_neg (by decide)]
    exact apply_none hp l (i + 1) b
end Go.Proofs.Ytoibofhmlokglaa.P
/-
  What a log's appends leave, plainly.
-/
namespace Go.Proofs.Ytoibofhmlokglaa.P
open Go.RowKit Go.Proofs Go.Proofs.CodecPlain Go.Proofs.YtoibofhmlokglaaW.PrintWords Go.Proofs.YtoibofhmlokglaaW.PrintLast Go.Proofs.Plain

theorem ba_nil_r (s : ByteArray) : s ++ (⟨#[]⟩ : ByteArray) = s := ByteArray.append_empty
/-- A record's bytes. -/
def recF (ep n : Int) (s : ByteArray) : ByteArray := frameOf ((numStr ep ++ numStr n) ++ s)
theorem recF_read {ep n : Int} {s : ByteArray} (h0 : 0 ≤ ep) (h1 : ep ≤ 4294967295) (h2 : 0 ≤ n) (h3 : n ≤ 4294967295) (hs : s.size ≤ 200) : recW (recF ep n s) = (ep, n, s, true) := by
  have z1 := numStr_size ep
  have z2 := numStr_size n
  have hg := getFrame_put ((numStr ep ++ numStr n) ++ s) (by rw [CodecPlain.size_append, CodecPlain.size_append]; omega) ⟨#[]⟩
  rw [ba_nil_r] at hg
  have g1 := getNum_put ep h0 h1 (numStr n ++ s)
  have g2 := getNum_put n h2 h3 s
  rw [← ByteArray.append_assoc] at g1
  unfold recW recF
  rw [hg]
  simp only
  rw [if_pos ⟨trivial, trivial⟩, g1]
  simp only
  rw [g2]
  simp [hs]
theorem recF_size (ep n : Int) {s : ByteArray} (hs : s.size ≤ 200) : longS (recF ep n s) = false := by
  have z1 := numStr_size ep
  have z2 := numStr_size n
  have := (frame_size ((numStr ep ++ numStr n) ++ s)).2
  rw [CodecPlain.size_append, CodecPlain.size_append] at this
  unfold longS recF
  exact decide_eq_false (by omega)
theorem rec_none : (recW (⟨#[]⟩ : ByteArray)).2.2.2 = false := by decide +kernel
/-- The block says no record of the epoch at the place. -/
def noRec (ep a : Int) (s : ByteArray) : Prop := ¬ ((recW s).2.2.2 = true ∧ (recW s).1 = ep ∧ (recW s).2.1 = a)
theorem noRec_nil (ep a : Int) : noRec ep a ⟨#[]⟩ := fun h => by
  have := h.1
  rw [rec_none] at this
  cases this
/-- A log in which each block says its record, or none. -/
theorem recs_front (ep : Int) : ∀ (M T : List ByteArray) (a : Int), 0 ≤ a → a + (M.length : Int) ≤ 4294967295 → 0 ≤ ep → ep ≤ 4294967295 → (∀ s ∈ T, s.size ≤ 200) →
    (∀ (i : Nat) (h : i < M.length), (∃ h2 : i < T.length, M[i] = recF ep (a + i) T[i]) ∨ noRec ep (a + i) M[i]) → ∃ q, q ≤ T.length ∧ recsV ep a M = T.take q
  | [], T, a, _, _, _, _, _, _ => ⟨0, Nat.zero_le _, by simp [recsV]⟩
  | s :: M, T, a, h0, h1, he0, he1, hs, h => by
    rw [List.length_cons] at h1
    rcases h 0 (by simp) with ⟨h2, h3⟩ | h3
    · obtain ⟨t, T', rfl⟩ : ∃ t T', T = t :: T' := by
        cases T with
        | nil => simp at h2
        | cons t T' => exact ⟨t, T', rfl⟩
      simp only [List.getElem_cons_zero] at h3
      have hz : a + ((0 : Nat) : Int) = a := by omega
      rw [hz] at h3
      have hts := hs t List.mem_cons_self
      obtain ⟨q, hq, hr⟩ := recs_front ep M T' (a + 1) (by omega) (by omega) he0 he1 (fun x hx => hs x (List.mem_cons_of_mem _ hx)) (fun i hi => by
        have hai : a + 1 + (i : Int) = a + ((i + 1 : Nat) : Int) := by omega
        rcases h (i + 1) (by simpa using hi) with ⟨g2, g3⟩ | g3
        · refine .inl ⟨by simpa using g2, ?_⟩
          rw [hai]
          simpa using g3
        · refine .inr ?_
          rw [hai]
          simpa using g3)
      refine ⟨q + 1, by simpa using hq, ?_⟩
      rw [recsV, h3, recF_read he0 he1 h0 (by omega) hts]
      simp only
      rw [if_pos ⟨trivial, trivial, trivial⟩, hr]
      rfl
    · have hz : a + ((0 : Nat) : Int) = a := by omega
      rw [hz] at h3
      simp only [List.getElem_cons_zero] at h3
      refine ⟨0, Nat.zero_le _, ?_⟩
      rw [recsV, if_neg h3]
      rfl
/-- A log that says all of its records, and none behind. -/
theorem recs_all (ep : Int) : ∀ (M T : List ByteArray) (a : Int), 0 ≤ a → a + (M.length : Int) ≤ 4294967295 → 0 ≤ ep → ep ≤ 4294967295 → (∀ s ∈ T, s.size ≤ 200) → T.length ≤ M.length →
    (∀ (i : Nat) (h : i < M.length), (∃ h2 : i < T.length, M[i] = recF ep (a + i) T[i]) ∨ (T.length ≤ i ∧ noRec ep (a + i) M[i])) → recsV ep a M = T
  | [], T, a, _, _, _, _, _, hl, _ => by
    have : T = [] := List.eq_nil_of_length_eq_zero (by simpa using hl)
    rw [this]
    rfl
  | s :: M, [], a, h0, h1, he0, he1, hs, hl, h => by
    rcases h 0 (by simp) with ⟨h2, _⟩ | ⟨_, h3⟩
    · simp at h2
    · have hz : a + ((0 : Nat) : Int) = a := by omega
      rw [hz] at h3
      simp only [List.getElem_cons_zero] at h3
      rw [recsV, if_neg h3]
  | s :: M, t :: T, a, h0, h1, he0, he1, hs, hl, h => by
    rw [List.length_cons] at h1
    rcases h 0 (by simp) with ⟨h2, h3⟩ | ⟨h2, _⟩
    · simp only [List.getElem_cons_zero] at h3
      have hz : a + ((0 : Nat) : Int) = a := by omega
      rw [hz] at h3
      have hts := hs t List.mem_cons_self
      have hr := recs_all ep M T (a + 1) (by omega) (by omega) he0 he1 (fun x hx => hs x (List.mem_cons_of_mem _ hx)) (by simpa using hl) (fun i hi => by
        have hai : a + 1 + (i : Int) = a + ((i + 1 : Nat) : Int) := by omega
        rcases h (i + 1) (by simpa using hi) with ⟨g2, g3⟩ | ⟨g2, g3⟩
        · refine .inl ⟨by simpa using g2, ?_⟩
          rw [hai]
          simpa using g3
        · refine .inr ⟨by simpa using g2, ?_⟩
          rw [hai]
          simpa using g3)
      rw [recsV, h3, recF_read he0 he1 h0 (by omega) hts]
      simp only
      rw [if_pos ⟨trivial, trivial, trivial⟩, hr]
    · simp at h2

/-! ### Appends, one behind the other -/
def allV' (fr ep : Int) : List ByteArray → Int → List ByteArray → List S40 → List ByteArray × List S40 × Bool × Int
  | [], x, b, u => if x = 0 then (b, u, false, 0) else ((doneV (fun _ => true) b u).1, (doneV (fun _ => true) b u).2.1, true, (doneV (fun _ => true) b u).2.2)
  | s :: t, x, b, u => if x = 0 then (b, u, false, 0) else if (appendV b u fr ep s).2.2 = 0 then allV' fr ep t (if x > 0 then wrap64 (x - 1) else x) (appendV b u fr ep s).1 (appendV b u fr ep s).2.1 else ([], [], false, (appendV b u fr ep s).2.2)
def allV (l0 : List ByteArray) (l1 : List S40) (fr ep : Int) (l : List ByteArray) (x : Int) : List ByteArray × List S40 × Bool × Int :=
  if openE l0 l1 fr ep = 0 then allV' fr ep l (mn (mx x (-1)) (wrap64 ((l.length : Int) + 1))) l0 l1 else ([], [], false, openE l0 l1 fr ep)
theorem all_l0 (fr ep : Int) (l : List ByteArray) (hl : l.length ≤ 9223372036854775807) (d : Nat) : ∀ (i : Nat) (x : Int) (b : List ByteArray) (u : List S40), i + d = l.length → Ev (fun k => wal_All.l0 k fr ep x l (l.length : Int) (i : Int) b u) (allV' fr ep (l.drop i) x b u) := by
  induction d with
  | zero =>
    intro i x b u hi
    rw [List.drop_of_length_le (by omega)]
    refine Ev.step (f := fun _ => some (allV' fr ep [] x b u)) (fun k => ?_) (Ev.now _)
    simp only [wal_All.l0, disk_Sync.f, Option.bind_some, allV']
    rw [if_neg (by omega)]
    split <;> rfl
  | succ d ih =>
    intro i x b u hi
    have hlt : i < l.length := by omega
    have hdr : l.drop i = l[i] :: l.drop (i + 1) := List.drop_eq_getElem_cons hlt
    have hrd : rdOf ByteArray.empty l (i : Int) = l[i] := by simp [rdOf, List.getD_eq_getElem?_getD, hlt]
    have hw : wrap64 ((i : Int) + 1) = ((i + 1 : Nat) : Int) := wrap_at (by omega) (by omega)
    rw [hdr]
    unfold allV'
    by_cases hx : x = 0
    · rw [if_pos hx]
      refine Ev.step (f := fun _ => some (b, u, false, 0)) (fun k => ?_) (Ev.now _)
      simp only [wal_All.l0]
      rw [if_pos (by omega), if_pos (by omega), if_pos (by omega), if_pos hx]
    · rw [if_neg hx]
      by_cases he : (appendV b u fr ep l[i]).2.2 = 0
      · rw [if_pos he]
        refine Ev.step (f := fun k => wal_All.l0 k fr ep (if x > 0 then wrap64 (x - 1) else x) l (l.length : Int) ((i + 1 : Nat) : Int) (appendV b u fr ep l[i]).1 (appendV b u fr ep l[i]).2.1) (fun k => ?_) (ih (i + 1) _ _ _ (by omega))
        simp only [wal_All.l0, wal_Append.f, Option.bind_some, hrd]
        rw [if_pos (by omega), if_pos (by omega), if_pos (by omega), if_neg hx, if_pos he, hw]
        split <;> rfl
      · rw [if_neg he]
        refine Ev.step (f := fun _ => some ([], [], false, (appendV b u fr ep l[i]).2.2)) (fun k => ?_) (Ev.now _)
        simp only [wal_All.l0, wal_Append.f, Option.bind_some, hrd]
        rw [if_pos (by omega), if_pos (by omega), if_pos (by omega), if_neg hx, if_neg he]
theorem all_ev (l0 : List ByteArray) (l1 : List S40) (fr ep : Int) (l : List ByteArray) (hl : l.length ≤ 9223372036854775807) (x : Int) : Ev (fun k => wal_All.f k l0 l1 fr ep l x) (allV l0 l1 fr ep l x) := by
  unfold wal_All.f allV
  have ho : Ev (fun k => wal_open.f k l0 l1 fr ep) (openE l0 l1 fr ep) := Ev.step (f := fun _ => some (openE l0 l1 fr ep)) (fun k => open_e k _ _ _ _) (Ev.now _)
  refine Ev.bind ho ?_
  by_cases he : openE l0 l1 fr ep = 0
  · simp only [if_pos he]
    obtain ⟨hck, _⟩ := openE_ok he
    obtain ⟨h1, h2, h3, _⟩ := check_len hck
    have := all_l0 fr ep l hl l.length 0 (mn (mx x (-1)) (wrap64 ((l.length : Int) + 1))) l0 l1 (by omega)
    rw [List.drop_zero] at this
    refine Ev.congr (fun k => ?_) this
    unfold slices_Clone_string_string.f slices_Clone_WN.f
    rw [if_pos (by omega), if_pos (by omega)]
    rfl
  · simp only [if_neg he]
    exact Ev.now _
end Go.Proofs.Ytoibofhmlokglaa.P
/-
  'Big' of chapter 4's reference ends.
-/
namespace Go.Proofs.Ytoibofhmlokglaa.P
open Go.RowKit Go.Proofs.YtoibofhmlokglaaW.PrintWords Go.Proofs.YtoibofhmlokglaaW.PrintLast Go.Proofs.Plain

theorem big_l1 (l0 : List ByteArray) (l1 : List S40) (d : Nat) : ∀ (k : Nat) (x : Int), k + d = l1.length → ∃ b, Ev (fun r => sextonref04_Big.l1 r x (k : Int) l0 l1) b := by
  have tail : ∀ x : Int, ∃ b, (if (l0.length : Int) > 250 then (some true) else (if (l1.length : Int) > 150 then (some true) else (some (decide (x > 400))))) = some b := by
    intro x
    split
    · exact ⟨_, rfl⟩
    · split <;> exact ⟨_, rfl⟩
  induction d with
  | zero =>
    intro k x hk
    obtain ⟨b, hb⟩ := tail x
    exact ⟨b, Ev.step (f := fun _ => some b) (fun r => by simp only [sextonref04_Big.l1]; rw [if_neg (by omega)]; exact hb) (Ev.now _)⟩
  | succ d ih =>
    intro k x hk
    by_cases hl : (l1.length : Int) ≤ 150
    · obtain ⟨b, hb⟩ := ih (k + 1) (mx x (((rd_T40 l1 (k : Int)).f1).size : Int)) (by omega)
      refine ⟨b, Ev.step (f := fun r => sextonref04_Big.l1 r (mx x (((rd_T40 l1 (k : Int)).f1).size : Int)) ((k + 1 : Nat) : Int) l0 l1) (fun r => ?_) hb⟩
      simp only [sextonref04_Big.l1]
      rw [if_pos (by omega), if_pos hl, if_pos (by omega), wrap_at (by omega) (by omega)]
      rfl
    · obtain ⟨b, hb⟩ := tail x
      exact ⟨b, Ev.step (f := fun _ => some b) (fun r => by simp only [sextonref04_Big.l1]; rw [if_pos (by omega), if_neg hl]; exact hb) (Ev.now _)⟩

theorem big_l0 (l0 : List ByteArray) (l1 : List S40) (d : Nat) : ∀ (k : Nat) (x : Int), k + d = l0.length → ∃ b, Ev (fun r => sextonref04_Big.l0 r x (k : Int) l0 l1) b := by
  have tail : ∀ x : Int, ∃ b, Ev (fun r => sextonref04_Big.j1 r x l0 l1) b := by
    intro x
    obtain ⟨b, hb⟩ := big_l1 l0 l1 l1.length 0 x (by omega)
    exact ⟨b, Ev.step (f := fun r => sextonref04_Big.l1 r x ((0 : Nat) : Int) l0 l1) (fun r => by simp only [sextonref04_Big.j1]; rfl) hb⟩
  induction d with
  | zero =>
    intro k x hk
    obtain ⟨b, hb⟩ := tail x
    exact ⟨b, Ev.step (f := fun r => sextonref04_Big.j1 r x l0 l1) (fun r => by simp only [sextonref04_Big.l0]; rw [if_neg (by omega)]) hb⟩
  | succ d ih =>
    intro k x hk
    by_cases hl : (l0.length : Int) ≤ 250
    · obtain ⟨b, hb⟩ := ih (k + 1) (mx x ((rdOf ByteArray.empty l0 (k : Int)).size : Int)) (by omega)
      refine ⟨b, Ev.step (f := fun r => sextonref04_Big.l0 r (mx x ((rdOf ByteArray.empty l0 (k : Int)).size : Int)) ((k + 1 : Nat) : Int) l0 l1) (fun r => ?_) hb⟩
      simp only [sextonref04_Big.l0]
      rw [if_pos (by omega), if_pos hl, if_pos (by omega), wrap_at (by omega) (by omega)]
      rfl
    · obtain ⟨b, hb⟩ := tail x
      exact ⟨b, Ev.step (f := fun r => sextonref04_Big.j1 r x l0 l1) (fun r => by simp only [sextonref04_Big.l0]; rw [if_pos (by omega), if_neg hl]) hb⟩
theorem big_ends (l0 : List ByteArray) (l1 : List S40) : ∃ b, Ev (fun k => sextonref04_Big.f k l0 l1) b := by
  obtain ⟨b, hb⟩ := big_l0 l0 l1 l0.length 0 0 (by omega)
  exact ⟨b, Ev.congr (f := fun r => sextonref04_Big.l0 r 0 ((0 : Nat) : Int) l0 l1) (fun k => rfl) hb⟩
end Go.Proofs.Ytoibofhmlokglaa.P
/-
  Words for the references, told plainly.
-/
namespace Go.Proofs.Ytoibofhmlokglaa.P
open Go.RowKit Go.Proofs.CodecPlain Go.Proofs.YtoibofhmlokglaaW.PrintWords Go.Proofs.YtoibofhmlokglaaW.PrintLast

theorem ev_if_pos {α : Type} {p : Nat → Prop} [∀ k, Decidable (p k)] {a b : Nat → Option α} {r : α} (h : ∀ k, p k) (k : Ev a r) : Ev (fun n => if p n then a n else b n) r :=
  k.congr (fun n => if_pos (h n))

theorem toList_inj {a b : ByteArray} (h : a.toList = b.toList) : a = b := by
  rw [ByteArray.toList_eq, ByteArray.toList_eq] at h; exact ba_ext h

theorem wrap_id {x : Int} (h0 : -9223372036854775808 ≤ x) (h1 : x ≤ 9223372036854775807) : wrap64 x = x := by unfold wrap64; omega

theorem strOfNums_size (l : List Int) : (strOfNums l).size = l.length := by simp [strOfNums, ByteArray.size]

theorem strOfNums_list (l : List Int) : (strOfNums l).data.toList = l.map u8 := by simp [strOfNums, u8]

theorem rd_str (l : List ByteArray) (k : Nat) (h : k < l.length) : rdOf ByteArray.empty l (k : Int) = l[k] := by
  simp [rdOf, List.getD_eq_getElem?_getD, h]
end Go.Proofs.Ytoibofhmlokglaa.P
/-
  sextonref01.Texts, told plainly.
-/
namespace Go.Proofs.Ytoibofhmlokglaa.P
open Go.RowKit Go.Proofs.CodecPlain Go.Proofs.YtoibofhmlokglaaW.PrintWords Go.Proofs.YtoibofhmlokglaaW.PrintLast

theorem refTexts_l0 (a b : List ByteArray) (hl : a.length = b.length) (hm : a.length ≤ 9223372036854775806) (d : Nat) : ∀ k : Nat, k + d = a.length → Ev (fun r => sextonref01_Texts.l0 r a b (k : Int)) (decide (a.drop k = b.drop k)) := by
  induction d with
  | zero =>
    intro k hk
    have h1 : a.drop k = [] := List.drop_of_length_le (by omega)
    have h2 : b.drop k = [] := List.drop_of_length_le (by omega)
    rw [h1, h2]
    exact Ev.step (f := fun _ => some true) (fun r => by simp only [sextonref01_Texts.l0]; rw [if_neg (by omega)]) (Ev.now _)
  | succ d ih =>
    intro k hk
    have ha : k < a.length := by omega
    have hb : k < b.length := by omega
    have e1 : a.drop k = a[k] :: a.drop (k + 1) := List.drop_eq_getElem_cons ha
    have e2 : b.drop k = b[k] :: b.drop (k + 1) := List.drop_eq_getElem_cons hb
    by_cases he : a[k] = b[k]
    · refine Ev.step (f := fun r => sextonref01_Texts.l0 r a b ((k + 1 : Nat) : Int)) (fun r => ?_) ?_
      · simp only [sextonref01_Texts.l0]
        rw [if_pos (by omega), if_pos (by omega), if_pos (by omega), rd_str a k ha, rd_str b k hb, if_pos (by rw [he]), wrap_id (by omega) (by omega)]
        rfl
      · have := ih (k + 1) (by omega)
        rw [e1, e2, he]
        simp only [List.cons.injEq, true_and]
        exact this
    · refine Ev.step (f := fun _ => some false) (fun r => ?_) ?_
      · simp only [sextonref01_Texts.l0]
        rw [if_pos (by omega), if_pos (by omega), if_pos (by omega), rd_str a k ha, rd_str b k hb, if_neg (fun h => he (toList_inj h))]
      · rw [e1, e2, decide_eq_false (fun h => he (List.cons.inj h).1)]
        exact Ev.now _

theorem refTexts (a b : List ByteArray) (hm : a.length ≤ 9223372036854775806) : Ev (fun r => sextonref01_Texts.f r a b) (decide (a = b)) := by
  by_cases hl : a.length = b.length
  · refine Ev.congr (f := fun r => sextonref01_Texts.l0 r a b 0) (fun r => by unfold sextonref01_Texts.f; rw [if_pos (by omega)]) ?_
    have := refTexts_l0 a b hl hm a.length 0 (by omega)
    simpa using this
  · rw [decide_eq_false (fun h => hl (by rw [h]))]
    exact Ev.congr (f := fun _ => some false) (fun r => by unfold sextonref01_Texts.f; rw [if_neg (by omega)]) (Ev.now _)
end Go.Proofs.Ytoibofhmlokglaa.P
/-
  'far' of chapter 7's statements ends; what appends to a new disk leave.
-/
namespace Go.Proofs.Ytoibofhmlokglaa.P
open Go.RowKit Go.Proofs Go.Proofs.CodecPlain Go.Proofs.YtoibofhmlokglaaW.PrintWords Go.Proofs.YtoibofhmlokglaaW.PrintLast Go.Proofs.Plain

theorem far7_ends (l0 : List ByteArray) (l1 : List S40) (l : List ByteArray) (hl : l.length ≤ 9223372036854775807) : ∃ b, Ev (fun k => sextonlaw07_far.f k l0 l1 l) b := by
  unfold sextonlaw07_far.f
  suffices H : ∀ d i : Nat, i + d = l.length → ∃ b, Ev (fun k => sextonlaw07_far.l0 k l (i : Int) l0 l1) b from H l.length 0 (by omega)
  intro d
  induction d with
  | zero =>
    intro i hi
    obtain ⟨g, hg⟩ := big_ends l0 l1
    have hst : ∀ k, sextonlaw07_far.l0 (k + 1) l (i : Int) l0 l1 = (sextonref04_Big.f k l0 l1).bind fun t => if t = true then some true else (if (l0.length : Int) > 20 then (if (l0.length : Int) ≤ 200 then some true else some (decide ((l.length : Int) > 30))) else some (decide ((l.length : Int) > 30))) := fun k => by
      simp only [sextonlaw07_far.l0]
      rw [if_neg (by omega)]
    cases g
    · exact ⟨if (l0.length : Int) > 20 then (if (l0.length : Int) ≤ 200 then true else decide ((l.length : Int) > 30)) else decide ((l.length : Int) > 30), Ev.step hst (Ev.bind hg (Ev.congr (f := fun _ => some (if (l0.length : Int) > 20 then (if (l0.length : Int) ≤ 200 then true else decide ((l.length : Int) > 30)) else decide ((l.length : Int) > 30))) (fun k => by
        rw [if_neg (by decide)]
        split
        · split <;> rfl
        · rfl) (Ev.now _)))⟩
    · exact ⟨true, Ev.step hst (Ev.bind hg (Ev.congr (f := fun _ => some true) (fun k => by rw [if_pos rfl]) (Ev.now _)))⟩
  | succ d ih =>
    intro i hi
    obtain ⟨b, hb⟩ := ih (i + 1) (by omega)
    have hw : wrap64 ((i : Int) + 1) = ((i + 1 : Nat) : Int) := wrap_at (by omega) (by omega)
    by_cases hs : ((rdOf ByteArray.empty l (i : Int)).size : Int) > 300
    · refine ⟨true, Ev.step (f := fun _ => some true) (fun k => ?_) (Ev.now _)⟩
      simp only [sextonlaw07_far.l0]
      rw [if_pos (by omega), if_pos (by omega), if_pos hs]
    · refine ⟨b, Ev.step (f := fun k => sextonlaw07_far.l0 k l ((i + 1 : Nat) : Int) l0 l1) (fun k => ?_) hb⟩
      simp only [sextonlaw07_far.l0]
      rw [if_pos (by omega), if_pos (by omega), if_neg hs, hw]
/-- A disk that is not far has few texts beside it. -/
theorem far7_short (l0 : List ByteArray) (l1 : List S40) (l : List ByteArray) (hl : l.length ≤ 9223372036854775807) (hb : Ev (fun k => sextonlaw07_far.f k l0 l1 l) false) : l.length ≤ 30 := by
  unfold sextonlaw07_far.f at hb
  suffices H : ∀ d i : Nat, i + d = l.length → Ev (fun k => sextonlaw07_far.l0 k l (i : Int) l0 l1) false → l.length ≤ 30 from H l.length 0 (by omega) hb
  intro d
  induction d with
  | zero =>
    intro i hi h
    obtain ⟨K, e⟩ := h
    have e1 := e (K + 1) (by omega)
    simp only [sextonlaw07_far.l0] at e1
    rw [if_neg (by omega)] at e1
    obtain ⟨g, _, e2⟩ := Option.bind_eq_some_iff.1 e1
    by_cases hg : g = true
    · rw [if_pos hg] at e2
      cases e2
    · rw [if_neg hg] at e2
      have : decide ((l.length : Int) > 30) = false := by
        split at e2
        · split at e2
          · cases e2
          · exact Option.some.inj e2
        · exact Option.some.inj e2
      have := of_decide_eq_false this
      omega
  | succ d ih =>
    intro i hi h
    obtain ⟨K, e⟩ := h
    have hw : wrap64 ((i : Int) + 1) = ((i + 1 : Nat) : Int) := wrap_at (by omega) (by omega)
    refine ih (i + 1) (by omega) ⟨K, fun k hk => ?_⟩
    have e1 := e (k + 1) (by omega)
    simp only [sextonlaw07_far.l0] at e1
    rw [if_pos (by omega), if_pos (by omega)] at e1
    by_cases hs : ((rdOf ByteArray.empty l (i : Int)).size : Int) > 300
    · rw [if_pos hs] at e1
      cases e1
    · rw [if_neg hs, hw] at e1
      exact e1
theorem front_true {m l : List ByteArray} {q : Nat} (h : m = l.take q) (hl : l.length ≤ 1000000000) : Ev (fun k => sextonlaw07_front.f k m l) true := by
  have hle : m.length ≤ l.length := by rw [h, List.length_take]; omega
  have hm : l.take m.length = m := by
    rw [h, List.length_take, List.take_eq_take_iff]
    omega
  have := refTexts m (l.take m.length) (by omega)
  rw [hm, decide_eq_true rfl] at this
  refine Ev.congr (f := fun k => (sextonref01_Texts.f k m m).bind fun t => some t) (fun k => ?_) (Ev.bind this (Ev.now _))
  unfold sextonlaw07_front.f
  rw [if_pos (by omega), if_pos (by omega), Int.toNat_natCast, hm]

/-! ### The writes of appends -/
def wuV (fr ep : Int) : Int → List ByteArray → List S40
  | _, [] => []
  | i, t :: T => ⟨fr + i, recF ep i t⟩ :: wuV fr ep (i + 1) T
theorem wu_snoc (fr ep : Int) (s : ByteArray) : ∀ (T : List ByteArray) (i : Int), wuV fr ep i (T ++ [s]) = wuV fr ep i T ++ [⟨fr + (i + T.length), recF ep (i + T.length) s⟩]
  | [], i => by simp [wuV]
  | t :: T, i => by
    have : i + 1 + (T.length : Int) = i + ((T.length + 1 : Nat) : Int) := by omega
    simp only [List.cons_append, wuV, wu_snoc fr ep s T (i + 1), List.length_cons, this]
theorem wu_len (fr ep : Int) : ∀ (T : List ByteArray) (i : Int), (wuV fr ep i T).length = T.length
  | [], _ => rfl
  | t :: T, i => by simp [wuV, wu_len fr ep T (i + 1)]
theorem wu_mem (fr ep : Int) {x : S40} : ∀ (T : List ByteArray) (i : Int), x ∈ wuV fr ep i T → ∃ (j : Nat) (h : j < T.length), x = ⟨fr + (i + j), recF ep (i + j) T[j]⟩
  | [], i, h => by simp [wuV] at h
  | t :: T, i, h => by
    rcases List.mem_cons.1 h with rfl | h
    · exact ⟨0, by simp, by simp⟩
    · obtain ⟨j, hj, rfl⟩ := wu_mem fr ep T (i + 1) h
      have : i + 1 + (j : Int) = i + ((j + 1 : Nat) : Int) := by omega
      exact ⟨j + 1, by simpa using hj, by simp only [List.getElem_cons_succ, this]⟩
/-- A new disk's blocks. -/
abbrev newV (n : Nat) : List ByteArray := List.replicate n (⟨#[]⟩ : ByteArray)
theorem check_new {n : Nat} (h0 : 1 ≤ n) (h1 : n ≤ 200) : checkB (newV n) [] = true := by
  unfold checkB
  have : (newV n).any longS = false := by
    rw [List.any_eq_false]
    intro s hs
    rw [(List.mem_replicate.1 hs).2]
    decide
  rw [this]
  simp
  omega
/-- What the appends' writes leave, when all are done. -/
theorem wu_cont {n : Nat} {fr ep : Int} (h0 : 0 ≤ fr) : ∀ (d : Nat) (T : List ByteArray), T.length = d → fr + T.length ≤ n → ∀ (i : Nat), (hi : fr + i < n) → (contV (newV n) (wuV fr ep 0 T))[(fr + i).toNat]? = some (if h : i < T.length then recF ep i T[i] else ⟨#[]⟩) := by
  intro d
  induction d with
  | zero =>
    intro T hT _ i hi
    obtain rfl := List.eq_nil_of_length_eq_zero hT
    unfold contV
    simp only [wuV, applyW, List.length_nil, Nat.not_lt_zero, dite_false]
    rw [List.getElem?_replicate, if_pos (by omega)]
  | succ d ih =>
    intro T hT hn i hi
    obtain ⟨S, s, rfl⟩ : ∃ S s, T = S ++ [s] := by
      rcases List.eq_nil_or_concat T with rfl | ⟨S, s, rfl⟩
      · simp at hT
      · exact ⟨S, s, by simp⟩
    rw [List.length_append, List.length_singleton] at hT hn
    have h := ih S (by omega) (by omega) i hi
    rw [wu_snoc]
    unfold contV at h ⊢
    rw [applyW_snoc, if_pos rfl]
    simp only [Int.zero_add]
    rw [List.getElem?_set, applyW_length, List.length_replicate]
    by_cases he : i = S.length
    · subst he
      rw [if_pos rfl, if_pos (by omega), dif_pos (by simp)]
      simp
    · rw [if_neg (by omega), h]
      by_cases hlt : i < S.length
      · rw [dif_pos hlt, dif_pos (by simp; omega), List.getElem_append_left hlt]
      · rw [dif_neg hlt, dif_neg (by simp; omega)]
theorem cont_drop {b : List ByteArray} {fr : Int} (h0 : 0 ≤ fr) {i : Nat} {h : i < (b.drop fr.toNat).length} {s : ByteArray} (hb : b[(fr + i).toNat]? = some s) : (b.drop fr.toNat)[i] = s := by
  rw [List.getElem_drop]
  have hlt : fr.toNat + i < b.length := by rw [List.length_drop] at h; omega
  have e : (fr + i).toNat = fr.toNat + i := by omega
  rw [e, List.getElem?_eq_getElem hlt] at hb
  exact Option.some.inj hb
/-- The log of a disk to which T was appended says T. -/
theorem wu_recs {n : Nat} {fr ep : Int} {T : List ByteArray} (h0 : 0 ≤ fr) (hn : n ≤ 200) (he0 : 0 ≤ ep) (he1 : ep ≤ 1000000000) (hT : fr + T.length ≤ n) (hs : ∀ s ∈ T, s.size ≤ 200) :
    recsV ep 0 ((contV (newV n) (wuV fr ep 0 T)).drop fr.toNat) = T := by
  have hlen : ((contV (newV n) (wuV fr ep 0 T)).drop fr.toNat).length = n - fr.toNat := by unfold contV; rw [List.length_drop, applyW_length, List.length_replicate]
  refine recs_all ep _ T 0 (Int.le_refl _) (by omega) he0 (by omega) hs (by omega) (fun i hi => ?_)
  have hc := cont_drop (h := hi) h0 (wu_cont (ep := ep) h0 T.length T rfl hT i (by omega))
  rw [Int.zero_add]
  by_cases hlt : i < T.length
  · exact .inl ⟨hlt, by rw [hc, dif_pos hlt]⟩
  · exact .inr ⟨by omega, by rw [hc, dif_neg hlt]; exact noRec_nil _ _⟩
/-- Behind a crash it says a beginning of T. -/
theorem wu_crash {n : Nat} {fr ep : Int} {T : List ByteArray} (p : Int → Bool) (h0 : 0 ≤ fr) (hn : n ≤ 200) (he0 : 0 ≤ ep) (he1 : ep ≤ 1000000000) (hT : fr + T.length ≤ n) (hs : ∀ s ∈ T, s.size ≤ 200) (hck : checkB (newV n) (wuV fr ep 0 T) = true) :
    ∃ q, recsV ep 0 ((applyW p 0 (wuV fr ep 0 T) (newV n)).drop fr.toNat) = T.take q := by
  have hlen : ((applyW p 0 (wuV fr ep 0 T) (newV n)).drop fr.toNat).length = n - fr.toNat := by rw [List.length_drop, applyW_length, List.length_replicate]
  obtain ⟨q, _, hq⟩ := recs_front ep ((applyW p 0 (wuV fr ep 0 T) (newV n)).drop fr.toNat) T 0 (Int.le_refl _) (by omega) he0 (by omega) hs (fun i hi => by
    rw [List.getElem_drop, Int.zero_add]
    have hk : fr.toNat + i < (applyW p 0 (wuV fr ep 0 T) (newV n)).length := by rw [applyW_length, List.length_replicate]; omega
    rcases crash_parts p hck (fr.toNat + i) hk (by rw [List.length_replicate]; omega) with h | ⟨x, hx, h1, h2⟩
    · right
      rw [h, List.getElem_replicate]
      exact noRec_nil _ _
    · left
      obtain ⟨j, hj, rfl⟩ := wu_mem fr ep T 0 hx
      simp only at h1 h2
      have : j = i := by omega
      subst this
      exact ⟨hj, by rw [← h2, Int.zero_add]⟩)
  exact ⟨q, hq⟩
/-- What all the deeds of a log on a new disk answer. -/
theorem all_new {n : Nat} {fr ep : Int} (hn0 : 1 ≤ n) (hn : n ≤ 200) (h0 : 0 ≤ fr) (h1 : fr < n) (he0 : 0 ≤ ep) (he1 : ep ≤ 1000000000) : ∀ (t T : List ByteArray) (x : Int), -1 ≤ x → x ≤ 9223372036854775807 → fr + T.length ≤ n → (∀ s ∈ T, s.size ≤ 200) → checkB (newV n) (wuV fr ep 0 T) = true →
    (∃ e, e ≠ 0 ∧ allV' fr ep t x (newV n) (wuV fr ep 0 T) = ([], [], false, e)) ∨
    (∃ S, (∃ R, S ++ R = T ++ t) ∧ fr + S.length ≤ n ∧ (∀ s ∈ S, s.size ≤ 200) ∧ checkB (newV n) (wuV fr ep 0 S) = true ∧ ((0 ≤ x ∧ allV' fr ep t x (newV n) (wuV fr ep 0 T) = (newV n, wuV fr ep 0 S, false, 0)) ∨ (S = T ++ t ∧ allV' fr ep t x (newV n) (wuV fr ep 0 T) = (contV (newV n) (wuV fr ep 0 S), [], true, 0))))
  | [], T, x, hx, hx1, hT, hs, hck => by
    right
    refine ⟨T, ⟨[], rfl⟩, hT, hs, hck, ?_⟩
    unfold allV'
    by_cases hx0 : x = 0
    · left
      rw [if_pos hx0]
      exact ⟨by omega, rfl⟩
    · right
      rw [if_neg hx0]
      refine ⟨by simp, ?_⟩
      unfold doneV
      rw [if_pos hck]
      rfl
  | s :: t, T, x, hx, hx1, hT, hs, hck => by
    unfold allV'
    by_cases hx0 : x = 0
    · right
      rw [if_pos hx0]
      exact ⟨T, ⟨s :: t, rfl⟩, hT, hs, hck, .inl ⟨by omega, rfl⟩⟩
    · rw [if_neg hx0]
      by_cases hap : (appendV (newV n) (wuV fr ep 0 T) fr ep s).2.2 = 0
      rotate_left
      · left
        rw [if_neg hap]
        exact ⟨_, hap, rfl⟩
      rw [if_pos hap]
      have hrec := wu_recs (ep := ep) h0 hn he0 he1 hT hs
      have hop : openE (newV n) (wuV fr ep 0 T) fr ep = 0 := by
        unfold openE
        rw [hck, List.length_replicate, if_neg (by simp; omega), if_neg (by omega)]
      have hv : appendV (newV n) (wuV fr ep 0 T) fr ep s = (newV n, wuV fr ep 0 (T ++ [s]), 0) ∧ fr + (T.length + 1 : Nat) ≤ n ∧ s.size ≤ 200 ∧ checkB (newV n) (wuV fr ep 0 (T ++ [s])) = true := by
        unfold appendV at hap ⊢
        rw [hrec, hop, List.length_replicate] at hap ⊢
        rw [if_neg (by simp)] at hap ⊢
        by_cases c1 : 200 < s.size
        · rw [if_pos c1] at hap; exact absurd hap (by decide)
        rw [if_neg c1] at hap ⊢
        by_cases c2 : (n : Int) ≤ fr + (T.length : Int)
        · rw [if_pos c2] at hap; exact absurd hap (by decide)
        rw [if_neg c2] at hap ⊢
        unfold writeV at hap ⊢
        rw [hck, List.length_replicate] at hap ⊢
        rw [if_neg (by simp), if_neg (by omega)] at hap ⊢
        have hlong := recF_size ep (T.length : Int) (s := s) (by omega)
        unfold recF at hlong
        rw [hlong] at hap ⊢
        rw [if_neg (by simp)] at hap ⊢
        by_cases c3 : (wuV fr ep 0 T).length = 100
        · rw [if_pos c3] at hap; exact absurd hap (by decide)
        rw [if_neg c3, wu_snoc, Int.zero_add]
        refine ⟨rfl, by omega, by omega, ?_⟩
        exact check_write hck (by rw [List.length_replicate]; omega) hlong c3
      obtain ⟨v1, v2, v3, v4⟩ := hv
      rw [v1]
      have hlen : (T ++ [s]).length = T.length + 1 := by simp
      have := all_new hn0 hn h0 h1 he0 he1 t (T ++ [s]) (if x > 0 then wrap64 (x - 1) else x) (by split; rw [wrap_at (by omega) (by omega)]; omega; omega) (by split; rw [wrap_at (by omega) (by omega)]; omega; omega) (by rw [hlen]; exact v2) (fun y hy => by
        rcases List.mem_append.1 hy with hy | hy
        · exact hs y hy
        · rw [List.mem_singleton.1 hy]; exact v3) v4
      rw [List.append_assoc, List.singleton_append] at this
      rcases this with h | ⟨S, h2, h3, h4, h5, h6⟩
      · exact .inl h
      · refine .inr ⟨S, h2, h3, h4, h5, ?_⟩
        rcases h6 with ⟨h6, h7⟩ | h6
        · refine .inl ⟨?_, h7⟩
          split at h6 <;> omega
        · exact .inr h6
end Go.Proofs.Ytoibofhmlokglaa.P
/-
  What can be read as data reads as a value of its kind: kind by kind, for the rows of the statements.
-/
namespace Go.Proofs.Ytoibofhmlokglaa.Opens
open Go.ChangeShapes Go.WideShapes Go.ChangeAt Go.RowKit Go.Proofs.YtoibofhmlokglaaW.PrintWords

def Opens (P : Program) {α : Type} (kd : Kd α) (ok : α → Prop) (t : TypeId) : Prop :=
  ∀ {H : Type} (enc : TypeId × Value → H) (W : World) (base : Nat) (spare : Nat → Bool) (held : Bool) (fuel : Nat) (cs : List Value) (x : DataW H × List MemPlace),
    DataW.trod enc P W base spare held fuel t cs = some x → ∃ a, kd.K W a cs ∧ ok a
def OkInt (k : IntKind) (n : Int) : Prop := (Lit.int k n).wf = true
def OkStr (s : ByteArray) : Prop := s.size ≤ maxLen
def OkList {α : Type} (ok : α → Prop) (l : List α) : Prop := l.length ≤ maxLen ∧ ∀ a ∈ l, ok a
def OkTrue {α : Type} (_ : α) : Prop := True
def OkPair {α β : Type} (p : α → Prop) (q : β → Prop) (x : α × β) : Prop := p x.1 ∧ q x.2

section
variable {P : Program} {t e : TypeId}
theorem opens_int {k : IntKind} (ht : P.underlying t = some (.int k)) : Opens P (Kd.int k) (OkInt k) t := by
  intro H enc W base spare held fuel cs x h
  obtain ⟨n, rfl, _, hw⟩ := DataW.trod_int ht h
  exact ⟨n, rfl, hw⟩
theorem opens_bool (ht : P.underlying t = some .bool) : Opens P Kd.bool OkTrue t := by
  intro H enc W base spare held fuel cs x h
  obtain ⟨b, rfl, _⟩ := DataW.trod_bool ht h
  exact ⟨b, rfl, trivial⟩
theorem opens_string (ht : P.underlying t = some .string) : Opens P Kd.string OkStr t := by
  intro H enc W base spare held fuel cs x h
  obtain ⟨s, rfl, _, hs⟩ := DataW.trod_string ht h
  exact ⟨s, rfl, hs⟩
theorem addr_add (a : Addr) (x i : Nat) : a.add (x + i) = (a.add x).add i := by
  unfold Addr.add
  by_cases h1 : x = 0 <;> by_cases h2 : i = 0 <;> simp [h1, h2, Nat.add_assoc]
theorem opens_slice {α : Type} {kd : Kd α} {ok : α → Prop} (ht : P.underlying t = some (.slice e)) (hc : P.cellsOf e = kd.sz) (he : Opens P kd ok e) : Opens P (Kd.slice e kd) (OkList ok) t := by
  intro H enc W base spare held fuel cs x h
  rcases DataW.trod_slice ht h with ⟨rfl, _⟩ | ⟨a, len, cap, elems, rest, n, _, rfl, _, hb, hl, hm, hlen, hel, _, _⟩
  · exact ⟨[], ⟨none, 0, rfl, Nat.le_refl _, rfl, by simp, fun h0 => absurd h0 (Nat.lt_irrefl 0)⟩, by simp [maxLen], by simp⟩
  · have each : ∀ i, i < len → ∃ (y : α) (c : List Value), c.length = kd.sz ∧ kd.K W y c ∧ ok y ∧ ∀ j u, c[j]? = some u → W.cell? ((a.add (i * kd.sz)).add j) = some u := by
      intro i hi
      have h1 := hel i hi
      rw [hc, List.getElem?_eq_getElem (by omega), Option.bind_eq_some_iff] at h1
      obtain ⟨c, hcs, hy⟩ := h1
      obtain ⟨y, hK, hok⟩ := he enc W base spare held n c _ hy
      obtain ⟨_, hcl, hcell⟩ := World.cells?_some hcs
      refine ⟨y, c, kd.K_len hK, hK, hok, fun j u hj => ?_⟩
      have hjl : j < kd.sz := by have := (List.getElem?_eq_some_iff.1 hj).1; rw [kd.K_len hK] at this; exact this
      rw [hcell j hjl, hj]
    have pick : ∃ l : List α, l.length = len ∧ ∀ i y, l[i]? = some y → ∃ c : List Value, c.length = kd.sz ∧ kd.K W y c ∧ ok y ∧ ∀ j u, c[j]? = some u → W.cell? ((a.add (i * kd.sz)).add j) = some u := by
      have key : ∀ m, m ≤ len → ∃ l : List α, l.length = m ∧ ∀ i y, l[i]? = some y → ∃ c : List Value, c.length = kd.sz ∧ kd.K W y c ∧ ok y ∧ ∀ j u, c[j]? = some u → W.cell? ((a.add (i * kd.sz)).add j) = some u := by
        intro m
        induction m with
        | zero => intro _; exact ⟨[], rfl, fun i y h => by simp at h⟩
        | succ m ih =>
          intro hm
          obtain ⟨l, hl1, hl2⟩ := ih (by omega)
          obtain ⟨y, c, h1, h2, h3, h4⟩ := each m (by omega)
          refine ⟨l ++ [y], by simp [hl1], fun i z hz => ?_⟩
          rcases Nat.lt_or_ge i l.length with hi | hi
          · rw [List.getElem?_append_left hi] at hz
            exact hl2 i z hz
          · have : i = l.length := by
              have := (List.getElem?_eq_some_iff.1 hz).1
              rw [List.length_append, List.length_singleton] at this
              omega
            subst this
            have hz' : y = z := by simpa using hz
            subst hz'
            exact ⟨c, h1, h2, h3, by rw [hl1]; exact h4⟩
      exact key len (Nat.le_refl _)
    obtain ⟨l, hl1, hl2⟩ := pick
    subst hl1
    refine ⟨l, ⟨some a, cap, rfl, hl, rfl, by unfold maxLen at hm; omega, fun _ => ⟨a, rfl, fun j p hj => ?_⟩⟩, by omega, fun y hy => ?_⟩
    · obtain ⟨c, h1, h2, _, h4⟩ := hl2 j p hj
      refine ⟨c, h1, h2, fun i u hu => ?_⟩
      rw [← h4 i u hu, addr_add]
    · obtain ⟨i, hi⟩ := List.getElem?_of_mem hy
      obtain ⟨_, _, _, h3, _⟩ := hl2 i y hi
      exact h3

/-- The same of fields in line, from one place of the cells on. -/
def OpensF (P : Program) {α : Type} (kd : Kd α) (ok : α → Prop) (fs : List Field) (off len : Nat) : Prop :=
  ∀ {H : Type} (enc : TypeId × Value → H) (W : World) (base : Nat) (spare : Nat → Bool) (held : Bool) (n : Nat) (cs : List Value),
    (∀ f ∈ fs, ∃ y, DataW.trod enc P W base spare held n f.type ((cs.drop f.offset).take (P.cellsOf f.type)) = some y) → off + len ≤ cs.length → ∃ a, kd.K W a ((cs.drop off).take len) ∧ ok a
theorem opensF_one {α : Type} {kd : Kd α} {ok : α → Prop} {f : Field} {t off len : Nat} (h : Opens P kd ok t) (ht : f.type = t) (ho : f.offset = off) (hl : P.cellsOf t = len) : OpensF P kd ok [f] off len := by
  intro H enc W base spare held n cs hf _
  obtain ⟨y, hy⟩ := hf f List.mem_cons_self
  subst ht ho hl
  exact h enc W base spare held n _ y hy
theorem opensF_pair {α β : Type} {kd : Kd α} {kd' : Kd β} {ok : α → Prop} {ok' : β → Prop} {f : Field} {fs : List Field} {t off len len' : Nat} (h : Opens P kd ok t) (ht : f.type = t) (ho : f.offset = off) (hl : P.cellsOf t = len)
    (h' : OpensF P kd' ok' fs (off + len) len') : OpensF P (Kd.pair kd kd') (OkPair ok ok') (f :: fs) off (len + len') := by
  intro H enc W base spare held n cs hf hle
  obtain ⟨y, hy⟩ := hf f List.mem_cons_self
  subst ht ho hl
  obtain ⟨a, ha, hoka⟩ := h enc W base spare held n _ y hy
  obtain ⟨b, hb, hokb⟩ := h' enc W base spare held n cs (fun g hg => hf g (List.mem_cons_of_mem _ hg)) (by omega)
  refine ⟨(a, b), ⟨_, _, ?_, ha, hb⟩, hoka, hokb⟩
  rw [List.take_add, List.drop_drop]
theorem opens_struct {α β : Type} {kd : Kd α} {ok : α → Prop} {fs : Array Field} {len : Nat} (ht : P.underlying t = some (.struct fs)) (hc : P.cellsOf t = len) (h : OpensF P kd ok fs.toList 0 len) (f : β → α) (g : α → β) (hg : ∀ a, f (g a) = a) :
    Opens P (Kd.iso kd f) (fun b => ok (f b)) t := by
  intro H enc W base spare held fuel cs x hx
  obtain ⟨xs, n, _, _, hl, hlen, hf⟩ := DataW.trod_struct ht hx
  obtain ⟨a, ha, hok⟩ := h enc W base spare held n cs (fun fd hfd => by
    obtain ⟨i, hi⟩ := List.getElem?_of_mem hfd
    have h1 := hf i fd (by simpa using hi)
    have hi2 : i < xs.length := by
      have := (List.getElem?_eq_some_iff.1 hi).1
      rw [hlen]; simpa using this
    rw [List.getElem?_eq_getElem hi2] at h1
    exact ⟨_, h1⟩) (by omega)
  refine ⟨g a, ?_, by show ok (f (g a)); rw [hg]; exact hok⟩
  show kd.K W (f (g a)) cs
  rw [hg]
  have : (cs.drop 0).take len = cs := by rw [List.drop_zero]; exact List.take_of_length_le (by omega)
  rw [this] at ha
  exact ha
theorem opens_struct_id {α : Type} {kd : Kd α} {ok : α → Prop} {fs : Array Field} {len : Nat} (ht : P.underlying t = some (.struct fs)) (hc : P.cellsOf t = len) (h : OpensF P kd ok fs.toList 0 len) : Opens P kd ok t :=
  opens_struct ht hc h id id (fun _ => rfl)

/-! ### a parameter, opened -/
variable {H : Type} {enc : TypeId × Value → H} {W : World} {base : Nat} {spare : Nat → Bool} {held : Bool} {r : Reach} {b0 : Nat} {v : Value} {d : DataW H} {ps : List MemPlace}
theorem param_slice {α : Type} {kd : Kd α} {ok : List α → Prop} (ht : P.underlying t = some (.slice e)) (h : Opens P (Kd.slice e kd) ok t) (hval : Value.okWide P W r b0 t v) (hd : DataW.Trod enc P W base spare held t v d ps) :
    ∃ A c l, v = .slice A l.length c ∧ l.length ≤ c ∧ Kd.C kd W A l.length l ∧ ok l := by
  obtain ⟨a, len, cap, rfl⟩ := okWide_slice ht hval
  obtain ⟨fuel, hf⟩ := hd
  obtain ⟨l, ⟨A, c, hcs, hl, hC⟩, hok⟩ := h enc W base spare held fuel _ _ hf
  have : Value.slice a len cap = Value.slice A l.length c := by simpa [Value.cells] using hcs
  exact ⟨A, c, l, this, hl, hC, hok⟩
theorem param_struct {α : Type} {kd : Kd α} {ok : α → Prop} {fs : Array Field} (ht : P.underlying t = some (.struct fs)) (h : Opens P kd ok t) (hval : Value.okWide P W r b0 t v) (hd : DataW.Trod enc P W base spare held t v d ps) :
    ∃ cs a, v = .agg cs ∧ kd.K W a cs.toList ∧ ok a := by
  obtain ⟨cs, rfl, hsz⟩ := okWide_struct ht hval
  obtain ⟨fuel, hf⟩ := hd
  obtain ⟨a, hK, hok⟩ := h enc W base spare held fuel _ _ hf
  exact ⟨cs, a, rfl, hK, hok⟩
theorem agg_eq {cs : Array Value} {l : List Value} (h : cs.toList = l) : cs = l.toArray := by rw [← h]
end
end Go.Proofs.Ytoibofhmlokglaa.Opens
