/-
  Texts of the claim MsgBack, joined.
-/
import Derived.Test.YtfejidinfcmfjaaPx0
import Derived.Test.YtfejidinfcmfjaaCMsgBacka
import Derived.Test.YtfejidinfcmfjaaCMsgBackb
import Derived.Test.YtfejidinfcmfjaaCMsgBackc
import Derived.WalkKit
import Derived.ProofKit
import Derived.OpenShut
import Derived.ShutString
import Derived.ChangeOld
import Derived.Below
import Derived.SizedLaws
import Derived.ChangeArms
import Derived.Test.YtfejidinfcmfjaaWWords
/-
  The walk of MsgBack, by the print; the ways that would answer false are closed.
-/
namespace Go.Proofs.Ytfejidinfcmfjaa.P
open Go.RowKit Go.Proofs.YtfejidinfcmfjaaW.PrintWords Go.Proofs.YtfejidinfcmfjaaW.PrintLast Go.Proofs.YtfejidinfcmfjaaW.PrintMore
attribute [local go_sem] max2_int min2_int max_two min_two max_three min_three max_four min_four   -- for this text's walks alone
set_option linter.unusedVariables false
set_option linter.unusedSimpArgs false

/-! ### sextonlaw23_MsgBack: function 10 -/
mutual
def sextonlaw23_MsgBack.j0 : Nat → ByteArray → Bool → Int → Int → Int → Int → Int → Int → Int → List ByteArray → Option (Bool)
  | 0, _, _, _, _, _, _, _, _, _, _ => none
  | k + 1, x1, x19, x240000, x240001, x240002, x240003, x240004, x240005, x240006, x240007 => if x19 = true then (some true) else ((msg_Put.f x240000 x240001 x240002 x240003 x240004 x240005 x240006 x240007).bind fun bt241 => ((msg_Get.f bt241.1).bind fun bt243 => (if bt241.2 = 0 then (if bt243.2.2.2.2.2.2.2.2 = 0 then ((sextonref23_Same.f k bt243.1 bt243.2.1 bt243.2.2.1 bt243.2.2.2.1 bt243.2.2.2.2.1 bt243.2.2.2.2.2.1 bt243.2.2.2.2.2.2.1 bt243.2.2.2.2.2.2.2.1 x240000 x240001 x240002 x240003 x240004 x240005 x240006 x240007).bind fun t255 => (if t255 = true then ((msg_Is.f k x240000 x240001 x240002 x240003 x240004 x240005 x240006 x240007).bind fun t256 => (sextonlaw23_MsgBack.j1 k x1 ((bt241.2 == 0) != t256))) else (sextonlaw23_MsgBack.j1 k x1 true))) else (sextonlaw23_MsgBack.j1 k x1 true)) else ((msg_Is.f k x240000 x240001 x240002 x240003 x240004 x240005 x240006 x240007).bind fun t257 => (sextonlaw23_MsgBack.j1 k x1 ((bt241.2 == 0) != t257))))))
def sextonlaw23_MsgBack.j1 : Nat → ByteArray → Bool → Option (Bool)
  | 0, _, _ => none
  | k + 1, x1, x48 => if x48 = true then (some false) else ((msg_Get.f x1).bind fun bt258 => ((msg_Put.f bt258.1 bt258.2.1 bt258.2.2.1 bt258.2.2.2.1 bt258.2.2.2.2.1 bt258.2.2.2.2.2.1 bt258.2.2.2.2.2.2.1 bt258.2.2.2.2.2.2.2.1).bind fun bt270 => ((sextonlaw23_sent.f).bind fun t272 => (if t272 = true then (if bt258.2.2.2.2.2.2.2.2 = 0 then (if bt270.2 = 0 then (if bt270.1.toList = x1.toList then ((msg_Is.f k bt258.1 bt258.2.1 bt258.2.2.1 bt258.2.2.2.1 bt258.2.2.2.2.1 bt258.2.2.2.2.2.1 bt258.2.2.2.2.2.2.1 bt258.2.2.2.2.2.2.2.1).bind fun t273 => (some t273)) else (some false)) else (some false)) else (some true)) else (some false)))))
end
def sextonlaw23_MsgBack.f (k : Nat) (a0_0 : Int) (a0_1 : Int) (a0_2 : Int) (a0_3 : Int) (a0_4 : Int) (a0_5 : Int) (a0_6 : Int) (l0_7 : List ByteArray) (a1 : ByteArray) : Option (Bool) := (sextonref23_Big.f k a0_0 a0_1 a0_2 a0_3 a0_4 a0_5 a0_6 l0_7).bind fun t240 => (if t240 = true then (sextonlaw23_MsgBack.j0 k a1 true a0_0 a0_1 a0_2 a0_3 a0_4 a0_5 a0_6 l0_7) else (sextonlaw23_MsgBack.j0 k a1 (decide ((a1.size : Int) > 800)) a0_0 a0_1 a0_2 a0_3 a0_4 a0_5 a0_6 l0_7))
theorem sextonlaw23_MsgBack.mono_l : ∀ k, (∀ y0 y1 y2 y3 y4 y5 y6 y7 y8 y9, LeO (sextonlaw23_MsgBack.j0 k y0 y1 y2 y3 y4 y5 y6 y7 y8 y9) (sextonlaw23_MsgBack.j0 (k + 1) y0 y1 y2 y3 y4 y5 y6 y7 y8 y9)) ∧ (∀ y0 y1, LeO (sextonlaw23_MsgBack.j1 k y0 y1) (sextonlaw23_MsgBack.j1 (k + 1) y0 y1))
  | 0 => ⟨fun _ _ _ _ _ _ _ _ _ _ r h => by simp [sextonlaw23_MsgBack.j0] at h, fun _ _ r h => by simp [sextonlaw23_MsgBack.j1] at h⟩
  | k + 1 => by
    obtain ⟨ih0, ih1⟩ := sextonlaw23_MsgBack.mono_l k
    refine ⟨?_, ?_⟩
    · intro y0 y1 y2 y3 y4 y5 y6 y7 y8 y9
      unfold sextonlaw23_MsgBack.j0
      repeat' first
      | (with_reducible exact ih0 _ _ _ _ _ _ _ _ _ _)
      | (with_reducible exact ih1 _ _)
      | (with_reducible exact msg_Is.mono _ _ _ _ _ _ _ _ _)
      | (with_reducible exact sextonref23_Big.mono _ _ _ _ _ _ _ _ _)
      | (with_reducible exact sextonref23_Same.mono _ _ _ _ _ _ _ _ _ _ _ _ _ _ _ _ _)
      | (with_reducible exact LeO.refl _)
      | (with_reducible exact LeO.none _)
      | (with_reducible refine LeO.ite ?_ ?_)
      | (with_reducible refine LeO.bind ?_ (fun _ => ?_))
      | exact ih0 _ _ _ _ _ _ _ _ _ _
      | exact ih1 _ _
      | exact msg_Is.mono _ _ _ _ _ _ _ _ _
      | exact sextonref23_Big.mono _ _ _ _ _ _ _ _ _
      | exact sextonref23_Same.mono _ _ _ _ _ _ _ _ _ _ _ _ _ _ _ _ _
      | exact LeO.none _
      | refine LeO.ite ?_ ?_
      | refine LeO.bind ?_ (fun _ => ?_)
    · intro y0 y1
      unfold sextonlaw23_MsgBack.j1
      repeat' first
      | (with_reducible exact ih0 _ _ _ _ _ _ _ _ _ _)
      | (with_reducible exact ih1 _ _)
      | (with_reducible exact msg_Is.mono _ _ _ _ _ _ _ _ _)
      | (with_reducible exact sextonref23_Big.mono _ _ _ _ _ _ _ _ _)
      | (with_reducible exact sextonref23_Same.mono _ _ _ _ _ _ _ _ _ _ _ _ _ _ _ _ _)
      | (with_reducible exact LeO.refl _)
      | (with_reducible exact LeO.none _)
      | (with_reducible refine LeO.ite ?_ ?_)
      | (with_reducible refine LeO.bind ?_ (fun _ => ?_))
      | exact ih0 _ _ _ _ _ _ _ _ _ _
      | exact ih1 _ _
      | exact msg_Is.mono _ _ _ _ _ _ _ _ _
      | exact sextonref23_Big.mono _ _ _ _ _ _ _ _ _
      | exact sextonref23_Same.mono _ _ _ _ _ _ _ _ _ _ _ _ _ _ _ _ _
      | exact LeO.none _
      | refine LeO.ite ?_ ?_
      | refine LeO.bind ?_ (fun _ => ?_)
theorem sextonlaw23_MsgBack.mono : ∀ a0 a1 a2 a3 a4 a5 a6 a7 a8 k, LeO (sextonlaw23_MsgBack.f k a0 a1 a2 a3 a4 a5 a6 a7 a8) (sextonlaw23_MsgBack.f (k + 1) a0 a1 a2 a3 a4 a5 a6 a7 a8) := by
  intro a0 a1 a2 a3 a4 a5 a6 a7 a8 k
  obtain ⟨ih0, ih1⟩ := sextonlaw23_MsgBack.mono_l k
  unfold sextonlaw23_MsgBack.f
  repeat' first
      | (with_reducible exact ih0 _ _ _ _ _ _ _ _ _ _)
      | (with_reducible exact ih1 _ _)
      | (with_reducible exact msg_Is.mono _ _ _ _ _ _ _ _ _)
      | (with_reducible exact sextonref23_Big.mono _ _ _ _ _ _ _ _ _)
      | (with_reducible exact sextonref23_Same.mono _ _ _ _ _ _ _ _ _ _ _ _ _ _ _ _ _)
      | (with_reducible exact LeO.refl _)
      | (with_reducible exact LeO.none _)
      | (with_reducible refine LeO.ite ?_ ?_)
      | (with_reducible refine LeO.bind ?_ (fun _ => ?_))
      | exact ih0 _ _ _ _ _ _ _ _ _ _
      | exact ih1 _ _
      | exact msg_Is.mono _ _ _ _ _ _ _ _ _
      | exact sextonref23_Big.mono _ _ _ _ _ _ _ _ _
      | exact sextonref23_Same.mono _ _ _ _ _ _ _ _ _ _ _ _ _ _ _ _ _
      | exact LeO.none _
      | refine LeO.ite ?_ ?_
      | refine LeO.bind ?_ (fun _ => ?_)
set_option maxHeartbeats 8000000 in
set_option maxRecDepth 100000 in
theorem sextonlaw23_MsgBack.calls (k : Nat) (a0_0 : Int) (a0_1 : Int) (a0_2 : Int) (a0_3 : Int) (a0_4 : Int) (a0_5 : Int) (a0_6 : Int) (A0_7 : Option Addr) (c0_7 : Nat) (l0_7 : List ByteArray) (a1 : ByteArray) (r : Bool) (hrt : r = true := by rfl) (w : World) (hr0_7 : Kd.C Kd.string w A0_7 l0_7.length l0_7) (hc0_7 : l0_7.length ≤ c0_7) (h : sextonlaw23_MsgBack.f k a0_0 a0_1 a0_2 a0_3 a0_4 a0_5 a0_6 l0_7 a1 = some r) :
    Calls Try.prog 10 #[.agg #[.int .i64 a0_0, .int .i64 a0_1, .int .i64 a0_2, .int .i64 a0_3, .int .i64 a0_4, .int .i64 a0_5, .int .i64 a0_6, .slice A0_7 l0_7.length c0_7], .string a1] w fun e w' => e = .returned (.bool r) ∧ Below w.heap.size w w' := by
  have HRT := Aside0.mk hrt
  have hu29 := Try.underlying29
  have HR0_7 := Aside0.mk hr0_7
  have HC0_7 := Aside0.mk hc0_7
  clear hr0_7 hc0_7
  have HB := Aside0.mk (Below.refl w.heap.size w)
  have H : ((sextonref23_Big.f k a0_0 a0_1 a0_2 a0_3 a0_4 a0_5 a0_6 l0_7).bind fun t240 => (if t240 = true then (sextonlaw23_MsgBack.j0 k a1 true a0_0 a0_1 a0_2 a0_3 a0_4 a0_5 a0_6 l0_7) else (sextonlaw23_MsgBack.j0 k a1 (decide ((a1.size : Int) > 800)) a0_0 a0_1 a0_2 a0_3 a0_4 a0_5 a0_6 l0_7))) = some r := h
  clear h
  have HC3 := Aside0.mk H
  clear H
  go_enter Try.func10, Try.ntmps10
  go_upto_region 1 with (first | ((with_reducible refine gate_dst (N := 2) rfl ?_); (try (refine gate_guard (by rfl) ?_; dsimp only)); refine box_event ?hg (N := 2) ?hd (cs := #[.int .i64 a0_0, .int .i64 a0_1, .int .i64 a0_2, .int .i64 a0_3, .int .i64 a0_4, .int .i64 a0_5, .int .i64 a0_6, .slice A0_7 l0_7.length c0_7]) (t := 29) ?hr ?_; (case hd => rfl); (case hg => rfl); (case hr => first | (go_simp; done) | (go_simp; rfl)); intro gb239 hg w4 hbox hb; have n0_ := Aside0.mk (below_step (by repeat (first | (with_reducible first | exact HB.out | apply below_alloc | apply pw_below_drewN | apply below_drew1) | exact HB.out)) hb); have n1_ := Aside0.mk (hbox); have n2_ := Aside0.mk ((by rw [hg]; exact (below_size (by repeat (first | (with_reducible first | exact HB.out | apply below_alloc | apply pw_below_drewN | apply below_drew1) | exact HB.out))) : w.heap.size ≤ gb239)); have n3_ := Aside0.mk ((by rw [hg]; exact (below_size (by repeat (first | (with_reducible first | exact HB.out | apply below_alloc | apply pw_below_drewN | apply below_drew1) | exact HB.out))) : w.heap.size ≤ gb239)); clear HB; have HB := n0_; have BK239 := n1_; have GW239 := n2_; have GE239 := n3_; clear n0_ n1_ n2_ n3_; clear hb hbox hg))
  (try simp only [Act.put, List.setIfInBounds_toArray, List.set_cons_zero, List.set_cons_succ])
  go_cut [19] (fun v19 wc => ∃ (kq : Nat) (x19_2 : Bool), v19 = .bool x19_2 ∧ Aside0 (sextonlaw23_MsgBack.j0 kq a1 x19_2 a0_0 a0_1 a0_2 a0_3 a0_4 a0_5 a0_6 l0_7 = some r) ∧ Aside0 (kq ≤ k) ∧ Aside0 (wc.heap[gb239]? = some (.cells #[.int .i64 a0_0, .int .i64 a0_1, .int .i64 a0_2, .int .i64 a0_3, .int .i64 a0_4, .int .i64 a0_5, .int .i64 a0_6, (.slice A0_7 l0_7.length c0_7)] 29 (0, 0))) ∧ Aside0 (Below w.heap.size w wc))
  case first =>
    have H := HC3.out
    clear HC3
    replace H := Option.bind_eq_some_iff.mp H
    obtain ⟨t240, A50, H⟩ := H
    replace H : (if t240 = true then (sextonlaw23_MsgBack.j0 k a1 true a0_0 a0_1 a0_2 a0_3 a0_4 a0_5 a0_6 l0_7) else (sextonlaw23_MsgBack.j0 k a1 (decide ((a1.size : Int) > 800)) a0_0 a0_1 a0_2 a0_3 a0_4 a0_5 a0_6 l0_7)) = some r := H
    have A5 := Aside0.mk A50
    clear A50
    by_cases c6 : t240 = true
    · subst c6
      have H1 : (sextonlaw23_MsgBack.j0 k a1 true a0_0 a0_1 a0_2 a0_3 a0_4 a0_5 a0_6 l0_7) = some r := by rw [if_pos rfl] at H; exact H
      clear H
      have H := H1
      clear H1
      have H' := Aside0.mk H
      clear H
      have hcz7_0 : w4.cell? ⟨gb239, 0, none⟩ = some (.int .i64 a0_0) := (blk_cell BK239.out 0).trans rfl
      have hcz7_1 : w4.cell? ⟨gb239, 1, none⟩ = some (.int .i64 a0_1) := (blk_cell BK239.out 1).trans rfl
      have hcz7_2 : w4.cell? ⟨gb239, 2, none⟩ = some (.int .i64 a0_2) := (blk_cell BK239.out 2).trans rfl
      have hcz7_3 : w4.cell? ⟨gb239, 3, none⟩ = some (.int .i64 a0_3) := (blk_cell BK239.out 3).trans rfl
      have hcz7_4 : w4.cell? ⟨gb239, 4, none⟩ = some (.int .i64 a0_4) := (blk_cell BK239.out 4).trans rfl
      have hcz7_5 : w4.cell? ⟨gb239, 5, none⟩ = some (.int .i64 a0_5) := (blk_cell BK239.out 5).trans rfl
      have hcz7_6 : w4.cell? ⟨gb239, 6, none⟩ = some (.int .i64 a0_6) := (blk_cell BK239.out 6).trans rfl
      have hcz7_7 : w4.cell? ⟨gb239, 7, none⟩ = some (.slice A0_7 l0_7.length c0_7) := (blk_cell BK239.out 7).trans rfl
      have hfz7_0 := blk_frozen BK239.out 0
      have hfz7_1 := blk_frozen BK239.out 1
      have hfz7_2 := blk_frozen BK239.out 2
      have hfz7_3 := blk_frozen BK239.out 3
      have hfz7_4 := blk_frozen BK239.out 4
      have hfz7_5 := blk_frozen BK239.out 5
      have hfz7_6 := blk_frozen BK239.out 6
      have hfz7_7 := blk_frozen BK239.out 7
      go_wp2_with (first | ((with_reducible refine gate_callee (f := 30) rfl ?_); refine goesL_ (some 14) rfl rfl Try.func30 (by kernel_rfl) rfl #[.agg #[.int .i64 a0_0, .int .i64 a0_1, .int .i64 a0_2, .int .i64 a0_3, .int .i64 a0_4, .int .i64 a0_5, .int .i64 a0_6, .slice A0_7 l0_7.length c0_7]] rfl (by (try simp only [List.map_toArray, List.map_cons, List.map_nil]); first | done | rfl | (simp only [List.length_drop, List.length_take]; rfl)) ?_; (with_reducible refine (sextonref23_Big.calls k a0_0 a0_1 a0_2 a0_3 a0_4 a0_5 a0_6 _ _ l0_7 true _ ?side1 ?side2 A5.out).mono ?_); (case side1 => repeat (first | exact (Kd.C_below HR0_7.out HB.out) | (with_reducible refine Kd.C_alloc ?_ _) | (with_reducible refine Kd.C_drewN ?_ _) | (with_reducible refine Kd.C_drew ?_))); (case side2 => exact HC0_7.out); rintro e w8 ⟨rfl, hb⟩; refine ⟨_, rfl, ?_⟩; have n0_ := Aside0.mk (blk_below (g := gb239) (o := .cells #[.int .i64 a0_0, .int .i64 a0_1, .int .i64 a0_2, .int .i64 a0_3, .int .i64 a0_4, .int .i64 a0_5, .int .i64 a0_6, .slice A0_7 l0_7.length c0_7] 29 (0, 0)) (by (with_reducible repeat (first | refine blk_drewN ?_ _ | refine blk_drew ?_ | refine blk_alloc ?_ _)); exact BK239.out) hb); have n1_ := Aside0.mk (below_step (by repeat (first | (with_reducible first | exact HB.out | apply below_alloc | apply pw_below_drewN | apply below_drew1 | refine below_set ?_ GE239.out) | exact HB.out)) hb); clear BK239; clear HB; have BK239 := n0_; have HB := n1_; clear n0_ n1_; (try clear hb); (try clear hb2); (try clear hk); (try clear hi)))
      go_meet
      case rel => exact ⟨_, (true), (by first | rfl | (simp; done) | (simp [*]; done)), H', ⟨by first | omega | exact Nat.le_refl _⟩, ⟨by (with_reducible repeat (first | refine blk_drewN ?_ _ | refine blk_drew ?_ | refine blk_alloc ?_ _)); exact BK239.out⟩, ⟨by repeat (first | (with_reducible first | exact HB.out | apply below_alloc | apply pw_below_drewN | apply below_drew1 | refine below_set ?_ GE239.out) | exact HB.out)⟩⟩
    · replace c6 := Bool.eq_false_iff.mpr c6
      subst c6
      have H1 : (sextonlaw23_MsgBack.j0 k a1 (decide ((a1.size : Int) > 800)) a0_0 a0_1 a0_2 a0_3 a0_4 a0_5 a0_6 l0_7) = some r := by rw [if_neg (show ¬ (false = true) by decide)] at H; exact H
      clear H
      have H := H1
      clear H1
      have H' := Aside0.mk H
      clear H
      have hcz9_0 : w4.cell? ⟨gb239, 0, none⟩ = some (.int .i64 a0_0) := (blk_cell BK239.out 0).trans rfl
      have hcz9_1 : w4.cell? ⟨gb239, 1, none⟩ = some (.int .i64 a0_1) := (blk_cell BK239.out 1).trans rfl
      have hcz9_2 : w4.cell? ⟨gb239, 2, none⟩ = some (.int .i64 a0_2) := (blk_cell BK239.out 2).trans rfl
      have hcz9_3 : w4.cell? ⟨gb239, 3, none⟩ = some (.int .i64 a0_3) := (blk_cell BK239.out 3).trans rfl
      have hcz9_4 : w4.cell? ⟨gb239, 4, none⟩ = some (.int .i64 a0_4) := (blk_cell BK239.out 4).trans rfl
      have hcz9_5 : w4.cell? ⟨gb239, 5, none⟩ = some (.int .i64 a0_5) := (blk_cell BK239.out 5).trans rfl
      have hcz9_6 : w4.cell? ⟨gb239, 6, none⟩ = some (.int .i64 a0_6) := (blk_cell BK239.out 6).trans rfl
      have hcz9_7 : w4.cell? ⟨gb239, 7, none⟩ = some (.slice A0_7 l0_7.length c0_7) := (blk_cell BK239.out 7).trans rfl
      have hfz9_0 := blk_frozen BK239.out 0
      have hfz9_1 := blk_frozen BK239.out 1
      have hfz9_2 := blk_frozen BK239.out 2
      have hfz9_3 := blk_frozen BK239.out 3
      have hfz9_4 := blk_frozen BK239.out 4
      have hfz9_5 := blk_frozen BK239.out 5
      have hfz9_6 := blk_frozen BK239.out 6
      have hfz9_7 := blk_frozen BK239.out 7
      go_wp2_with (first | ((with_reducible refine gate_callee (f := 30) rfl ?_); refine goesL_ (some 14) rfl rfl Try.func30 (by kernel_rfl) rfl #[.agg #[.int .i64 a0_0, .int .i64 a0_1, .int .i64 a0_2, .int .i64 a0_3, .int .i64 a0_4, .int .i64 a0_5, .int .i64 a0_6, .slice A0_7 l0_7.length c0_7]] rfl (by (try simp only [List.map_toArray, List.map_cons, List.map_nil]); first | done | rfl | (simp only [List.length_drop, List.length_take]; rfl)) ?_; (with_reducible refine (sextonref23_Big.calls k a0_0 a0_1 a0_2 a0_3 a0_4 a0_5 a0_6 _ _ l0_7 false _ ?side1 ?side2 A5.out).mono ?_); (case side1 => repeat (first | exact (Kd.C_below HR0_7.out HB.out) | (with_reducible refine Kd.C_alloc ?_ _) | (with_reducible refine Kd.C_drewN ?_ _) | (with_reducible refine Kd.C_drew ?_))); (case side2 => exact HC0_7.out); rintro e w10 ⟨rfl, hb⟩; refine ⟨_, rfl, ?_⟩; have n0_ := Aside0.mk (blk_below (g := gb239) (o := .cells #[.int .i64 a0_0, .int .i64 a0_1, .int .i64 a0_2, .int .i64 a0_3, .int .i64 a0_4, .int .i64 a0_5, .int .i64 a0_6, .slice A0_7 l0_7.length c0_7] 29 (0, 0)) (by (with_reducible repeat (first | refine blk_drewN ?_ _ | refine blk_drew ?_ | refine blk_alloc ?_ _)); exact BK239.out) hb); have n1_ := Aside0.mk (below_step (by repeat (first | (with_reducible first | exact HB.out | apply below_alloc | apply pw_below_drewN | apply below_drew1 | refine below_set ?_ GE239.out) | exact HB.out)) hb); clear BK239; clear HB; have BK239 := n0_; have HB := n1_; clear n0_ n1_; (try clear hb); (try clear hb2); (try clear hk); (try clear hi)))
      go_meet
      case rel => exact ⟨_, (decide ((a1.size : Int) > 800)), (by first | rfl | (simp; done) | (simp [*]; done)), H', ⟨by first | omega | exact Nat.le_refl _⟩, ⟨by (with_reducible repeat (first | refine blk_drewN ?_ _ | refine blk_drew ?_ | refine blk_alloc ?_ _)); exact BK239.out⟩, ⟨by repeat (first | (with_reducible first | exact HB.out | apply below_alloc | apply pw_below_drewN | apply below_drew1 | refine below_set ?_ GE239.out) | exact HB.out)⟩⟩
  case rest =>
    clear HC3
    try clear c1
    try clear p2
    try clear c3
    try clear c6
    try clear c10
    try clear hcz7_0
    try clear hcz7_1
    try clear hcz7_2
    try clear hcz7_3
    try clear hcz7_4
    try clear hcz7_5
    try clear hcz7_6
    try clear hcz7_7
    try clear hcz9_0
    try clear hcz9_1
    try clear hcz9_2
    try clear hcz9_3
    try clear hcz9_4
    try clear hcz9_5
    try clear hcz9_6
    try clear hcz9_7
    try clear hfz7_0
    try clear hfz7_1
    try clear hfz7_2
    try clear hfz7_3
    try clear hfz7_4
    try clear hfz7_5
    try clear hfz7_6
    try clear hfz7_7
    try clear hfz9_0
    try clear hfz9_1
    try clear hfz9_2
    try clear hfz9_3
    try clear hfz9_4
    try clear hfz9_5
    try clear hfz9_6
    try clear hfz9_7
    obtain ⟨kq, x19_2, rfl, HA, HJ2, BK239, HB⟩ := hcut
    cases kq with
    | zero => exact absurd HA.out (by simp [sextonlaw23_MsgBack.j0])
    | succ kj2 =>
      have H := HA.out
      clear HA
      simp only [sextonlaw23_MsgBack.j0] at H
      by_cases c11 : x19_2 = true
      · subst c11
        have H1 : (some true) = some r := by rw [if_pos rfl] at H; exact H
        clear H
        have H := H1
        clear H1
        obtain rfl := Option.some.inj H
        go_wp2
        go_ret
        exact ⟨by first | rfl | (simp [errW_none, errW_some] <;> rfl) | (simp [*, errW_none, errW_some] <;> rfl), by repeat (first | (with_reducible first | exact HB.out | apply below_alloc | apply pw_below_drewN | apply below_drew1 | refine below_set ?_ GE239.out) | exact HB.out)⟩
      · replace c11 := Bool.eq_false_iff.mpr c11
        subst c11
        have H1 : ((msg_Put.f a0_0 a0_1 a0_2 a0_3 a0_4 a0_5 a0_6 l0_7).bind fun bt241 => ((msg_Get.f bt241.1).bind fun bt243 => (if bt241.2 = 0 then (if bt243.2.2.2.2.2.2.2.2 = 0 then ((sextonref23_Same.f kj2 bt243.1 bt243.2.1 bt243.2.2.1 bt243.2.2.2.1 bt243.2.2.2.2.1 bt243.2.2.2.2.2.1 bt243.2.2.2.2.2.2.1 bt243.2.2.2.2.2.2.2.1 a0_0 a0_1 a0_2 a0_3 a0_4 a0_5 a0_6 l0_7).bind fun t255 => (if t255 = true then ((msg_Is.f kj2 a0_0 a0_1 a0_2 a0_3 a0_4 a0_5 a0_6 l0_7).bind fun t256 => (sextonlaw23_MsgBack.j1 kj2 a1 ((bt241.2 == 0) != t256))) else (sextonlaw23_MsgBack.j1 kj2 a1 true))) else (sextonlaw23_MsgBack.j1 kj2 a1 true)) else ((msg_Is.f kj2 a0_0 a0_1 a0_2 a0_3 a0_4 a0_5 a0_6 l0_7).bind fun t257 => (sextonlaw23_MsgBack.j1 kj2 a1 ((bt241.2 == 0) != t257)))))) = some r := by rw [if_neg (show ¬ (false = true) by decide)] at H; exact H
        clear H
        have H := H1
        clear H1
        replace H := Option.bind_eq_some_iff.mp H
        obtain ⟨⟨t241, t242⟩, A120, H⟩ := H
        replace H : ((msg_Get.f t241).bind fun bt243 => (if t242 = 0 then (if bt243.2.2.2.2.2.2.2.2 = 0 then ((sextonref23_Same.f kj2 bt243.1 bt243.2.1 bt243.2.2.1 bt243.2.2.2.1 bt243.2.2.2.2.1 bt243.2.2.2.2.2.1 bt243.2.2.2.2.2.2.1 bt243.2.2.2.2.2.2.2.1 a0_0 a0_1 a0_2 a0_3 a0_4 a0_5 a0_6 l0_7).bind fun t255 => (if t255 = true then ((msg_Is.f kj2 a0_0 a0_1 a0_2 a0_3 a0_4 a0_5 a0_6 l0_7).bind fun t256 => (sextonlaw23_MsgBack.j1 kj2 a1 ((t242 == 0) != t256))) else (sextonlaw23_MsgBack.j1 kj2 a1 true))) else (sextonlaw23_MsgBack.j1 kj2 a1 true)) else ((msg_Is.f kj2 a0_0 a0_1 a0_2 a0_3 a0_4 a0_5 a0_6 l0_7).bind fun t257 => (sextonlaw23_MsgBack.j1 kj2 a1 ((t242 == 0) != t257))))) = some r := H
        have A12 := Aside0.mk A120
        clear A120
        replace H := Option.bind_eq_some_iff.mp H
        obtain ⟨⟨t243, t244, t245, t246, t247, t248, t249, t250, t253⟩, A130, H⟩ := H
        replace H : (if t242 = 0 then (if t253 = 0 then ((sextonref23_Same.f kj2 t243 t244 t245 t246 t247 t248 t249 t250 a0_0 a0_1 a0_2 a0_3 a0_4 a0_5 a0_6 l0_7).bind fun t255 => (if t255 = true then ((msg_Is.f kj2 a0_0 a0_1 a0_2 a0_3 a0_4 a0_5 a0_6 l0_7).bind fun t256 => (sextonlaw23_MsgBack.j1 kj2 a1 ((t242 == 0) != t256))) else (sextonlaw23_MsgBack.j1 kj2 a1 true))) else (sextonlaw23_MsgBack.j1 kj2 a1 true)) else ((msg_Is.f kj2 a0_0 a0_1 a0_2 a0_3 a0_4 a0_5 a0_6 l0_7).bind fun t257 => (sextonlaw23_MsgBack.j1 kj2 a1 ((t242 == 0) != t257)))) = some r := H
        have A13 := Aside0.mk A130
        clear A130
        have HC14 := Aside0.mk H
        clear H
        have hcz15_0 : wc.cell? ⟨gb239, 0, none⟩ = some (.int .i64 a0_0) := (blk_cell BK239.out 0).trans rfl
        have hcz15_1 : wc.cell? ⟨gb239, 1, none⟩ = some (.int .i64 a0_1) := (blk_cell BK239.out 1).trans rfl
        have hcz15_2 : wc.cell? ⟨gb239, 2, none⟩ = some (.int .i64 a0_2) := (blk_cell BK239.out 2).trans rfl
        have hcz15_3 : wc.cell? ⟨gb239, 3, none⟩ = some (.int .i64 a0_3) := (blk_cell BK239.out 3).trans rfl
        have hcz15_4 : wc.cell? ⟨gb239, 4, none⟩ = some (.int .i64 a0_4) := (blk_cell BK239.out 4).trans rfl
        have hcz15_5 : wc.cell? ⟨gb239, 5, none⟩ = some (.int .i64 a0_5) := (blk_cell BK239.out 5).trans rfl
        have hcz15_6 : wc.cell? ⟨gb239, 6, none⟩ = some (.int .i64 a0_6) := (blk_cell BK239.out 6).trans rfl
        have hcz15_7 : wc.cell? ⟨gb239, 7, none⟩ = some (.slice A0_7 l0_7.length c0_7) := (blk_cell BK239.out 7).trans rfl
        have hfz15_0 := blk_frozen BK239.out 0
        have hfz15_1 := blk_frozen BK239.out 1
        have hfz15_2 := blk_frozen BK239.out 2
        have hfz15_3 := blk_frozen BK239.out 3
        have hfz15_4 := blk_frozen BK239.out 4
        have hfz15_5 := blk_frozen BK239.out 5
        have hfz15_6 := blk_frozen BK239.out 6
        have hfz15_7 := blk_frozen BK239.out 7
        go_upto_region 5 with (first | ((with_reducible refine gate_callee (f := 31) rfl ?_); refine goesL_ (some 22) rfl rfl Try.func31 (by kernel_rfl) rfl #[.agg #[.int .i64 a0_0, .int .i64 a0_1, .int .i64 a0_2, .int .i64 a0_3, .int .i64 a0_4, .int .i64 a0_5, .int .i64 a0_6, .slice A0_7 l0_7.length c0_7]] rfl (by (try simp only [List.map_toArray, List.map_cons, List.map_nil]); first | done | rfl | (simp only [List.length_drop, List.length_take]; rfl)) ?_; (with_reducible refine (msg_Put.calls a0_0 a0_1 a0_2 a0_3 a0_4 a0_5 a0_6 _ _ l0_7 t241 t242 _ ?side1 ?side2 A12.out).mono ?_); (case side1 => repeat (first | exact (Kd.C_below HR0_7.out HB.out) | (with_reducible refine Kd.C_alloc ?_ _) | (with_reducible refine Kd.C_drewN ?_ _) | (with_reducible refine Kd.C_drew ?_))); (case side2 => exact HC0_7.out); rintro e w16 ⟨rfl, hb⟩; refine ⟨_, rfl, ?_⟩; have n0_ := Aside0.mk (blk_below (g := gb239) (o := .cells #[.int .i64 a0_0, .int .i64 a0_1, .int .i64 a0_2, .int .i64 a0_3, .int .i64 a0_4, .int .i64 a0_5, .int .i64 a0_6, .slice A0_7 l0_7.length c0_7] 29 (0, 0)) (by (with_reducible repeat (first | refine blk_drewN ?_ _ | refine blk_drew ?_ | refine blk_alloc ?_ _)); exact BK239.out) hb); have n1_ := Aside0.mk (below_step (by repeat (first | (with_reducible first | exact HB.out | apply below_alloc | apply pw_below_drewN | apply below_drew1 | refine below_set ?_ GE239.out) | exact HB.out)) hb); clear BK239; clear HB; have BK239 := n0_; have HB := n1_; clear n0_ n1_; (try clear hb); (try clear hb2); (try clear hk); (try clear hi)) | ((with_reducible refine gate_callee (f := 33) rfl ?_); refine goesL_ (some 27) rfl rfl Try.func33 (by kernel_rfl) rfl #[.string t241] rfl (by (try simp only [List.map_toArray, List.map_cons, List.map_nil]); first | done | rfl | (simp only [List.length_drop, List.length_take]; rfl)) ?_; (with_reducible refine (msg_Get.calls t241 t243 t244 t245 t246 t247 t248 t249 t250 t253 _ A13.out).mono ?_); rintro e w17 ⟨v251, rfl, ho0, hb⟩; refine ⟨_, rfl, ?_⟩; have n0_ := Aside0.mk (Kd.R_lower ho0 (below_size (by repeat (first | (with_reducible first | exact HB.out | apply below_alloc | apply pw_below_drewN | apply below_drew1 | refine below_set ?_ GE239.out) | exact HB.out)))); have n1_ := Aside0.mk (blk_below (g := gb239) (o := .cells #[.int .i64 a0_0, .int .i64 a0_1, .int .i64 a0_2, .int .i64 a0_3, .int .i64 a0_4, .int .i64 a0_5, .int .i64 a0_6, .slice A0_7 l0_7.length c0_7] 29 (0, 0)) (by (with_reducible repeat (first | refine blk_drewN ?_ _ | refine blk_drew ?_ | refine blk_alloc ?_ _)); exact BK239.out) hb); have n2_ := Aside0.mk (below_step (by repeat (first | (with_reducible first | exact HB.out | apply below_alloc | apply pw_below_drewN | apply below_drew1 | refine below_set ?_ GE239.out) | exact HB.out)) hb); clear BK239; clear HB; have HO252 := n0_; have BK239 := n1_; have HB := n2_; clear n0_ n1_ n2_; (try clear hb); (try clear hb2); (try clear hk); (try clear hi); (try clear ho0)) | ((with_reducible refine gate_dst (N := 7) rfl ?_); (try (refine gate_guard (by rfl) ?_; dsimp only)); refine box_event ?hg (N := 7) ?hd (cs := #[.int .i64 0, .int .i64 0, .int .i64 0, .int .i64 0, .int .i64 0, .int .i64 0, .int .i64 0, .slice none 0 0]) (t := 29) ?hr ?_; (case hd => rfl); (case hg => rfl); (case hr => first | (go_simp; done) | (go_simp; rfl)); intro gb254 hg w18 hbox hb; have n0_ := Aside0.mk (Kd.R_below (by (with_reducible repeat (first | apply Kd.R_alloc | apply Kd.R_drewN | apply Kd.R_drew)); exact HO252.out) hb); have n1_ := Aside0.mk (blk_below (g := gb239) (o := .cells #[.int .i64 a0_0, .int .i64 a0_1, .int .i64 a0_2, .int .i64 a0_3, .int .i64 a0_4, .int .i64 a0_5, .int .i64 a0_6, .slice A0_7 l0_7.length c0_7] 29 (0, 0)) (by (with_reducible repeat (first | refine blk_drewN ?_ _ | refine blk_drew ?_ | refine blk_alloc ?_ _)); exact BK239.out) hb); have n2_ := Aside0.mk (below_step (by repeat (first | (with_reducible first | exact HB.out | apply below_alloc | apply pw_below_drewN | apply below_drew1 | refine below_set ?_ GE239.out) | exact HB.out)) hb); have n3_ := Aside0.mk (hbox); have n4_ := Aside0.mk ((by rw [hg]; exact (below_size (by repeat (first | (with_reducible first | exact HB.out | apply below_alloc | apply pw_below_drewN | apply below_drew1 | refine below_set ?_ GE239.out) | exact HB.out))) : w.heap.size ≤ gb254)); have n5_ := Aside0.mk ((by rw [hg]; exact (below_size (by repeat (first | (with_reducible first | exact HB.out | apply below_alloc | apply pw_below_drewN | apply below_drew1 | refine below_set ?_ GE239.out) | exact HB.out))) : w.heap.size ≤ gb254)); have n6_ := Aside0.mk ((by rw [hg]; exact Nat.ne_of_lt (blk_lt (g := gb239) (o := .cells #[.int .i64 a0_0, .int .i64 a0_1, .int .i64 a0_2, .int .i64 a0_3, .int .i64 a0_4, .int .i64 a0_5, .int .i64 a0_6, .slice A0_7 l0_7.length c0_7] 29 (0, 0)) (by (with_reducible repeat (first | refine blk_drewN ?_ _ | refine blk_drew ?_ | refine blk_alloc ?_ _)); exact BK239.out)) : gb239 ≠ gb254)); have n7_ := Aside0.mk ((by rw [hg]; exact Nat.ne_of_gt (blk_lt (g := gb239) (o := .cells #[.int .i64 a0_0, .int .i64 a0_1, .int .i64 a0_2, .int .i64 a0_3, .int .i64 a0_4, .int .i64 a0_5, .int .i64 a0_6, .slice A0_7 l0_7.length c0_7] 29 (0, 0)) (by (with_reducible repeat (first | refine blk_drewN ?_ _ | refine blk_drew ?_ | refine blk_alloc ?_ _)); exact BK239.out)) : gb254 ≠ gb239)); clear HO252; clear BK239; clear HB; have HO252 := n0_; have BK239 := n1_; have HB := n2_; have BK254 := n3_; have GW254 := n4_; have GE254 := n5_; have NB239_254 := n6_; have NB254_239 := n7_; clear n0_ n1_ n2_ n3_ n4_ n5_ n6_ n7_; clear hb hbox hg; have hnb19 := NB254_239.out; have hnc19 := NB239_254.out; have hcz20_0 : w18.cell? ⟨gb254, 0, none⟩ = some (.int .i64 0) := (blk_cell BK254.out 0).trans rfl; have hcz20_1 : w18.cell? ⟨gb254, 1, none⟩ = some (.int .i64 0) := (blk_cell BK254.out 1).trans rfl; have hcz20_2 : w18.cell? ⟨gb254, 2, none⟩ = some (.int .i64 0) := (blk_cell BK254.out 2).trans rfl; have hcz20_3 : w18.cell? ⟨gb254, 3, none⟩ = some (.int .i64 0) := (blk_cell BK254.out 3).trans rfl; have hcz20_4 : w18.cell? ⟨gb254, 4, none⟩ = some (.int .i64 0) := (blk_cell BK254.out 4).trans rfl; have hcz20_5 : w18.cell? ⟨gb254, 5, none⟩ = some (.int .i64 0) := (blk_cell BK254.out 5).trans rfl; have hcz20_6 : w18.cell? ⟨gb254, 6, none⟩ = some (.int .i64 0) := (blk_cell BK254.out 6).trans rfl; have hcz20_7 : w18.cell? ⟨gb254, 7, none⟩ = some (.slice none 0 0) := (blk_cell BK254.out 7).trans rfl; have hfz20_0 := blk_frozen BK254.out 0; have hfz20_1 := blk_frozen BK254.out 1; have hfz20_2 := blk_frozen BK254.out 2; have hfz20_3 := blk_frozen BK254.out 3; have hfz20_4 := blk_frozen BK254.out 4; have hfz20_5 := blk_frozen BK254.out 5; have hfz20_6 := blk_frozen BK254.out 6; have hfz20_7 := blk_frozen BK254.out 7; obtain ⟨Ao21, co21, eo21⟩ := Kd.R_slice HO252.out; subst eo21))
        (try simp only [Act.put, List.setIfInBounds_toArray, List.set_cons_zero, List.set_cons_succ])
        go_cut [48] (fun v48 wc => ∃ (kq : Nat) (x48_13 : Bool), v48 = .bool x48_13 ∧ Aside0 (sextonlaw23_MsgBack.j1 kq a1 x48_13 = some r) ∧ Aside0 (kq ≤ kj2) ∧ Aside0 (Kd.R Kd.string 9 wc w.heap.size (fun _ => True) (.slice Ao21 t250.length co21) t250) ∧ Aside0 (wc.heap[gb239]? = some (.cells #[.int .i64 a0_0, .int .i64 a0_1, .int .i64 a0_2, .int .i64 a0_3, .int .i64 a0_4, .int .i64 a0_5, .int .i64 a0_6, (.slice A0_7 l0_7.length c0_7)] 29 (0, 0))) ∧ Aside0 (wc.heap[gb254]? = some (.cells #[.int .i64 t243, .int .i64 t244, .int .i64 t245, .int .i64 t246, .int .i64 t247, .int .i64 t248, .int .i64 t249, (.slice Ao21 t250.length co21)] 29 (0, 0))) ∧ Aside0 (Below w.heap.size w wc))
        case first =>
          have H := HC14.out
          clear HC14
          by_cases c22 : t242 = 0
          · rw [if_pos c22] at H
            have c22b0 : (t242 == 0) = true := beq_iff_eq.mpr c22
            have c22b1 : (t242 != 0) = false := bne_eq_false_iff_eq.mpr c22
            clear c22
            (first | rw [c22b0] | (simp only [i64_w, i32_w]; rw [c22b0]) | skip)
            by_cases c23 : t253 = 0
            · rw [if_pos c23] at H
              have c23b0 : (t253 == 0) = true := beq_iff_eq.mpr c23
              have c23b1 : (t253 != 0) = false := bne_eq_false_iff_eq.mpr c23
              clear c23
              replace H := Option.bind_eq_some_iff.mp H
              obtain ⟨t255, A240, H⟩ := H
              replace H : (if t255 = true then ((msg_Is.f kj2 a0_0 a0_1 a0_2 a0_3 a0_4 a0_5 a0_6 l0_7).bind fun t256 => (sextonlaw23_MsgBack.j1 kj2 a1 ((t242 == 0) != t256))) else (sextonlaw23_MsgBack.j1 kj2 a1 true)) = some r := H
              have A24 := Aside0.mk A240
              clear A240
              by_cases c25 : t255 = true
              · subst c25
                have H1 : ((msg_Is.f kj2 a0_0 a0_1 a0_2 a0_3 a0_4 a0_5 a0_6 l0_7).bind fun t256 => (sextonlaw23_MsgBack.j1 kj2 a1 ((t242 == 0) != t256))) = some r := by rw [if_pos rfl] at H; exact H
                clear H
                have H := H1
                clear H1
                replace H := Option.bind_eq_some_iff.mp H
                obtain ⟨t256, A260, H⟩ := H
                replace H : (sextonlaw23_MsgBack.j1 kj2 a1 ((t242 == 0) != t256)) = some r := H
                have A26 := Aside0.mk A260
                clear A260
                have H' := Aside0.mk H
                clear H
                have hnb27 := NB254_239.out
                have hnc27 := NB239_254.out
                have hcz28_0 : w18.cell? ⟨gb254, 0, none⟩ = some (.int .i64 0) := (blk_cell BK254.out 0).trans rfl
                have hcz28_1 : w18.cell? ⟨gb254, 1, none⟩ = some (.int .i64 0) := (blk_cell BK254.out 1).trans rfl
                have hcz28_2 : w18.cell? ⟨gb254, 2, none⟩ = some (.int .i64 0) := (blk_cell BK254.out 2).trans rfl
                have hcz28_3 : w18.cell? ⟨gb254, 3, none⟩ = some (.int .i64 0) := (blk_cell BK254.out 3).trans rfl
                have hcz28_4 : w18.cell? ⟨gb254, 4, none⟩ = some (.int .i64 0) := (blk_cell BK254.out 4).trans rfl
                have hcz28_5 : w18.cell? ⟨gb254, 5, none⟩ = some (.int .i64 0) := (blk_cell BK254.out 5).trans rfl
                have hcz28_6 : w18.cell? ⟨gb254, 6, none⟩ = some (.int .i64 0) := (blk_cell BK254.out 6).trans rfl
                have hcz28_7 : w18.cell? ⟨gb254, 7, none⟩ = some (.slice none 0 0) := (blk_cell BK254.out 7).trans rfl
                have hfz28_0 := blk_frozen BK254.out 0
                have hfz28_1 := blk_frozen BK254.out 1
                have hfz28_2 := blk_frozen BK254.out 2
                have hfz28_3 := blk_frozen BK254.out 3
                have hfz28_4 := blk_frozen BK254.out 4
                have hfz28_5 := blk_frozen BK254.out 5
                have hfz28_6 := blk_frozen BK254.out 6
                have hfz28_7 := blk_frozen BK254.out 7
                have hcz29_0 : w18.cell? ⟨gb239, 0, none⟩ = some (.int .i64 a0_0) := (blk_cell BK239.out 0).trans rfl
                have hcz29_1 : w18.cell? ⟨gb239, 1, none⟩ = some (.int .i64 a0_1) := (blk_cell BK239.out 1).trans rfl
                have hcz29_2 : w18.cell? ⟨gb239, 2, none⟩ = some (.int .i64 a0_2) := (blk_cell BK239.out 2).trans rfl
                have hcz29_3 : w18.cell? ⟨gb239, 3, none⟩ = some (.int .i64 a0_3) := (blk_cell BK239.out 3).trans rfl
                have hcz29_4 : w18.cell? ⟨gb239, 4, none⟩ = some (.int .i64 a0_4) := (blk_cell BK239.out 4).trans rfl
                have hcz29_5 : w18.cell? ⟨gb239, 5, none⟩ = some (.int .i64 a0_5) := (blk_cell BK239.out 5).trans rfl
                have hcz29_6 : w18.cell? ⟨gb239, 6, none⟩ = some (.int .i64 a0_6) := (blk_cell BK239.out 6).trans rfl
                have hcz29_7 : w18.cell? ⟨gb239, 7, none⟩ = some (.slice A0_7 l0_7.length c0_7) := (blk_cell BK239.out 7).trans rfl
                have hfz29_0 := blk_frozen BK239.out 0
                have hfz29_1 := blk_frozen BK239.out 1
                have hfz29_2 := blk_frozen BK239.out 2
                have hfz29_3 := blk_frozen BK239.out 3
                have hfz29_4 := blk_frozen BK239.out 4
                have hfz29_5 := blk_frozen BK239.out 5
                have hfz29_6 := blk_frozen BK239.out 6
                have hfz29_7 := blk_frozen BK239.out 7
                go_wp2_with (first | (go_at_call 26; (with_reducible refine (sextonref23_Same.calls kj2 t243 t244 t245 t246 t247 t248 t249 _ _ t250 a0_0 a0_1 a0_2 a0_3 a0_4 a0_5 a0_6 _ _ l0_7 true _ ?side1 ?side2 ?side3 ?side4 A24.out).mono ?_); (case side1 => refine (Kd.R_reads' (e := 9) (base := w.heap.size) (ok := fun k_ => True) (n := t250.length) (c := co21) ?_).2.2; exact (by (with_reducible repeat (first | apply Kd.R_alloc | apply Kd.R_drewN | apply Kd.R_drew)); exact (Kd.R_mono (Kd.R_far (p := ⟨gb254, 7, none⟩) (Kd.R_far (p := ⟨gb254, 6, none⟩) (Kd.R_far (p := ⟨gb254, 5, none⟩) (Kd.R_far (p := ⟨gb254, 4, none⟩) (Kd.R_far (p := ⟨gb254, 3, none⟩) (Kd.R_far (p := ⟨gb254, 2, none⟩) (Kd.R_far (p := ⟨gb254, 1, none⟩) (Kd.R_far (p := ⟨gb254, 0, none⟩) (Kd.R_types HO252.out BK254.out (by decide)) (fun _ hk => hk.2) (.int .i64 t243)) (fun _ hk => hk.2) (.int .i64 t244)) (fun _ hk => hk.2) (.int .i64 t245)) (fun _ hk => hk.2) (.int .i64 t246)) (fun _ hk => hk.2) (.int .i64 t247)) (fun _ hk => hk.2) (.int .i64 t248)) (fun _ hk => hk.2) (.int .i64 t249)) (fun _ hk => hk.2) (.slice Ao21 t250.length co21)) (fun _ h_ => h_.1)))); (case side2 => exact (Kd.R_reads' HO252.out).2.1); (case side3 => exact Kd.C_below HR0_7.out (by repeat (first | (with_reducible first | exact HB.out | apply below_alloc | apply pw_below_drewN | apply below_drew1 | refine below_set ?_ GE239.out | refine below_set ?_ GE254.out) | exact HB.out))); (case side4 => exact HC0_7.out); rintro e w30 ⟨rfl, hb⟩; have n0_ := Aside0.mk (Kd.R_below (by (with_reducible repeat (first | apply Kd.R_alloc | apply Kd.R_drewN | apply Kd.R_drew)); exact (Kd.R_mono (Kd.R_far (p := ⟨gb254, 7, none⟩) (Kd.R_far (p := ⟨gb254, 6, none⟩) (Kd.R_far (p := ⟨gb254, 5, none⟩) (Kd.R_far (p := ⟨gb254, 4, none⟩) (Kd.R_far (p := ⟨gb254, 3, none⟩) (Kd.R_far (p := ⟨gb254, 2, none⟩) (Kd.R_far (p := ⟨gb254, 1, none⟩) (Kd.R_far (p := ⟨gb254, 0, none⟩) (Kd.R_types HO252.out BK254.out (by decide)) (fun _ hk => hk.2) (.int .i64 t243)) (fun _ hk => hk.2) (.int .i64 t244)) (fun _ hk => hk.2) (.int .i64 t245)) (fun _ hk => hk.2) (.int .i64 t246)) (fun _ hk => hk.2) (.int .i64 t247)) (fun _ hk => hk.2) (.int .i64 t248)) (fun _ hk => hk.2) (.int .i64 t249)) (fun _ hk => hk.2) (.slice Ao21 t250.length co21)) (fun _ h_ => h_.1))) hb); have n1_ := Aside0.mk (blk_below (g := gb239) (o := .cells #[.int .i64 a0_0, .int .i64 a0_1, .int .i64 a0_2, .int .i64 a0_3, .int .i64 a0_4, .int .i64 a0_5, .int .i64 a0_6, .slice A0_7 l0_7.length c0_7] 29 (0, 0)) (by (with_reducible repeat (first | refine blk_drewN ?_ _ | refine blk_drew ?_ | refine blk_alloc ?_ _)); refine blk_far ?_ NB239_254.out _; (with_reducible repeat (first | refine blk_drewN ?_ _ | refine blk_drew ?_ | refine blk_alloc ?_ _)); refine blk_far ?_ NB239_254.out _; (with_reducible repeat (first | refine blk_drewN ?_ _ | refine blk_drew ?_ | refine blk_alloc ?_ _)); refine blk_far ?_ NB239_254.out _; (with_reducible repeat (first | refine blk_drewN ?_ _ | refine blk_drew ?_ | refine blk_alloc ?_ _)); refine blk_far ?_ NB239_254.out _; (with_reducible repeat (first | refine blk_drewN ?_ _ | refine blk_drew ?_ | refine blk_alloc ?_ _)); refine blk_far ?_ NB239_254.out _; (with_reducible repeat (first | refine blk_drewN ?_ _ | refine blk_drew ?_ | refine blk_alloc ?_ _)); refine blk_far ?_ NB239_254.out _; (with_reducible repeat (first | refine blk_drewN ?_ _ | refine blk_drew ?_ | refine blk_alloc ?_ _)); refine blk_far ?_ NB239_254.out _; (with_reducible repeat (first | refine blk_drewN ?_ _ | refine blk_drew ?_ | refine blk_alloc ?_ _)); refine blk_far ?_ NB239_254.out _; (with_reducible repeat (first | refine blk_drewN ?_ _ | refine blk_drew ?_ | refine blk_alloc ?_ _)); exact BK239.out) hb); have n2_ := Aside0.mk (blk_below (g := gb254) (o := .cells #[.int .i64 t243, .int .i64 t244, .int .i64 t245, .int .i64 t246, .int .i64 t247, .int .i64 t248, .int .i64 t249, .slice Ao21 t250.length co21] 29 (0, 0)) (by (with_reducible repeat (first | refine blk_drewN ?_ _ | refine blk_drew ?_ | refine blk_alloc ?_ _)); refine blk_put (cs := #[.int .i64 t243, .int .i64 t244, .int .i64 t245, .int .i64 t246, .int .i64 t247, .int .i64 t248, .int .i64 t249, .slice none 0 0]) ?_ 7 _ rfl; (with_reducible repeat (first | refine blk_drewN ?_ _ | refine blk_drew ?_ | refine blk_alloc ?_ _)); refine blk_put (cs := #[.int .i64 t243, .int .i64 t244, .int .i64 t245, .int .i64 t246, .int .i64 t247, .int .i64 t248, .int .i64 0, .slice none 0 0]) ?_ 6 _ rfl; (with_reducible repeat (first | refine blk_drewN ?_ _ | refine blk_drew ?_ | refine blk_alloc ?_ _)); refine blk_put (cs := #[.int .i64 t243, .int .i64 t244, .int .i64 t245, .int .i64 t246, .int .i64 t247, .int .i64 0, .int .i64 0, .slice none 0 0]) ?_ 5 _ rfl; (with_reducible repeat (first | refine blk_drewN ?_ _ | refine blk_drew ?_ | refine blk_alloc ?_ _)); refine blk_put (cs := #[.int .i64 t243, .int .i64 t244, .int .i64 t245, .int .i64 t246, .int .i64 0, .int .i64 0, .int .i64 0, .slice none 0 0]) ?_ 4 _ rfl; (with_reducible repeat (first | refine blk_drewN ?_ _ | refine blk_drew ?_ | refine blk_alloc ?_ _)); refine blk_put (cs := #[.int .i64 t243, .int .i64 t244, .int .i64 t245, .int .i64 0, .int .i64 0, .int .i64 0, .int .i64 0, .slice none 0 0]) ?_ 3 _ rfl; (with_reducible repeat (first | refine blk_drewN ?_ _ | refine blk_drew ?_ | refine blk_alloc ?_ _)); refine blk_put (cs := #[.int .i64 t243, .int .i64 t244, .int .i64 0, .int .i64 0, .int .i64 0, .int .i64 0, .int .i64 0, .slice none 0 0]) ?_ 2 _ rfl; (with_reducible repeat (first | refine blk_drewN ?_ _ | refine blk_drew ?_ | refine blk_alloc ?_ _)); refine blk_put (cs := #[.int .i64 t243, .int .i64 0, .int .i64 0, .int .i64 0, .int .i64 0, .int .i64 0, .int .i64 0, .slice none 0 0]) ?_ 1 _ rfl; (with_reducible repeat (first | refine blk_drewN ?_ _ | refine blk_drew ?_ | refine blk_alloc ?_ _)); refine blk_put (cs := #[.int .i64 0, .int .i64 0, .int .i64 0, .int .i64 0, .int .i64 0, .int .i64 0, .int .i64 0, .slice none 0 0]) ?_ 0 _ rfl; (with_reducible repeat (first | refine blk_drewN ?_ _ | refine blk_drew ?_ | refine blk_alloc ?_ _)); exact BK254.out) hb); have n3_ := Aside0.mk (below_step (by repeat (first | (with_reducible first | exact HB.out | apply below_alloc | apply pw_below_drewN | apply below_drew1 | refine below_set ?_ GE239.out | refine below_set ?_ GE254.out) | exact HB.out)) hb); clear HO252; clear BK239; clear BK254; clear HB; have HO252 := n0_; have BK239 := n1_; have BK254 := n2_; have HB := n3_; clear n0_ n1_ n2_ n3_; (try clear hb); (try clear hb2); (try clear hk); (try clear hi); have hcz31_0 : w30.cell? ⟨gb239, 0, none⟩ = some (.int .i64 a0_0) := (blk_cell BK239.out 0).trans rfl; have hcz31_1 : w30.cell? ⟨gb239, 1, none⟩ = some (.int .i64 a0_1) := (blk_cell BK239.out 1).trans rfl; have hcz31_2 : w30.cell? ⟨gb239, 2, none⟩ = some (.int .i64 a0_2) := (blk_cell BK239.out 2).trans rfl; have hcz31_3 : w30.cell? ⟨gb239, 3, none⟩ = some (.int .i64 a0_3) := (blk_cell BK239.out 3).trans rfl; have hcz31_4 : w30.cell? ⟨gb239, 4, none⟩ = some (.int .i64 a0_4) := (blk_cell BK239.out 4).trans rfl; have hcz31_5 : w30.cell? ⟨gb239, 5, none⟩ = some (.int .i64 a0_5) := (blk_cell BK239.out 5).trans rfl; have hcz31_6 : w30.cell? ⟨gb239, 6, none⟩ = some (.int .i64 a0_6) := (blk_cell BK239.out 6).trans rfl; have hcz31_7 : w30.cell? ⟨gb239, 7, none⟩ = some (.slice A0_7 l0_7.length c0_7) := (blk_cell BK239.out 7).trans rfl; have hfz31_0 := blk_frozen BK239.out 0; have hfz31_1 := blk_frozen BK239.out 1; have hfz31_2 := blk_frozen BK239.out 2; have hfz31_3 := blk_frozen BK239.out 3; have hfz31_4 := blk_frozen BK239.out 4; have hfz31_5 := blk_frozen BK239.out 5; have hfz31_6 := blk_frozen BK239.out 6; have hfz31_7 := blk_frozen BK239.out 7) | (go_at_call 36; (with_reducible refine (msg_Is.calls kj2 a0_0 a0_1 a0_2 a0_3 a0_4 a0_5 a0_6 _ _ l0_7 t256 _ ?side1 ?side2 A26.out).mono ?_); (case side1 => repeat (first | exact (Kd.C_below HR0_7.out HB.out) | (with_reducible refine Kd.C_alloc ?_ _) | (with_reducible refine Kd.C_drewN ?_ _) | (with_reducible refine Kd.C_drew ?_))); (case side2 => exact HC0_7.out); rintro e w32 ⟨rfl, hb⟩; have n0_ := Aside0.mk (Kd.R_below (by (with_reducible repeat (first | apply Kd.R_alloc | apply Kd.R_drewN | apply Kd.R_drew)); exact HO252.out) hb); have n1_ := Aside0.mk (blk_below (g := gb239) (o := .cells #[.int .i64 a0_0, .int .i64 a0_1, .int .i64 a0_2, .int .i64 a0_3, .int .i64 a0_4, .int .i64 a0_5, .int .i64 a0_6, .slice A0_7 l0_7.length c0_7] 29 (0, 0)) (by (with_reducible repeat (first | refine blk_drewN ?_ _ | refine blk_drew ?_ | refine blk_alloc ?_ _)); exact BK239.out) hb); have n2_ := Aside0.mk (blk_below (g := gb254) (o := .cells #[.int .i64 t243, .int .i64 t244, .int .i64 t245, .int .i64 t246, .int .i64 t247, .int .i64 t248, .int .i64 t249, .slice Ao21 t250.length co21] 29 (0, 0)) (by (with_reducible repeat (first | refine blk_drewN ?_ _ | refine blk_drew ?_ | refine blk_alloc ?_ _)); exact BK254.out) hb); have n3_ := Aside0.mk (below_step (by repeat (first | (with_reducible first | exact HB.out | apply below_alloc | apply pw_below_drewN | apply below_drew1 | refine below_set ?_ GE239.out | refine below_set ?_ GE254.out) | exact HB.out)) hb); clear HO252; clear BK239; clear BK254; clear HB; have HO252 := n0_; have BK239 := n1_; have BK254 := n2_; have HB := n3_; clear n0_ n1_ n2_ n3_; (try clear hb); (try clear hb2); (try clear hk); (try clear hi)))
                go_meet
                case rel => exact ⟨_, (((t242 == 0) != t256)), (by first | rfl | (simp; done) | (simp [*]; done)), H', ⟨by have := HJ2.out; first | omega | exact Nat.le_refl _⟩, ⟨by (with_reducible repeat (first | apply Kd.R_alloc | apply Kd.R_drewN | apply Kd.R_drew)); exact HO252.out⟩, ⟨by (with_reducible repeat (first | refine blk_drewN ?_ _ | refine blk_drew ?_ | refine blk_alloc ?_ _)); exact BK239.out⟩, ⟨by (with_reducible repeat (first | refine blk_drewN ?_ _ | refine blk_drew ?_ | refine blk_alloc ?_ _)); exact BK254.out⟩, ⟨by repeat (first | (with_reducible first | exact HB.out | apply below_alloc | apply pw_below_drewN | apply below_drew1 | refine below_set ?_ GE239.out | refine below_set ?_ GE254.out) | exact HB.out)⟩⟩
              · replace c25 := Bool.eq_false_iff.mpr c25
                subst c25
                have H1 : (sextonlaw23_MsgBack.j1 kj2 a1 true) = some r := by rw [if_neg (show ¬ (false = true) by decide)] at H; exact H
                clear H
                have H := H1
                clear H1
                have H' := Aside0.mk H
                clear H
                have hnb33 := NB254_239.out
                have hnc33 := NB239_254.out
                have hcz34_0 : w18.cell? ⟨gb254, 0, none⟩ = some (.int .i64 0) := (blk_cell BK254.out 0).trans rfl
                have hcz34_1 : w18.cell? ⟨gb254, 1, none⟩ = some (.int .i64 0) := (blk_cell BK254.out 1).trans rfl
                have hcz34_2 : w18.cell? ⟨gb254, 2, none⟩ = some (.int .i64 0) := (blk_cell BK254.out 2).trans rfl
                have hcz34_3 : w18.cell? ⟨gb254, 3, none⟩ = some (.int .i64 0) := (blk_cell BK254.out 3).trans rfl
                have hcz34_4 : w18.cell? ⟨gb254, 4, none⟩ = some (.int .i64 0) := (blk_cell BK254.out 4).trans rfl
                have hcz34_5 : w18.cell? ⟨gb254, 5, none⟩ = some (.int .i64 0) := (blk_cell BK254.out 5).trans rfl
                have hcz34_6 : w18.cell? ⟨gb254, 6, none⟩ = some (.int .i64 0) := (blk_cell BK254.out 6).trans rfl
                have hcz34_7 : w18.cell? ⟨gb254, 7, none⟩ = some (.slice none 0 0) := (blk_cell BK254.out 7).trans rfl
                have hfz34_0 := blk_frozen BK254.out 0
                have hfz34_1 := blk_frozen BK254.out 1
                have hfz34_2 := blk_frozen BK254.out 2
                have hfz34_3 := blk_frozen BK254.out 3
                have hfz34_4 := blk_frozen BK254.out 4
                have hfz34_5 := blk_frozen BK254.out 5
                have hfz34_6 := blk_frozen BK254.out 6
                have hfz34_7 := blk_frozen BK254.out 7
                have hcz35_0 : w18.cell? ⟨gb239, 0, none⟩ = some (.int .i64 a0_0) := (blk_cell BK239.out 0).trans rfl
                have hcz35_1 : w18.cell? ⟨gb239, 1, none⟩ = some (.int .i64 a0_1) := (blk_cell BK239.out 1).trans rfl
                have hcz35_2 : w18.cell? ⟨gb239, 2, none⟩ = some (.int .i64 a0_2) := (blk_cell BK239.out 2).trans rfl
                have hcz35_3 : w18.cell? ⟨gb239, 3, none⟩ = some (.int .i64 a0_3) := (blk_cell BK239.out 3).trans rfl
                have hcz35_4 : w18.cell? ⟨gb239, 4, none⟩ = some (.int .i64 a0_4) := (blk_cell BK239.out 4).trans rfl
                have hcz35_5 : w18.cell? ⟨gb239, 5, none⟩ = some (.int .i64 a0_5) := (blk_cell BK239.out 5).trans rfl
                have hcz35_6 : w18.cell? ⟨gb239, 6, none⟩ = some (.int .i64 a0_6) := (blk_cell BK239.out 6).trans rfl
                have hcz35_7 : w18.cell? ⟨gb239, 7, none⟩ = some (.slice A0_7 l0_7.length c0_7) := (blk_cell BK239.out 7).trans rfl
                have hfz35_0 := blk_frozen BK239.out 0
                have hfz35_1 := blk_frozen BK239.out 1
                have hfz35_2 := blk_frozen BK239.out 2
                have hfz35_3 := blk_frozen BK239.out 3
                have hfz35_4 := blk_frozen BK239.out 4
                have hfz35_5 := blk_frozen BK239.out 5
                have hfz35_6 := blk_frozen BK239.out 6
                have hfz35_7 := blk_frozen BK239.out 7
                go_wp2_with (first | (go_at_call 26; (with_reducible refine (sextonref23_Same.calls kj2 t243 t244 t245 t246 t247 t248 t249 _ _ t250 a0_0 a0_1 a0_2 a0_3 a0_4 a0_5 a0_6 _ _ l0_7 false _ ?side1 ?side2 ?side3 ?side4 A24.out).mono ?_); (case side1 => refine (Kd.R_reads' (e := 9) (base := w.heap.size) (ok := fun k_ => True) (n := t250.length) (c := co21) ?_).2.2; exact (by (with_reducible repeat (first | apply Kd.R_alloc | apply Kd.R_drewN | apply Kd.R_drew)); exact (Kd.R_mono (Kd.R_far (p := ⟨gb254, 7, none⟩) (Kd.R_far (p := ⟨gb254, 6, none⟩) (Kd.R_far (p := ⟨gb254, 5, none⟩) (Kd.R_far (p := ⟨gb254, 4, none⟩) (Kd.R_far (p := ⟨gb254, 3, none⟩) (Kd.R_far (p := ⟨gb254, 2, none⟩) (Kd.R_far (p := ⟨gb254, 1, none⟩) (Kd.R_far (p := ⟨gb254, 0, none⟩) (Kd.R_types HO252.out BK254.out (by decide)) (fun _ hk => hk.2) (.int .i64 t243)) (fun _ hk => hk.2) (.int .i64 t244)) (fun _ hk => hk.2) (.int .i64 t245)) (fun _ hk => hk.2) (.int .i64 t246)) (fun _ hk => hk.2) (.int .i64 t247)) (fun _ hk => hk.2) (.int .i64 t248)) (fun _ hk => hk.2) (.int .i64 t249)) (fun _ hk => hk.2) (.slice Ao21 t250.length co21)) (fun _ h_ => h_.1)))); (case side2 => exact (Kd.R_reads' HO252.out).2.1); (case side3 => exact Kd.C_below HR0_7.out (by repeat (first | (with_reducible first | exact HB.out | apply below_alloc | apply pw_below_drewN | apply below_drew1 | refine below_set ?_ GE239.out | refine below_set ?_ GE254.out) | exact HB.out))); (case side4 => exact HC0_7.out); rintro e w36 ⟨rfl, hb⟩; have n0_ := Aside0.mk (Kd.R_below (by (with_reducible repeat (first | apply Kd.R_alloc | apply Kd.R_drewN | apply Kd.R_drew)); exact (Kd.R_mono (Kd.R_far (p := ⟨gb254, 7, none⟩) (Kd.R_far (p := ⟨gb254, 6, none⟩) (Kd.R_far (p := ⟨gb254, 5, none⟩) (Kd.R_far (p := ⟨gb254, 4, none⟩) (Kd.R_far (p := ⟨gb254, 3, none⟩) (Kd.R_far (p := ⟨gb254, 2, none⟩) (Kd.R_far (p := ⟨gb254, 1, none⟩) (Kd.R_far (p := ⟨gb254, 0, none⟩) (Kd.R_types HO252.out BK254.out (by decide)) (fun _ hk => hk.2) (.int .i64 t243)) (fun _ hk => hk.2) (.int .i64 t244)) (fun _ hk => hk.2) (.int .i64 t245)) (fun _ hk => hk.2) (.int .i64 t246)) (fun _ hk => hk.2) (.int .i64 t247)) (fun _ hk => hk.2) (.int .i64 t248)) (fun _ hk => hk.2) (.int .i64 t249)) (fun _ hk => hk.2) (.slice Ao21 t250.length co21)) (fun _ h_ => h_.1))) hb); have n1_ := Aside0.mk (blk_below (g := gb239) (o := .cells #[.int .i64 a0_0, .int .i64 a0_1, .int .i64 a0_2, .int .i64 a0_3, .int .i64 a0_4, .int .i64 a0_5, .int .i64 a0_6, .slice A0_7 l0_7.length c0_7] 29 (0, 0)) (by (with_reducible repeat (first | refine blk_drewN ?_ _ | refine blk_drew ?_ | refine blk_alloc ?_ _)); refine blk_far ?_ NB239_254.out _; (with_reducible repeat (first | refine blk_drewN ?_ _ | refine blk_drew ?_ | refine blk_alloc ?_ _)); refine blk_far ?_ NB239_254.out _; (with_reducible repeat (first | refine blk_drewN ?_ _ | refine blk_drew ?_ | refine blk_alloc ?_ _)); refine blk_far ?_ NB239_254.out _; (with_reducible repeat (first | refine blk_drewN ?_ _ | refine blk_drew ?_ | refine blk_alloc ?_ _)); refine blk_far ?_ NB239_254.out _; (with_reducible repeat (first | refine blk_drewN ?_ _ | refine blk_drew ?_ | refine blk_alloc ?_ _)); refine blk_far ?_ NB239_254.out _; (with_reducible repeat (first | refine blk_drewN ?_ _ | refine blk_drew ?_ | refine blk_alloc ?_ _)); refine blk_far ?_ NB239_254.out _; (with_reducible repeat (first | refine blk_drewN ?_ _ | refine blk_drew ?_ | refine blk_alloc ?_ _)); refine blk_far ?_ NB239_254.out _; (with_reducible repeat (first | refine blk_drewN ?_ _ | refine blk_drew ?_ | refine blk_alloc ?_ _)); refine blk_far ?_ NB239_254.out _; (with_reducible repeat (first | refine blk_drewN ?_ _ | refine blk_drew ?_ | refine blk_alloc ?_ _)); exact BK239.out) hb); have n2_ := Aside0.mk (blk_below (g := gb254) (o := .cells #[.int .i64 t243, .int .i64 t244, .int .i64 t245, .int .i64 t246, .int .i64 t247, .int .i64 t248, .int .i64 t249, .slice Ao21 t250.length co21] 29 (0, 0)) (by (with_reducible repeat (first | refine blk_drewN ?_ _ | refine blk_drew ?_ | refine blk_alloc ?_ _)); refine blk_put (cs := #[.int .i64 t243, .int .i64 t244, .int .i64 t245, .int .i64 t246, .int .i64 t247, .int .i64 t248, .int .i64 t249, .slice none 0 0]) ?_ 7 _ rfl; (with_reducible repeat (first | refine blk_drewN ?_ _ | refine blk_drew ?_ | refine blk_alloc ?_ _)); refine blk_put (cs := #[.int .i64 t243, .int .i64 t244, .int .i64 t245, .int .i64 t246, .int .i64 t247, .int .i64 t248, .int .i64 0, .slice none 0 0]) ?_ 6 _ rfl; (with_reducible repeat (first | refine blk_drewN ?_ _ | refine blk_drew ?_ | refine blk_alloc ?_ _)); refine blk_put (cs := #[.int .i64 t243, .int .i64 t244, .int .i64 t245, .int .i64 t246, .int .i64 t247, .int .i64 0, .int .i64 0, .slice none 0 0]) ?_ 5 _ rfl; (with_reducible repeat (first | refine blk_drewN ?_ _ | refine blk_drew ?_ | refine blk_alloc ?_ _)); refine blk_put (cs := #[.int .i64 t243, .int .i64 t244, .int .i64 t245, .int .i64 t246, .int .i64 0, .int .i64 0, .int .i64 0, .slice none 0 0]) ?_ 4 _ rfl; (with_reducible repeat (first | refine blk_drewN ?_ _ | refine blk_drew ?_ | refine blk_alloc ?_ _)); refine blk_put (cs := #[.int .i64 t243, .int .i64 t244, .int .i64 t245, .int .i64 0, .int .i64 0, .int .i64 0, .int .i64 0, .slice none 0 0]) ?_ 3 _ rfl; (with_reducible repeat (first | refine blk_drewN ?_ _ | refine blk_drew ?_ | refine blk_alloc ?_ _)); refine blk_put (cs := #[.int .i64 t243, .int .i64 t244, .int .i64 0, .int .i64 0, .int .i64 0, .int .i64 0, .int .i64 0, .slice none 0 0]) ?_ 2 _ rfl; (with_reducible repeat (first | refine blk_drewN ?_ _ | refine blk_drew ?_ | refine blk_alloc ?_ _)); refine blk_put (cs := #[.int .i64 t243, .int .i64 0, .int .i64 0, .int .i64 0, .int .i64 0, .int .i64 0, .int .i64 0, .slice none 0 0]) ?_ 1 _ rfl; (with_reducible repeat (first | refine blk_drewN ?_ _ | refine blk_drew ?_ | refine blk_alloc ?_ _)); refine blk_put (cs := #[.int .i64 0, .int .i64 0, .int .i64 0, .int .i64 0, .int .i64 0, .int .i64 0, .int .i64 0, .slice none 0 0]) ?_ 0 _ rfl; (with_reducible repeat (first | refine blk_drewN ?_ _ | refine blk_drew ?_ | refine blk_alloc ?_ _)); exact BK254.out) hb); have n3_ := Aside0.mk (below_step (by repeat (first | (with_reducible first | exact HB.out | apply below_alloc | apply pw_below_drewN | apply below_drew1 | refine below_set ?_ GE239.out | refine below_set ?_ GE254.out) | exact HB.out)) hb); clear HO252; clear BK239; clear BK254; clear HB; have HO252 := n0_; have BK239 := n1_; have BK254 := n2_; have HB := n3_; clear n0_ n1_ n2_ n3_; (try clear hb); (try clear hb2); (try clear hk); (try clear hi)))
                go_meet
                case rel => exact ⟨_, (true), (by first | rfl | (simp; done) | (simp [*]; done)), H', ⟨by have := HJ2.out; first | omega | exact Nat.le_refl _⟩, ⟨by (with_reducible repeat (first | apply Kd.R_alloc | apply Kd.R_drewN | apply Kd.R_drew)); exact HO252.out⟩, ⟨by (with_reducible repeat (first | refine blk_drewN ?_ _ | refine blk_drew ?_ | refine blk_alloc ?_ _)); exact BK239.out⟩, ⟨by (with_reducible repeat (first | refine blk_drewN ?_ _ | refine blk_drew ?_ | refine blk_alloc ?_ _)); exact BK254.out⟩, ⟨by repeat (first | (with_reducible first | exact HB.out | apply below_alloc | apply pw_below_drewN | apply below_drew1 | refine below_set ?_ GE239.out | refine below_set ?_ GE254.out) | exact HB.out)⟩⟩
            · rw [if_neg c23] at H
              have c23b0 : (t253 == 0) = false := beq_eq_false_iff_ne.mpr c23
              have c23b1 : (t253 != 0) = true := bne_iff_ne.mpr c23
              have H' := Aside0.mk H
              clear H
              go_wp2
              go_meet
              case rel => exact ⟨_, (true), (by first | rfl | (simp; done) | (simp [*]; done)), H', ⟨by have := HJ2.out; first | omega | exact Nat.le_refl _⟩, ⟨by (with_reducible repeat (first | apply Kd.R_alloc | apply Kd.R_drewN | apply Kd.R_drew)); exact Kd.R_mono (Kd.R_far (p := ⟨gb254, 7, none⟩) (Kd.R_far (p := ⟨gb254, 6, none⟩) (Kd.R_far (p := ⟨gb254, 5, none⟩) (Kd.R_far (p := ⟨gb254, 4, none⟩) (Kd.R_far (p := ⟨gb254, 3, none⟩) (Kd.R_far (p := ⟨gb254, 2, none⟩) (Kd.R_far (p := ⟨gb254, 1, none⟩) (Kd.R_far (p := ⟨gb254, 0, none⟩) (Kd.R_types HO252.out BK254.out (by decide)) (fun _ hk => hk.2) (.int .i64 t243)) (fun _ hk => hk.2) (.int .i64 t244)) (fun _ hk => hk.2) (.int .i64 t245)) (fun _ hk => hk.2) (.int .i64 t246)) (fun _ hk => hk.2) (.int .i64 t247)) (fun _ hk => hk.2) (.int .i64 t248)) (fun _ hk => hk.2) (.int .i64 t249)) (fun _ hk => hk.2) (.slice Ao21 t250.length co21)) (fun _ hk => trivial)⟩, ⟨by (with_reducible repeat (first | refine blk_drewN ?_ _ | refine blk_drew ?_ | refine blk_alloc ?_ _)); refine blk_far ?_ NB239_254.out _; (with_reducible repeat (first | refine blk_drewN ?_ _ | refine blk_drew ?_ | refine blk_alloc ?_ _)); refine blk_far ?_ NB239_254.out _; (with_reducible repeat (first | refine blk_drewN ?_ _ | refine blk_drew ?_ | refine blk_alloc ?_ _)); refine blk_far ?_ NB239_254.out _; (with_reducible repeat (first | refine blk_drewN ?_ _ | refine blk_drew ?_ | refine blk_alloc ?_ _)); refine blk_far ?_ NB239_254.out _; (with_reducible repeat (first | refine blk_drewN ?_ _ | refine blk_drew ?_ | refine blk_alloc ?_ _)); refine blk_far ?_ NB239_254.out _; (with_reducible repeat (first | refine blk_drewN ?_ _ | refine blk_drew ?_ | refine blk_alloc ?_ _)); refine blk_far ?_ NB239_254.out _; (with_reducible repeat (first | refine blk_drewN ?_ _ | refine blk_drew ?_ | refine blk_alloc ?_ _)); refine blk_far ?_ NB239_254.out _; (with_reducible repeat (first | refine blk_drewN ?_ _ | refine blk_drew ?_ | refine blk_alloc ?_ _)); refine blk_far ?_ NB239_254.out _; (with_reducible repeat (first | refine blk_drewN ?_ _ | refine blk_drew ?_ | refine blk_alloc ?_ _)); exact BK239.out⟩, ⟨by (with_reducible repeat (first | refine blk_drewN ?_ _ | refine blk_drew ?_ | refine blk_alloc ?_ _)); refine blk_put (cs := #[.int .i64 t243, .int .i64 t244, .int .i64 t245, .int .i64 t246, .int .i64 t247, .int .i64 t248, .int .i64 t249, .slice none 0 0]) ?_ 7 _ rfl; (with_reducible repeat (first | refine blk_drewN ?_ _ | refine blk_drew ?_ | refine blk_alloc ?_ _)); refine blk_put (cs := #[.int .i64 t243, .int .i64 t244, .int .i64 t245, .int .i64 t246, .int .i64 t247, .int .i64 t248, .int .i64 0, .slice none 0 0]) ?_ 6 _ rfl; (with_reducible repeat (first | refine blk_drewN ?_ _ | refine blk_drew ?_ | refine blk_alloc ?_ _)); refine blk_put (cs := #[.int .i64 t243, .int .i64 t244, .int .i64 t245, .int .i64 t246, .int .i64 t247, .int .i64 0, .int .i64 0, .slice none 0 0]) ?_ 5 _ rfl; (with_reducible repeat (first | refine blk_drewN ?_ _ | refine blk_drew ?_ | refine blk_alloc ?_ _)); refine blk_put (cs := #[.int .i64 t243, .int .i64 t244, .int .i64 t245, .int .i64 t246, .int .i64 0, .int .i64 0, .int .i64 0, .slice none 0 0]) ?_ 4 _ rfl; (with_reducible repeat (first | refine blk_drewN ?_ _ | refine blk_drew ?_ | refine blk_alloc ?_ _)); refine blk_put (cs := #[.int .i64 t243, .int .i64 t244, .int .i64 t245, .int .i64 0, .int .i64 0, .int .i64 0, .int .i64 0, .slice none 0 0]) ?_ 3 _ rfl; (with_reducible repeat (first | refine blk_drewN ?_ _ | refine blk_drew ?_ | refine blk_alloc ?_ _)); refine blk_put (cs := #[.int .i64 t243, .int .i64 t244, .int .i64 0, .int .i64 0, .int .i64 0, .int .i64 0, .int .i64 0, .slice none 0 0]) ?_ 2 _ rfl; (with_reducible repeat (first | refine blk_drewN ?_ _ | refine blk_drew ?_ | refine blk_alloc ?_ _)); refine blk_put (cs := #[.int .i64 t243, .int .i64 0, .int .i64 0, .int .i64 0, .int .i64 0, .int .i64 0, .int .i64 0, .slice none 0 0]) ?_ 1 _ rfl; (with_reducible repeat (first | refine blk_drewN ?_ _ | refine blk_drew ?_ | refine blk_alloc ?_ _)); refine blk_put (cs := #[.int .i64 0, .int .i64 0, .int .i64 0, .int .i64 0, .int .i64 0, .int .i64 0, .int .i64 0, .slice none 0 0]) ?_ 0 _ rfl; (with_reducible repeat (first | refine blk_drewN ?_ _ | refine blk_drew ?_ | refine blk_alloc ?_ _)); exact BK254.out⟩, ⟨by repeat (first | (with_reducible first | exact HB.out | apply below_alloc | apply pw_below_drewN | apply below_drew1 | refine below_set ?_ GE239.out | refine below_set ?_ GE254.out) | exact HB.out)⟩⟩
          · rw [if_neg c22] at H
            have c22b0 : (t242 == 0) = false := beq_eq_false_iff_ne.mpr c22
            have c22b1 : (t242 != 0) = true := bne_iff_ne.mpr c22
            (first | rw [c22b0] | (simp only [i64_w, i32_w]; rw [c22b0]) | skip)
            replace H := Option.bind_eq_some_iff.mp H
            obtain ⟨t257, A370, H⟩ := H
            replace H : (sextonlaw23_MsgBack.j1 kj2 a1 ((t242 == 0) != t257)) = some r := H
            have A37 := Aside0.mk A370
            clear A370
            have H' := Aside0.mk H
            clear H
            have hnb38 := NB239_254.out
            have hnc38 := NB254_239.out
            have hcz39_0 : w18.cell? ⟨gb239, 0, none⟩ = some (.int .i64 a0_0) := (blk_cell BK239.out 0).trans rfl
            have hcz39_1 : w18.cell? ⟨gb239, 1, none⟩ = some (.int .i64 a0_1) := (blk_cell BK239.out 1).trans rfl
            have hcz39_2 : w18.cell? ⟨gb239, 2, none⟩ = some (.int .i64 a0_2) := (blk_cell BK239.out 2).trans rfl
            have hcz39_3 : w18.cell? ⟨gb239, 3, none⟩ = some (.int .i64 a0_3) := (blk_cell BK239.out 3).trans rfl
            have hcz39_4 : w18.cell? ⟨gb239, 4, none⟩ = some (.int .i64 a0_4) := (blk_cell BK239.out 4).trans rfl
            have hcz39_5 : w18.cell? ⟨gb239, 5, none⟩ = some (.int .i64 a0_5) := (blk_cell BK239.out 5).trans rfl
            have hcz39_6 : w18.cell? ⟨gb239, 6, none⟩ = some (.int .i64 a0_6) := (blk_cell BK239.out 6).trans rfl
            have hcz39_7 : w18.cell? ⟨gb239, 7, none⟩ = some (.slice A0_7 l0_7.length c0_7) := (blk_cell BK239.out 7).trans rfl
            have hfz39_0 := blk_frozen BK239.out 0
            have hfz39_1 := blk_frozen BK239.out 1
            have hfz39_2 := blk_frozen BK239.out 2
            have hfz39_3 := blk_frozen BK239.out 3
            have hfz39_4 := blk_frozen BK239.out 4
            have hfz39_5 := blk_frozen BK239.out 5
            have hfz39_6 := blk_frozen BK239.out 6
            have hfz39_7 := blk_frozen BK239.out 7
            go_wp2_with (first | (go_at_call 36; (with_reducible refine (msg_Is.calls kj2 a0_0 a0_1 a0_2 a0_3 a0_4 a0_5 a0_6 _ _ l0_7 t257 _ ?side1 ?side2 A37.out).mono ?_); (case side1 => exact Kd.C_below HR0_7.out (by repeat (first | (with_reducible first | exact HB.out | apply below_alloc | apply pw_below_drewN | apply below_drew1 | refine below_set ?_ GE239.out | refine below_set ?_ GE254.out) | exact HB.out))); (case side2 => exact HC0_7.out); rintro e w40 ⟨rfl, hb⟩; have n0_ := Aside0.mk (Kd.R_below (by (with_reducible repeat (first | apply Kd.R_alloc | apply Kd.R_drewN | apply Kd.R_drew)); exact (Kd.R_mono (Kd.R_far (p := ⟨gb254, 7, none⟩) (Kd.R_far (p := ⟨gb254, 6, none⟩) (Kd.R_far (p := ⟨gb254, 5, none⟩) (Kd.R_far (p := ⟨gb254, 4, none⟩) (Kd.R_far (p := ⟨gb254, 3, none⟩) (Kd.R_far (p := ⟨gb254, 2, none⟩) (Kd.R_far (p := ⟨gb254, 1, none⟩) (Kd.R_far (p := ⟨gb254, 0, none⟩) (Kd.R_types HO252.out BK254.out (by decide)) (fun _ hk => hk.2) (.int .i64 t243)) (fun _ hk => hk.2) (.int .i64 t244)) (fun _ hk => hk.2) (.int .i64 t245)) (fun _ hk => hk.2) (.int .i64 t246)) (fun _ hk => hk.2) (.int .i64 t247)) (fun _ hk => hk.2) (.int .i64 t248)) (fun _ hk => hk.2) (.int .i64 t249)) (fun _ hk => hk.2) (.slice Ao21 t250.length co21)) (fun _ h_ => h_.1))) hb); have n1_ := Aside0.mk (blk_below (g := gb239) (o := .cells #[.int .i64 a0_0, .int .i64 a0_1, .int .i64 a0_2, .int .i64 a0_3, .int .i64 a0_4, .int .i64 a0_5, .int .i64 a0_6, .slice A0_7 l0_7.length c0_7] 29 (0, 0)) (by (with_reducible repeat (first | refine blk_drewN ?_ _ | refine blk_drew ?_ | refine blk_alloc ?_ _)); refine blk_far ?_ NB239_254.out _; (with_reducible repeat (first | refine blk_drewN ?_ _ | refine blk_drew ?_ | refine blk_alloc ?_ _)); refine blk_far ?_ NB239_254.out _; (with_reducible repeat (first | refine blk_drewN ?_ _ | refine blk_drew ?_ | refine blk_alloc ?_ _)); refine blk_far ?_ NB239_254.out _; (with_reducible repeat (first | refine blk_drewN ?_ _ | refine blk_drew ?_ | refine blk_alloc ?_ _)); refine blk_far ?_ NB239_254.out _; (with_reducible repeat (first | refine blk_drewN ?_ _ | refine blk_drew ?_ | refine blk_alloc ?_ _)); refine blk_far ?_ NB239_254.out _; (with_reducible repeat (first | refine blk_drewN ?_ _ | refine blk_drew ?_ | refine blk_alloc ?_ _)); refine blk_far ?_ NB239_254.out _; (with_reducible repeat (first | refine blk_drewN ?_ _ | refine blk_drew ?_ | refine blk_alloc ?_ _)); refine blk_far ?_ NB239_254.out _; (with_reducible repeat (first | refine blk_drewN ?_ _ | refine blk_drew ?_ | refine blk_alloc ?_ _)); refine blk_far ?_ NB239_254.out _; (with_reducible repeat (first | refine blk_drewN ?_ _ | refine blk_drew ?_ | refine blk_alloc ?_ _)); exact BK239.out) hb); have n2_ := Aside0.mk (blk_below (g := gb254) (o := .cells #[.int .i64 t243, .int .i64 t244, .int .i64 t245, .int .i64 t246, .int .i64 t247, .int .i64 t248, .int .i64 t249, .slice Ao21 t250.length co21] 29 (0, 0)) (by (with_reducible repeat (first | refine blk_drewN ?_ _ | refine blk_drew ?_ | refine blk_alloc ?_ _)); refine blk_put (cs := #[.int .i64 t243, .int .i64 t244, .int .i64 t245, .int .i64 t246, .int .i64 t247, .int .i64 t248, .int .i64 t249, .slice none 0 0]) ?_ 7 _ rfl; (with_reducible repeat (first | refine blk_drewN ?_ _ | refine blk_drew ?_ | refine blk_alloc ?_ _)); refine blk_put (cs := #[.int .i64 t243, .int .i64 t244, .int .i64 t245, .int .i64 t246, .int .i64 t247, .int .i64 t248, .int .i64 0, .slice none 0 0]) ?_ 6 _ rfl; (with_reducible repeat (first | refine blk_drewN ?_ _ | refine blk_drew ?_ | refine blk_alloc ?_ _)); refine blk_put (cs := #[.int .i64 t243, .int .i64 t244, .int .i64 t245, .int .i64 t246, .int .i64 t247, .int .i64 0, .int .i64 0, .slice none 0 0]) ?_ 5 _ rfl; (with_reducible repeat (first | refine blk_drewN ?_ _ | refine blk_drew ?_ | refine blk_alloc ?_ _)); refine blk_put (cs := #[.int .i64 t243, .int .i64 t244, .int .i64 t245, .int .i64 t246, .int .i64 0, .int .i64 0, .int .i64 0, .slice none 0 0]) ?_ 4 _ rfl; (with_reducible repeat (first | refine blk_drewN ?_ _ | refine blk_drew ?_ | refine blk_alloc ?_ _)); refine blk_put (cs := #[.int .i64 t243, .int .i64 t244, .int .i64 t245, .int .i64 0, .int .i64 0, .int .i64 0, .int .i64 0, .slice none 0 0]) ?_ 3 _ rfl; (with_reducible repeat (first | refine blk_drewN ?_ _ | refine blk_drew ?_ | refine blk_alloc ?_ _)); refine blk_put (cs := #[.int .i64 t243, .int .i64 t244, .int .i64 0, .int .i64 0, .int .i64 0, .int .i64 0, .int .i64 0, .slice none 0 0]) ?_ 2 _ rfl; (with_reducible repeat (first | refine blk_drewN ?_ _ | refine blk_drew ?_ | refine blk_alloc ?_ _)); refine blk_put (cs := #[.int .i64 t243, .int .i64 0, .int .i64 0, .int .i64 0, .int .i64 0, .int .i64 0, .int .i64 0, .slice none 0 0]) ?_ 1 _ rfl; (with_reducible repeat (first | refine blk_drewN ?_ _ | refine blk_drew ?_ | refine blk_alloc ?_ _)); refine blk_put (cs := #[.int .i64 0, .int .i64 0, .int .i64 0, .int .i64 0, .int .i64 0, .int .i64 0, .int .i64 0, .slice none 0 0]) ?_ 0 _ rfl; (with_reducible repeat (first | refine blk_drewN ?_ _ | refine blk_drew ?_ | refine blk_alloc ?_ _)); exact BK254.out) hb); have n3_ := Aside0.mk (below_step (by repeat (first | (with_reducible first | exact HB.out | apply below_alloc | apply pw_below_drewN | apply below_drew1 | refine below_set ?_ GE239.out | refine below_set ?_ GE254.out) | exact HB.out)) hb); clear HO252; clear BK239; clear BK254; clear HB; have HO252 := n0_; have BK239 := n1_; have BK254 := n2_; have HB := n3_; clear n0_ n1_ n2_ n3_; (try clear hb); (try clear hb2); (try clear hk); (try clear hi)))
            go_meet
            case rel => exact ⟨_, (((t242 == 0) != t257)), (by first | rfl | (simp; done) | (simp [*]; done)), H', ⟨by have := HJ2.out; first | omega | exact Nat.le_refl _⟩, ⟨by (with_reducible repeat (first | apply Kd.R_alloc | apply Kd.R_drewN | apply Kd.R_drew)); exact HO252.out⟩, ⟨by (with_reducible repeat (first | refine blk_drewN ?_ _ | refine blk_drew ?_ | refine blk_alloc ?_ _)); exact BK239.out⟩, ⟨by (with_reducible repeat (first | refine blk_drewN ?_ _ | refine blk_drew ?_ | refine blk_alloc ?_ _)); exact BK254.out⟩, ⟨by repeat (first | (with_reducible first | exact HB.out | apply below_alloc | apply pw_below_drewN | apply below_drew1 | refine below_set ?_ GE239.out | refine below_set ?_ GE254.out) | exact HB.out)⟩⟩
        case rest =>
          clear HC14
          try clear c1
          try clear c2
          try clear p2
          try clear c3
          try clear c6
          try clear c10
          try clear c11
          try clear c19
          try clear c22
          try clear c22b0
          try clear c22b1
          try clear c23
          try clear c23b0
          try clear c23b1
          try clear c25
          try clear c27
          try clear c30
          try clear c31
          try clear c33
          try clear c38
          try clear hcz15_0
          try clear hcz15_1
          try clear hcz15_2
          try clear hcz15_3
          try clear hcz15_4
          try clear hcz15_5
          try clear hcz15_6
          try clear hcz15_7
          try clear hcz20_0
          try clear hcz20_1
          try clear hcz20_2
          try clear hcz20_3
          try clear hcz20_4
          try clear hcz20_5
          try clear hcz20_6
          try clear hcz20_7
          try clear hcz28_0
          try clear hcz28_1
          try clear hcz28_2
          try clear hcz28_3
          try clear hcz28_4
          try clear hcz28_5
          try clear hcz28_6
          try clear hcz28_7
          try clear hcz29_0
          try clear hcz29_1
          try clear hcz29_2
          try clear hcz29_3
          try clear hcz29_4
          try clear hcz29_5
          try clear hcz29_6
          try clear hcz29_7
          try clear hcz31_0
          try clear hcz31_1
          try clear hcz31_2
          try clear hcz31_3
          try clear hcz31_4
          try clear hcz31_5
          try clear hcz31_6
          try clear hcz31_7
          try clear hcz34_0
          try clear hcz34_1
          try clear hcz34_2
          try clear hcz34_3
          try clear hcz34_4
          try clear hcz34_5
          try clear hcz34_6
          try clear hcz34_7
          try clear hcz35_0
          try clear hcz35_1
          try clear hcz35_2
          try clear hcz35_3
          try clear hcz35_4
          try clear hcz35_5
          try clear hcz35_6
          try clear hcz35_7
          try clear hcz39_0
          try clear hcz39_1
          try clear hcz39_2
          try clear hcz39_3
          try clear hcz39_4
          try clear hcz39_5
          try clear hcz39_6
          try clear hcz39_7
          try clear hcz7_0
          try clear hcz7_1
          try clear hcz7_2
          try clear hcz7_3
          try clear hcz7_4
          try clear hcz7_5
          try clear hcz7_6
          try clear hcz7_7
          try clear hcz9_0
          try clear hcz9_1
          try clear hcz9_2
          try clear hcz9_3
          try clear hcz9_4
          try clear hcz9_5
          try clear hcz9_6
          try clear hcz9_7
          try clear hfz15_0
          try clear hfz15_1
          try clear hfz15_2
          try clear hfz15_3
          try clear hfz15_4
          try clear hfz15_5
          try clear hfz15_6
          try clear hfz15_7
          try clear hfz20_0
          try clear hfz20_1
          try clear hfz20_2
          try clear hfz20_3
          try clear hfz20_4
          try clear hfz20_5
          try clear hfz20_6
          try clear hfz20_7
          try clear hfz28_0
          try clear hfz28_1
          try clear hfz28_2
          try clear hfz28_3
          try clear hfz28_4
          try clear hfz28_5
          try clear hfz28_6
          try clear hfz28_7
          try clear hfz29_0
          try clear hfz29_1
          try clear hfz29_2
          try clear hfz29_3
          try clear hfz29_4
          try clear hfz29_5
          try clear hfz29_6
          try clear hfz29_7
          try clear hfz31_0
          try clear hfz31_1
          try clear hfz31_2
          try clear hfz31_3
          try clear hfz31_4
          try clear hfz31_5
          try clear hfz31_6
          try clear hfz31_7
          try clear hfz34_0
          try clear hfz34_1
          try clear hfz34_2
          try clear hfz34_3
          try clear hfz34_4
          try clear hfz34_5
          try clear hfz34_6
          try clear hfz34_7
          try clear hfz35_0
          try clear hfz35_1
          try clear hfz35_2
          try clear hfz35_3
          try clear hfz35_4
          try clear hfz35_5
          try clear hfz35_6
          try clear hfz35_7
          try clear hfz39_0
          try clear hfz39_1
          try clear hfz39_2
          try clear hfz39_3
          try clear hfz39_4
          try clear hfz39_5
          try clear hfz39_6
          try clear hfz39_7
          try clear hfz7_0
          try clear hfz7_1
          try clear hfz7_2
          try clear hfz7_3
          try clear hfz7_4
          try clear hfz7_5
          try clear hfz7_6
          try clear hfz7_7
          try clear hfz9_0
          try clear hfz9_1
          try clear hfz9_2
          try clear hfz9_3
          try clear hfz9_4
          try clear hfz9_5
          try clear hfz9_6
          try clear hfz9_7
          try clear p2
          obtain ⟨kq, x48_13, rfl, HA, HJ13, HO_255007, BK239, BK254, HB⟩ := hcut
          cases kq with
          | zero => exact absurd HA.out (by simp [sextonlaw23_MsgBack.j1])
          | succ kj13 =>
            have H := HA.out
            clear HA
            simp only [sextonlaw23_MsgBack.j1] at H
            by_cases c41 : x48_13 = true
            · subst c41
              have H1 : (some false) = some r := by rw [if_pos rfl] at H; exact H
              exact absurd (H1.trans (congrArg some HRT.out)) (by decide)
            · replace c41 := Bool.eq_false_iff.mpr c41
              subst c41
              have H1 : ((msg_Get.f a1).bind fun bt258 => ((msg_Put.f bt258.1 bt258.2.1 bt258.2.2.1 bt258.2.2.2.1 bt258.2.2.2.2.1 bt258.2.2.2.2.2.1 bt258.2.2.2.2.2.2.1 bt258.2.2.2.2.2.2.2.1).bind fun bt270 => ((sextonlaw23_sent.f).bind fun t272 => (if t272 = true then (if bt258.2.2.2.2.2.2.2.2 = 0 then (if bt270.2 = 0 then (if bt270.1.toList = a1.toList then ((msg_Is.f kj13 bt258.1 bt258.2.1 bt258.2.2.1 bt258.2.2.2.1 bt258.2.2.2.2.1 bt258.2.2.2.2.2.1 bt258.2.2.2.2.2.2.1 bt258.2.2.2.2.2.2.2.1).bind fun t273 => (some t273)) else (some false)) else (some false)) else (some true)) else (some false))))) = some r := by rw [if_neg (show ¬ (false = true) by decide)] at H; exact H
              clear H
              have H := H1
              clear H1
              replace H := Option.bind_eq_some_iff.mp H
              obtain ⟨⟨t258, t259, t260, t261, t262, t263, t264, t265, t268⟩, A420, H⟩ := H
              replace H : ((msg_Put.f t258 t259 t260 t261 t262 t263 t264 t265).bind fun bt270 => ((sextonlaw23_sent.f).bind fun t272 => (if t272 = true then (if t268 = 0 then (if bt270.2 = 0 then (if bt270.1.toList = a1.toList then ((msg_Is.f kj13 t258 t259 t260 t261 t262 t263 t264 t265).bind fun t273 => (some t273)) else (some false)) else (some false)) else (some true)) else (some false)))) = some r := H
              have A42 := Aside0.mk A420
              clear A420
              replace H := Option.bind_eq_some_iff.mp H
              obtain ⟨⟨t270, t271⟩, A430, H⟩ := H
              replace H : ((sextonlaw23_sent.f).bind fun t272 => (if t272 = true then (if t268 = 0 then (if t271 = 0 then (if t270.toList = a1.toList then ((msg_Is.f kj13 t258 t259 t260 t261 t262 t263 t264 t265).bind fun t273 => (some t273)) else (some false)) else (some false)) else (some true)) else (some false))) = some r := H
              have A43 := Aside0.mk A430
              clear A430
              replace H := Option.bind_eq_some_iff.mp H
              obtain ⟨t272, A440, H⟩ := H
              replace H : (if t272 = true then (if t268 = 0 then (if t271 = 0 then (if t270.toList = a1.toList then ((msg_Is.f kj13 t258 t259 t260 t261 t262 t263 t264 t265).bind fun t273 => (some t273)) else (some false)) else (some false)) else (some true)) else (some false)) = some r := H
              have A44 := Aside0.mk A440
              clear A440
              by_cases c45 : t272 = true
              · subst c45
                have H1 : (if t268 = 0 then (if t271 = 0 then (if t270.toList = a1.toList then ((msg_Is.f kj13 t258 t259 t260 t261 t262 t263 t264 t265).bind fun t273 => (some t273)) else (some false)) else (some false)) else (some true)) = some r := by rw [if_pos rfl] at H; exact H
                clear H
                have H := H1
                clear H1
                by_cases c46 : t268 = 0
                · rw [if_pos c46] at H
                  have c46b0 : (t268 == 0) = true := beq_iff_eq.mpr c46
                  have c46b1 : (t268 != 0) = false := bne_eq_false_iff_eq.mpr c46
                  clear c46
                  by_cases c47 : t271 = 0
                  · rw [if_pos c47] at H
                    have c47b0 : (t271 == 0) = true := beq_iff_eq.mpr c47
                    have c47b1 : (t271 != 0) = false := bne_eq_false_iff_eq.mpr c47
                    clear c47
                    by_cases c48 : t270.toList = a1.toList
                    · rw [if_pos c48] at H
                      have c48b0 : (t270.toList == a1.toList) = true := beq_iff_eq.mpr c48
                      have c48b1 : (t270.toList != a1.toList) = false := bne_eq_false_iff_eq.mpr c48
                      clear c48
                      replace H := Option.bind_eq_some_iff.mp H
                      obtain ⟨t273, A490, H⟩ := H
                      replace H : (some t273) = some r := H
                      have A49 := Aside0.mk A490
                      clear A490
                      obtain rfl := Option.some.inj H
                      go_wp2_with (first | ((with_reducible refine gate_callee (f := 33) rfl ?_); refine goesL_ (some 51) rfl rfl Try.func33 (by kernel_rfl) rfl #[.string a1] rfl (by (try simp only [List.map_toArray, List.map_cons, List.map_nil]); first | done | rfl | (simp only [List.length_drop, List.length_take]; rfl)) ?_; (with_reducible refine (msg_Get.calls a1 t258 t259 t260 t261 t262 t263 t264 t265 t268 _ A42.out).mono ?_); rintro e w50 ⟨v266, rfl, ho0, hb⟩; refine ⟨_, rfl, ?_⟩; have n0_ := Aside0.mk (Kd.R_elder' (by (with_reducible repeat (first | apply Kd.R_alloc | apply Kd.R_drewN | apply Kd.R_drew)); exact HO_255007.out) (Kd.R_base ho0) hb); have n1_ := Aside0.mk (Kd.R_lower (Kd.R_new' ho0 (Kd.R_lt (by (with_reducible repeat (first | apply Kd.R_alloc | apply Kd.R_drewN | apply Kd.R_drew)); exact HO_255007.out))) (below_size (by repeat (first | (with_reducible first | exact HB.out | apply below_alloc | apply pw_below_drewN | apply below_drew1 | refine below_set ?_ GE239.out | refine below_set ?_ GE254.out) | exact HB.out)))); have n2_ := Aside0.mk (blk_below (g := gb239) (o := .cells #[.int .i64 a0_0, .int .i64 a0_1, .int .i64 a0_2, .int .i64 a0_3, .int .i64 a0_4, .int .i64 a0_5, .int .i64 a0_6, .slice A0_7 l0_7.length c0_7] 29 (0, 0)) (by (with_reducible repeat (first | refine blk_drewN ?_ _ | refine blk_drew ?_ | refine blk_alloc ?_ _)); exact BK239.out) hb); have n3_ := Aside0.mk (blk_below (g := gb254) (o := .cells #[.int .i64 t243, .int .i64 t244, .int .i64 t245, .int .i64 t246, .int .i64 t247, .int .i64 t248, .int .i64 t249, .slice Ao21 t250.length co21] 29 (0, 0)) (by (with_reducible repeat (first | refine blk_drewN ?_ _ | refine blk_drew ?_ | refine blk_alloc ?_ _)); exact BK254.out) hb); have n4_ := Aside0.mk (below_step (by repeat (first | (with_reducible first | exact HB.out | apply below_alloc | apply pw_below_drewN | apply below_drew1 | refine below_set ?_ GE239.out | refine below_set ?_ GE254.out) | exact HB.out)) hb); clear HO_255007; clear BK239; clear BK254; clear HB; have HO_255007 := n0_; have HO267 := n1_; have BK239 := n2_; have BK254 := n3_; have HB := n4_; clear n0_ n1_ n2_ n3_ n4_; (try clear hb); (try clear hb2); (try clear hk); (try clear hi); (try clear ho0)) | ((with_reducible refine gate_dst (N := 9) rfl ?_); (try (refine gate_guard (by rfl) ?_; dsimp only)); refine box_event ?hg (N := 9) ?hd (cs := #[.int .i64 0, .int .i64 0, .int .i64 0, .int .i64 0, .int .i64 0, .int .i64 0, .int .i64 0, .slice none 0 0]) (t := 29) ?hr ?_; (case hd => rfl); (case hg => rfl); (case hr => first | (go_simp; done) | (go_simp; rfl)); intro gb269 hg w51 hbox hb; have n0_ := Aside0.mk (Kd.R_below (by (with_reducible repeat (first | apply Kd.R_alloc | apply Kd.R_drewN | apply Kd.R_drew)); exact HO_255007.out) hb); have n1_ := Aside0.mk (Kd.R_below (by (with_reducible repeat (first | apply Kd.R_alloc | apply Kd.R_drewN | apply Kd.R_drew)); exact HO267.out) hb); have n2_ := Aside0.mk (blk_below (g := gb239) (o := .cells #[.int .i64 a0_0, .int .i64 a0_1, .int .i64 a0_2, .int .i64 a0_3, .int .i64 a0_4, .int .i64 a0_5, .int .i64 a0_6, .slice A0_7 l0_7.length c0_7] 29 (0, 0)) (by (with_reducible repeat (first | refine blk_drewN ?_ _ | refine blk_drew ?_ | refine blk_alloc ?_ _)); exact BK239.out) hb); have n3_ := Aside0.mk (blk_below (g := gb254) (o := .cells #[.int .i64 t243, .int .i64 t244, .int .i64 t245, .int .i64 t246, .int .i64 t247, .int .i64 t248, .int .i64 t249, .slice Ao21 t250.length co21] 29 (0, 0)) (by (with_reducible repeat (first | refine blk_drewN ?_ _ | refine blk_drew ?_ | refine blk_alloc ?_ _)); exact BK254.out) hb); have n4_ := Aside0.mk (below_step (by repeat (first | (with_reducible first | exact HB.out | apply below_alloc | apply pw_below_drewN | apply below_drew1 | refine below_set ?_ GE239.out | refine below_set ?_ GE254.out) | exact HB.out)) hb); have n5_ := Aside0.mk (hbox); have n6_ := Aside0.mk ((by rw [hg]; exact (below_size (by repeat (first | (with_reducible first | exact HB.out | apply below_alloc | apply pw_below_drewN | apply below_drew1 | refine below_set ?_ GE239.out | refine below_set ?_ GE254.out) | exact HB.out))) : w.heap.size ≤ gb269)); have n7_ := Aside0.mk ((by rw [hg]; exact (below_size (by repeat (first | (with_reducible first | exact HB.out | apply below_alloc | apply pw_below_drewN | apply below_drew1 | refine below_set ?_ GE239.out | refine below_set ?_ GE254.out) | exact HB.out))) : w.heap.size ≤ gb269)); have n8_ := Aside0.mk ((by rw [hg]; exact Nat.ne_of_lt (blk_lt (g := gb239) (o := .cells #[.int .i64 a0_0, .int .i64 a0_1, .int .i64 a0_2, .int .i64 a0_3, .int .i64 a0_4, .int .i64 a0_5, .int .i64 a0_6, .slice A0_7 l0_7.length c0_7] 29 (0, 0)) (by (with_reducible repeat (first | refine blk_drewN ?_ _ | refine blk_drew ?_ | refine blk_alloc ?_ _)); exact BK239.out)) : gb239 ≠ gb269)); have n9_ := Aside0.mk ((by rw [hg]; exact Nat.ne_of_gt (blk_lt (g := gb239) (o := .cells #[.int .i64 a0_0, .int .i64 a0_1, .int .i64 a0_2, .int .i64 a0_3, .int .i64 a0_4, .int .i64 a0_5, .int .i64 a0_6, .slice A0_7 l0_7.length c0_7] 29 (0, 0)) (by (with_reducible repeat (first | refine blk_drewN ?_ _ | refine blk_drew ?_ | refine blk_alloc ?_ _)); exact BK239.out)) : gb269 ≠ gb239)); have n10_ := Aside0.mk ((by rw [hg]; exact Nat.ne_of_lt (blk_lt (g := gb254) (o := .cells #[.int .i64 t243, .int .i64 t244, .int .i64 t245, .int .i64 t246, .int .i64 t247, .int .i64 t248, .int .i64 t249, .slice Ao21 t250.length co21] 29 (0, 0)) (by (with_reducible repeat (first | refine blk_drewN ?_ _ | refine blk_drew ?_ | refine blk_alloc ?_ _)); exact BK254.out)) : gb254 ≠ gb269)); have n11_ := Aside0.mk ((by rw [hg]; exact Nat.ne_of_gt (blk_lt (g := gb254) (o := .cells #[.int .i64 t243, .int .i64 t244, .int .i64 t245, .int .i64 t246, .int .i64 t247, .int .i64 t248, .int .i64 t249, .slice Ao21 t250.length co21] 29 (0, 0)) (by (with_reducible repeat (first | refine blk_drewN ?_ _ | refine blk_drew ?_ | refine blk_alloc ?_ _)); exact BK254.out)) : gb269 ≠ gb254)); clear HO_255007; clear HO267; clear BK239; clear BK254; clear HB; have HO_255007 := n0_; have HO267 := n1_; have BK239 := n2_; have BK254 := n3_; have HB := n4_; have BK269 := n5_; have GW269 := n6_; have GE269 := n7_; have NB239_269 := n8_; have NB269_239 := n9_; have NB254_269 := n10_; have NB269_254 := n11_; clear n0_ n1_ n2_ n3_ n4_ n5_ n6_ n7_ n8_ n9_ n10_ n11_; clear hb hbox hg; have hnb52 := NB269_239.out; have hnc52 := NB239_269.out; have hnb53 := NB269_254.out; have hnc53 := NB254_269.out; have hcz54_0 : w51.cell? ⟨gb269, 0, none⟩ = some (.int .i64 0) := (blk_cell BK269.out 0).trans rfl; have hcz54_1 : w51.cell? ⟨gb269, 1, none⟩ = some (.int .i64 0) := (blk_cell BK269.out 1).trans rfl; have hcz54_2 : w51.cell? ⟨gb269, 2, none⟩ = some (.int .i64 0) := (blk_cell BK269.out 2).trans rfl; have hcz54_3 : w51.cell? ⟨gb269, 3, none⟩ = some (.int .i64 0) := (blk_cell BK269.out 3).trans rfl; have hcz54_4 : w51.cell? ⟨gb269, 4, none⟩ = some (.int .i64 0) := (blk_cell BK269.out 4).trans rfl; have hcz54_5 : w51.cell? ⟨gb269, 5, none⟩ = some (.int .i64 0) := (blk_cell BK269.out 5).trans rfl; have hcz54_6 : w51.cell? ⟨gb269, 6, none⟩ = some (.int .i64 0) := (blk_cell BK269.out 6).trans rfl; have hcz54_7 : w51.cell? ⟨gb269, 7, none⟩ = some (.slice none 0 0) := (blk_cell BK269.out 7).trans rfl; have hfz54_0 := blk_frozen BK269.out 0; have hfz54_1 := blk_frozen BK269.out 1; have hfz54_2 := blk_frozen BK269.out 2; have hfz54_3 := blk_frozen BK269.out 3; have hfz54_4 := blk_frozen BK269.out 4; have hfz54_5 := blk_frozen BK269.out 5; have hfz54_6 := blk_frozen BK269.out 6; have hfz54_7 := blk_frozen BK269.out 7; obtain ⟨Ao55, co55, eo55⟩ := Kd.R_slice HO267.out; subst eo55) | ((with_reducible refine gate_callee (f := 31) rfl ?_); refine goesL_ (some 56) rfl rfl Try.func31 (by kernel_rfl) rfl #[.agg #[.int .i64 t258, .int .i64 t259, .int .i64 t260, .int .i64 t261, .int .i64 t262, .int .i64 t263, .int .i64 t264, .slice Ao55 t265.length co55]] rfl (by (try simp only [List.map_toArray, List.map_cons, List.map_nil]); first | done | rfl | (simp only [List.length_drop, List.length_take]; rfl)) ?_; (with_reducible refine (msg_Put.calls t258 t259 t260 t261 t262 t263 t264 _ _ t265 t270 t271 _ ?side1 ?side2 A43.out).mono ?_); (case side1 => refine (Kd.R_reads' (e := 9) (base := w.heap.size) (ok := fun k_ => (True ∧ some k_ ≠ (.slice Ao21 t250.length co21 : Value).ownBlock)) (n := t265.length) (c := co55) ?_).2.2; exact (by (with_reducible repeat (first | apply Kd.R_alloc | apply Kd.R_drewN | apply Kd.R_drew)); exact (Kd.R_mono (Kd.R_far (p := ⟨gb269, 7, none⟩) (Kd.R_far (p := ⟨gb269, 6, none⟩) (Kd.R_far (p := ⟨gb269, 5, none⟩) (Kd.R_far (p := ⟨gb269, 4, none⟩) (Kd.R_far (p := ⟨gb269, 3, none⟩) (Kd.R_far (p := ⟨gb269, 2, none⟩) (Kd.R_far (p := ⟨gb269, 1, none⟩) (Kd.R_far (p := ⟨gb269, 0, none⟩) (Kd.R_types HO267.out BK269.out (by decide)) (fun _ hk => hk.2) (.int .i64 t258)) (fun _ hk => hk.2) (.int .i64 t259)) (fun _ hk => hk.2) (.int .i64 t260)) (fun _ hk => hk.2) (.int .i64 t261)) (fun _ hk => hk.2) (.int .i64 t262)) (fun _ hk => hk.2) (.int .i64 t263)) (fun _ hk => hk.2) (.int .i64 t264)) (fun _ hk => hk.2) (.slice Ao55 t265.length co55)) (fun _ h_ => h_.1)))); (case side2 => exact (Kd.R_reads' HO267.out).2.1); rintro e w56 ⟨rfl, hb⟩; refine ⟨_, rfl, ?_⟩; have n0_ := Aside0.mk (Kd.R_below (by (with_reducible repeat (first | apply Kd.R_alloc | apply Kd.R_drewN | apply Kd.R_drew)); exact (Kd.R_mono (Kd.R_far (p := ⟨gb269, 7, none⟩) (Kd.R_far (p := ⟨gb269, 6, none⟩) (Kd.R_far (p := ⟨gb269, 5, none⟩) (Kd.R_far (p := ⟨gb269, 4, none⟩) (Kd.R_far (p := ⟨gb269, 3, none⟩) (Kd.R_far (p := ⟨gb269, 2, none⟩) (Kd.R_far (p := ⟨gb269, 1, none⟩) (Kd.R_far (p := ⟨gb269, 0, none⟩) (Kd.R_types HO_255007.out BK269.out (by decide)) (fun _ hk => hk.2) (.int .i64 t258)) (fun _ hk => hk.2) (.int .i64 t259)) (fun _ hk => hk.2) (.int .i64 t260)) (fun _ hk => hk.2) (.int .i64 t261)) (fun _ hk => hk.2) (.int .i64 t262)) (fun _ hk => hk.2) (.int .i64 t263)) (fun _ hk => hk.2) (.int .i64 t264)) (fun _ hk => hk.2) (.slice Ao55 t265.length co55)) (fun _ h_ => h_.1))) hb); have n1_ := Aside0.mk (Kd.R_below (by (with_reducible repeat (first | apply Kd.R_alloc | apply Kd.R_drewN | apply Kd.R_drew)); exact (Kd.R_mono (Kd.R_far (p := ⟨gb269, 7, none⟩) (Kd.R_far (p := ⟨gb269, 6, none⟩) (Kd.R_far (p := ⟨gb269, 5, none⟩) (Kd.R_far (p := ⟨gb269, 4, none⟩) (Kd.R_far (p := ⟨gb269, 3, none⟩) (Kd.R_far (p := ⟨gb269, 2, none⟩) (Kd.R_far (p := ⟨gb269, 1, none⟩) (Kd.R_far (p := ⟨gb269, 0, none⟩) (Kd.R_types HO267.out BK269.out (by decide)) (fun _ hk => hk.2) (.int .i64 t258)) (fun _ hk => hk.2) (.int .i64 t259)) (fun _ hk => hk.2) (.int .i64 t260)) (fun _ hk => hk.2) (.int .i64 t261)) (fun _ hk => hk.2) (.int .i64 t262)) (fun _ hk => hk.2) (.int .i64 t263)) (fun _ hk => hk.2) (.int .i64 t264)) (fun _ hk => hk.2) (.slice Ao55 t265.length co55)) (fun _ h_ => h_.1))) hb); have n2_ := Aside0.mk (blk_below (g := gb239) (o := .cells #[.int .i64 a0_0, .int .i64 a0_1, .int .i64 a0_2, .int .i64 a0_3, .int .i64 a0_4, .int .i64 a0_5, .int .i64 a0_6, .slice A0_7 l0_7.length c0_7] 29 (0, 0)) (by (with_reducible repeat (first | refine blk_drewN ?_ _ | refine blk_drew ?_ | refine blk_alloc ?_ _)); refine blk_far ?_ NB239_269.out _; (with_reducible repeat (first | refine blk_drewN ?_ _ | refine blk_drew ?_ | refine blk_alloc ?_ _)); refine blk_far ?_ NB239_269.out _; (with_reducible repeat (first | refine blk_drewN ?_ _ | refine blk_drew ?_ | refine blk_alloc ?_ _)); refine blk_far ?_ NB239_269.out _; (with_reducible repeat (first | refine blk_drewN ?_ _ | refine blk_drew ?_ | refine blk_alloc ?_ _)); refine blk_far ?_ NB239_269.out _; (with_reducible repeat (first | refine blk_drewN ?_ _ | refine blk_drew ?_ | refine blk_alloc ?_ _)); refine blk_far ?_ NB239_269.out _; (with_reducible repeat (first | refine blk_drewN ?_ _ | refine blk_drew ?_ | refine blk_alloc ?_ _)); refine blk_far ?_ NB239_269.out _; (with_reducible repeat (first | refine blk_drewN ?_ _ | refine blk_drew ?_ | refine blk_alloc ?_ _)); refine blk_far ?_ NB239_269.out _; (with_reducible repeat (first | refine blk_drewN ?_ _ | refine blk_drew ?_ | refine blk_alloc ?_ _)); refine blk_far ?_ NB239_269.out _; (with_reducible repeat (first | refine blk_drewN ?_ _ | refine blk_drew ?_ | refine blk_alloc ?_ _)); exact BK239.out) hb); have n3_ := Aside0.mk (blk_below (g := gb254) (o := .cells #[.int .i64 t243, .int .i64 t244, .int .i64 t245, .int .i64 t246, .int .i64 t247, .int .i64 t248, .int .i64 t249, .slice Ao21 t250.length co21] 29 (0, 0)) (by (with_reducible repeat (first | refine blk_drewN ?_ _ | refine blk_drew ?_ | refine blk_alloc ?_ _)); refine blk_far ?_ NB254_269.out _; (with_reducible repeat (first | refine blk_drewN ?_ _ | refine blk_drew ?_ | refine blk_alloc ?_ _)); refine blk_far ?_ NB254_269.out _; (with_reducible repeat (first | refine blk_drewN ?_ _ | refine blk_drew ?_ | refine blk_alloc ?_ _)); refine blk_far ?_ NB254_269.out _; (with_reducible repeat (first | refine blk_drewN ?_ _ | refine blk_drew ?_ | refine blk_alloc ?_ _)); refine blk_far ?_ NB254_269.out _; (with_reducible repeat (first | refine blk_drewN ?_ _ | refine blk_drew ?_ | refine blk_alloc ?_ _)); refine blk_far ?_ NB254_269.out _; (with_reducible repeat (first | refine blk_drewN ?_ _ | refine blk_drew ?_ | refine blk_alloc ?_ _)); refine blk_far ?_ NB254_269.out _; (with_reducible repeat (first | refine blk_drewN ?_ _ | refine blk_drew ?_ | refine blk_alloc ?_ _)); refine blk_far ?_ NB254_269.out _; (with_reducible repeat (first | refine blk_drewN ?_ _ | refine blk_drew ?_ | refine blk_alloc ?_ _)); refine blk_far ?_ NB254_269.out _; (with_reducible repeat (first | refine blk_drewN ?_ _ | refine blk_drew ?_ | refine blk_alloc ?_ _)); exact BK254.out) hb); have n4_ := Aside0.mk (blk_below (g := gb269) (o := .cells #[.int .i64 t258, .int .i64 t259, .int .i64 t260, .int .i64 t261, .int .i64 t262, .int .i64 t263, .int .i64 t264, .slice Ao55 t265.length co55] 29 (0, 0)) (by (with_reducible repeat (first | refine blk_drewN ?_ _ | refine blk_drew ?_ | refine blk_alloc ?_ _)); refine blk_put (cs := #[.int .i64 t258, .int .i64 t259, .int .i64 t260, .int .i64 t261, .int .i64 t262, .int .i64 t263, .int .i64 t264, .slice none 0 0]) ?_ 7 _ rfl; (with_reducible repeat (first | refine blk_drewN ?_ _ | refine blk_drew ?_ | refine blk_alloc ?_ _)); refine blk_put (cs := #[.int .i64 t258, .int .i64 t259, .int .i64 t260, .int .i64 t261, .int .i64 t262, .int .i64 t263, .int .i64 0, .slice none 0 0]) ?_ 6 _ rfl; (with_reducible repeat (first | refine blk_drewN ?_ _ | refine blk_drew ?_ | refine blk_alloc ?_ _)); refine blk_put (cs := #[.int .i64 t258, .int .i64 t259, .int .i64 t260, .int .i64 t261, .int .i64 t262, .int .i64 0, .int .i64 0, .slice none 0 0]) ?_ 5 _ rfl; (with_reducible repeat (first | refine blk_drewN ?_ _ | refine blk_drew ?_ | refine blk_alloc ?_ _)); refine blk_put (cs := #[.int .i64 t258, .int .i64 t259, .int .i64 t260, .int .i64 t261, .int .i64 0, .int .i64 0, .int .i64 0, .slice none 0 0]) ?_ 4 _ rfl; (with_reducible repeat (first | refine blk_drewN ?_ _ | refine blk_drew ?_ | refine blk_alloc ?_ _)); refine blk_put (cs := #[.int .i64 t258, .int .i64 t259, .int .i64 t260, .int .i64 0, .int .i64 0, .int .i64 0, .int .i64 0, .slice none 0 0]) ?_ 3 _ rfl; (with_reducible repeat (first | refine blk_drewN ?_ _ | refine blk_drew ?_ | refine blk_alloc ?_ _)); refine blk_put (cs := #[.int .i64 t258, .int .i64 t259, .int .i64 0, .int .i64 0, .int .i64 0, .int .i64 0, .int .i64 0, .slice none 0 0]) ?_ 2 _ rfl; (with_reducible repeat (first | refine blk_drewN ?_ _ | refine blk_drew ?_ | refine blk_alloc ?_ _)); refine blk_put (cs := #[.int .i64 t258, .int .i64 0, .int .i64 0, .int .i64 0, .int .i64 0, .int .i64 0, .int .i64 0, .slice none 0 0]) ?_ 1 _ rfl; (with_reducible repeat (first | refine blk_drewN ?_ _ | refine blk_drew ?_ | refine blk_alloc ?_ _)); refine blk_put (cs := #[.int .i64 0, .int .i64 0, .int .i64 0, .int .i64 0, .int .i64 0, .int .i64 0, .int .i64 0, .slice none 0 0]) ?_ 0 _ rfl; (with_reducible repeat (first | refine blk_drewN ?_ _ | refine blk_drew ?_ | refine blk_alloc ?_ _)); exact BK269.out) hb); have n5_ := Aside0.mk (below_step (by repeat (first | (with_reducible first | exact HB.out | apply below_alloc | apply pw_below_drewN | apply below_drew1 | refine below_set ?_ GE239.out | refine below_set ?_ GE254.out | refine below_set ?_ GE269.out) | exact HB.out)) hb); clear HO_255007; clear HO267; clear BK239; clear BK254; clear BK269; clear HB; have HO_255007 := n0_; have HO267 := n1_; have BK239 := n2_; have BK254 := n3_; have BK269 := n4_; have HB := n5_; clear n0_ n1_ n2_ n3_ n4_ n5_; (try clear hb); (try clear hb2); (try clear hk); (try clear hi)) | ((with_reducible refine gate_callee (f := 35) rfl ?_); refine goesL_ (some 59) rfl rfl Try.func35 (by kernel_rfl) rfl #[] rfl (by (try simp only [List.map_toArray, List.map_cons, List.map_nil]); first | done | rfl | (simp only [List.length_drop, List.length_take]; rfl)) ?_; (with_reducible refine (sextonlaw23_sent.calls  true _ A44.out).mono ?_); rintro e w57 ⟨rfl, hb⟩; refine ⟨_, rfl, ?_⟩; have n0_ := Aside0.mk (Kd.R_below (by (with_reducible repeat (first | apply Kd.R_alloc | apply Kd.R_drewN | apply Kd.R_drew)); exact HO_255007.out) hb); have n1_ := Aside0.mk (Kd.R_below (by (with_reducible repeat (first | apply Kd.R_alloc | apply Kd.R_drewN | apply Kd.R_drew)); exact HO267.out) hb); have n2_ := Aside0.mk (blk_below (g := gb239) (o := .cells #[.int .i64 a0_0, .int .i64 a0_1, .int .i64 a0_2, .int .i64 a0_3, .int .i64 a0_4, .int .i64 a0_5, .int .i64 a0_6, .slice A0_7 l0_7.length c0_7] 29 (0, 0)) (by (with_reducible repeat (first | refine blk_drewN ?_ _ | refine blk_drew ?_ | refine blk_alloc ?_ _)); exact BK239.out) hb); have n3_ := Aside0.mk (blk_below (g := gb254) (o := .cells #[.int .i64 t243, .int .i64 t244, .int .i64 t245, .int .i64 t246, .int .i64 t247, .int .i64 t248, .int .i64 t249, .slice Ao21 t250.length co21] 29 (0, 0)) (by (with_reducible repeat (first | refine blk_drewN ?_ _ | refine blk_drew ?_ | refine blk_alloc ?_ _)); exact BK254.out) hb); have n4_ := Aside0.mk (blk_below (g := gb269) (o := .cells #[.int .i64 t258, .int .i64 t259, .int .i64 t260, .int .i64 t261, .int .i64 t262, .int .i64 t263, .int .i64 t264, .slice Ao55 t265.length co55] 29 (0, 0)) (by (with_reducible repeat (first | refine blk_drewN ?_ _ | refine blk_drew ?_ | refine blk_alloc ?_ _)); exact BK269.out) hb); have n5_ := Aside0.mk (below_step (by repeat (first | (with_reducible first | exact HB.out | apply below_alloc | apply pw_below_drewN | apply below_drew1 | refine below_set ?_ GE239.out | refine below_set ?_ GE254.out | refine below_set ?_ GE269.out) | exact HB.out)) hb); clear HO_255007; clear HO267; clear BK239; clear BK254; clear BK269; clear HB; have HO_255007 := n0_; have HO267 := n1_; have BK239 := n2_; have BK254 := n3_; have BK269 := n4_; have HB := n5_; clear n0_ n1_ n2_ n3_ n4_ n5_; (try clear hb); (try clear hb2); (try clear hk); (try clear hi); have hcz58_0 : w57.cell? ⟨gb269, 0, none⟩ = some (.int .i64 t258) := (blk_cell BK269.out 0).trans rfl; have hcz58_1 : w57.cell? ⟨gb269, 1, none⟩ = some (.int .i64 t259) := (blk_cell BK269.out 1).trans rfl; have hcz58_2 : w57.cell? ⟨gb269, 2, none⟩ = some (.int .i64 t260) := (blk_cell BK269.out 2).trans rfl; have hcz58_3 : w57.cell? ⟨gb269, 3, none⟩ = some (.int .i64 t261) := (blk_cell BK269.out 3).trans rfl; have hcz58_4 : w57.cell? ⟨gb269, 4, none⟩ = some (.int .i64 t262) := (blk_cell BK269.out 4).trans rfl; have hcz58_5 : w57.cell? ⟨gb269, 5, none⟩ = some (.int .i64 t263) := (blk_cell BK269.out 5).trans rfl; have hcz58_6 : w57.cell? ⟨gb269, 6, none⟩ = some (.int .i64 t264) := (blk_cell BK269.out 6).trans rfl; have hcz58_7 : w57.cell? ⟨gb269, 7, none⟩ = some (.slice Ao55 t265.length co55) := (blk_cell BK269.out 7).trans rfl; have hfz58_0 := blk_frozen BK269.out 0; have hfz58_1 := blk_frozen BK269.out 1; have hfz58_2 := blk_frozen BK269.out 2; have hfz58_3 := blk_frozen BK269.out 3; have hfz58_4 := blk_frozen BK269.out 4; have hfz58_5 := blk_frozen BK269.out 5; have hfz58_6 := blk_frozen BK269.out 6; have hfz58_7 := blk_frozen BK269.out 7) | (go_at_call 36; (with_reducible refine (msg_Is.calls kj13 t258 t259 t260 t261 t262 t263 t264 _ _ t265 t273 _ ?side1 ?side2 A49.out).mono ?_); (case side1 => repeat (first | exact (Kd.R_reads' HO267.out).2.2 | (with_reducible refine Kd.C_alloc ?_ _) | (with_reducible refine Kd.C_drewN ?_ _) | (with_reducible refine Kd.C_drew ?_))); (case side2 => exact (Kd.R_reads' HO267.out).2.1); rintro e w59 ⟨rfl, hb⟩; have n0_ := Aside0.mk (Kd.R_below (by (with_reducible repeat (first | apply Kd.R_alloc | apply Kd.R_drewN | apply Kd.R_drew)); exact HO_255007.out) hb); have n1_ := Aside0.mk (Kd.R_below (by (with_reducible repeat (first | apply Kd.R_alloc | apply Kd.R_drewN | apply Kd.R_drew)); exact HO267.out) hb); have n2_ := Aside0.mk (blk_below (g := gb239) (o := .cells #[.int .i64 a0_0, .int .i64 a0_1, .int .i64 a0_2, .int .i64 a0_3, .int .i64 a0_4, .int .i64 a0_5, .int .i64 a0_6, .slice A0_7 l0_7.length c0_7] 29 (0, 0)) (by (with_reducible repeat (first | refine blk_drewN ?_ _ | refine blk_drew ?_ | refine blk_alloc ?_ _)); exact BK239.out) hb); have n3_ := Aside0.mk (blk_below (g := gb254) (o := .cells #[.int .i64 t243, .int .i64 t244, .int .i64 t245, .int .i64 t246, .int .i64 t247, .int .i64 t248, .int .i64 t249, .slice Ao21 t250.length co21] 29 (0, 0)) (by (with_reducible repeat (first | refine blk_drewN ?_ _ | refine blk_drew ?_ | refine blk_alloc ?_ _)); exact BK254.out) hb); have n4_ := Aside0.mk (blk_below (g := gb269) (o := .cells #[.int .i64 t258, .int .i64 t259, .int .i64 t260, .int .i64 t261, .int .i64 t262, .int .i64 t263, .int .i64 t264, .slice Ao55 t265.length co55] 29 (0, 0)) (by (with_reducible repeat (first | refine blk_drewN ?_ _ | refine blk_drew ?_ | refine blk_alloc ?_ _)); exact BK269.out) hb); have n5_ := Aside0.mk (below_step (by repeat (first | (with_reducible first | exact HB.out | apply below_alloc | apply pw_below_drewN | apply below_drew1 | refine below_set ?_ GE239.out | refine below_set ?_ GE254.out | refine below_set ?_ GE269.out) | exact HB.out)) hb); clear HO_255007; clear HO267; clear BK239; clear BK254; clear BK269; clear HB; have HO_255007 := n0_; have HO267 := n1_; have BK239 := n2_; have BK254 := n3_; have BK269 := n4_; have HB := n5_; clear n0_ n1_ n2_ n3_ n4_ n5_; (try clear hb); (try clear hb2); (try clear hk); (try clear hi)))
                      go_ret
                      exact ⟨by first | rfl | (simp [errW_none, errW_some] <;> rfl) | (simp [*, errW_none, errW_some] <;> rfl), by repeat (first | (with_reducible first | exact HB.out | apply below_alloc | apply pw_below_drewN | apply below_drew1 | refine below_set ?_ GE239.out | refine below_set ?_ GE254.out | refine below_set ?_ GE269.out) | exact HB.out)⟩
                    · rw [if_neg c48] at H
                      exact absurd (H.trans (congrArg some HRT.out)) (by decide)
                  · rw [if_neg c47] at H
                    exact absurd (H.trans (congrArg some HRT.out)) (by decide)
                · rw [if_neg c46] at H
                  have c46b0 : (t268 == 0) = false := beq_eq_false_iff_ne.mpr c46
                  have c46b1 : (t268 != 0) = true := bne_iff_ne.mpr c46
                  obtain rfl := Option.some.inj H
                  go_wp2_with (first | ((with_reducible refine gate_callee (f := 33) rfl ?_); refine goesL_ (some 51) rfl rfl Try.func33 (by kernel_rfl) rfl #[.string a1] rfl (by (try simp only [List.map_toArray, List.map_cons, List.map_nil]); first | done | rfl | (simp only [List.length_drop, List.length_take]; rfl)) ?_; (with_reducible refine (msg_Get.calls a1 t258 t259 t260 t261 t262 t263 t264 t265 t268 _ A42.out).mono ?_); rintro e w76 ⟨v266, rfl, ho0, hb⟩; refine ⟨_, rfl, ?_⟩; have n0_ := Aside0.mk (Kd.R_elder' (by (with_reducible repeat (first | apply Kd.R_alloc | apply Kd.R_drewN | apply Kd.R_drew)); exact HO_255007.out) (Kd.R_base ho0) hb); have n1_ := Aside0.mk (Kd.R_lower (Kd.R_new' ho0 (Kd.R_lt (by (with_reducible repeat (first | apply Kd.R_alloc | apply Kd.R_drewN | apply Kd.R_drew)); exact HO_255007.out))) (below_size (by repeat (first | (with_reducible first | exact HB.out | apply below_alloc | apply pw_below_drewN | apply below_drew1 | refine below_set ?_ GE239.out | refine below_set ?_ GE254.out) | exact HB.out)))); have n2_ := Aside0.mk (blk_below (g := gb239) (o := .cells #[.int .i64 a0_0, .int .i64 a0_1, .int .i64 a0_2, .int .i64 a0_3, .int .i64 a0_4, .int .i64 a0_5, .int .i64 a0_6, .slice A0_7 l0_7.length c0_7] 29 (0, 0)) (by (with_reducible repeat (first | refine blk_drewN ?_ _ | refine blk_drew ?_ | refine blk_alloc ?_ _)); exact BK239.out) hb); have n3_ := Aside0.mk (blk_below (g := gb254) (o := .cells #[.int .i64 t243, .int .i64 t244, .int .i64 t245, .int .i64 t246, .int .i64 t247, .int .i64 t248, .int .i64 t249, .slice Ao21 t250.length co21] 29 (0, 0)) (by (with_reducible repeat (first | refine blk_drewN ?_ _ | refine blk_drew ?_ | refine blk_alloc ?_ _)); exact BK254.out) hb); have n4_ := Aside0.mk (below_step (by repeat (first | (with_reducible first | exact HB.out | apply below_alloc | apply pw_below_drewN | apply below_drew1 | refine below_set ?_ GE239.out | refine below_set ?_ GE254.out) | exact HB.out)) hb); clear HO_255007; clear BK239; clear BK254; clear HB; have HO_255007 := n0_; have HO267 := n1_; have BK239 := n2_; have BK254 := n3_; have HB := n4_; clear n0_ n1_ n2_ n3_ n4_; (try clear hb); (try clear hb2); (try clear hk); (try clear hi); (try clear ho0)) | ((with_reducible refine gate_dst (N := 9) rfl ?_); (try (refine gate_guard (by rfl) ?_; dsimp only)); refine box_event ?hg (N := 9) ?hd (cs := #[.int .i64 0, .int .i64 0, .int .i64 0, .int .i64 0, .int .i64 0, .int .i64 0, .int .i64 0, .slice none 0 0]) (t := 29) ?hr ?_; (case hd => rfl); (case hg => rfl); (case hr => first | (go_simp; done) | (go_simp; rfl)); intro gb269 hg w77 hbox hb; have n0_ := Aside0.mk (Kd.R_below (by (with_reducible repeat (first | apply Kd.R_alloc | apply Kd.R_drewN | apply Kd.R_drew)); exact HO_255007.out) hb); have n1_ := Aside0.mk (Kd.R_below (by (with_reducible repeat (first | apply Kd.R_alloc | apply Kd.R_drewN | apply Kd.R_drew)); exact HO267.out) hb); have n2_ := Aside0.mk (blk_below (g := gb239) (o := .cells #[.int .i64 a0_0, .int .i64 a0_1, .int .i64 a0_2, .int .i64 a0_3, .int .i64 a0_4, .int .i64 a0_5, .int .i64 a0_6, .slice A0_7 l0_7.length c0_7] 29 (0, 0)) (by (with_reducible repeat (first | refine blk_drewN ?_ _ | refine blk_drew ?_ | refine blk_alloc ?_ _)); exact BK239.out) hb); have n3_ := Aside0.mk (blk_below (g := gb254) (o := .cells #[.int .i64 t243, .int .i64 t244, .int .i64 t245, .int .i64 t246, .int .i64 t247, .int .i64 t248, .int .i64 t249, .slice Ao21 t250.length co21] 29 (0, 0)) (by (with_reducible repeat (first | refine blk_drewN ?_ _ | refine blk_drew ?_ | refine blk_alloc ?_ _)); exact BK254.out) hb); have n4_ := Aside0.mk (below_step (by repeat (first | (with_reducible first | exact HB.out | apply below_alloc | apply pw_below_drewN | apply below_drew1 | refine below_set ?_ GE239.out | refine below_set ?_ GE254.out) | exact HB.out)) hb); have n5_ := Aside0.mk (hbox); have n6_ := Aside0.mk ((by rw [hg]; exact (below_size (by repeat (first | (with_reducible first | exact HB.out | apply below_alloc | apply pw_below_drewN | apply below_drew1 | refine below_set ?_ GE239.out | refine below_set ?_ GE254.out) | exact HB.out))) : w.heap.size ≤ gb269)); have n7_ := Aside0.mk ((by rw [hg]; exact (below_size (by repeat (first | (with_reducible first | exact HB.out | apply below_alloc | apply pw_below_drewN | apply below_drew1 | refine below_set ?_ GE239.out | refine below_set ?_ GE254.out) | exact HB.out))) : w.heap.size ≤ gb269)); have n8_ := Aside0.mk ((by rw [hg]; exact Nat.ne_of_lt (blk_lt (g := gb239) (o := .cells #[.int .i64 a0_0, .int .i64 a0_1, .int .i64 a0_2, .int .i64 a0_3, .int .i64 a0_4, .int .i64 a0_5, .int .i64 a0_6, .slice A0_7 l0_7.length c0_7] 29 (0, 0)) (by (with_reducible repeat (first | refine blk_drewN ?_ _ | refine blk_drew ?_ | refine blk_alloc ?_ _)); exact BK239.out)) : gb239 ≠ gb269)); have n9_ := Aside0.mk ((by rw [hg]; exact Nat.ne_of_gt (blk_lt (g := gb239) (o := .cells #[.int .i64 a0_0, .int .i64 a0_1, .int .i64 a0_2, .int .i64 a0_3, .int .i64 a0_4, .int .i64 a0_5, .int .i64 a0_6, .slice A0_7 l0_7.length c0_7] 29 (0, 0)) (by (with_reducible repeat (first | refine blk_drewN ?_ _ | refine blk_drew ?_ | refine blk_alloc ?_ _)); exact BK239.out)) : gb269 ≠ gb239)); have n10_ := Aside0.mk ((by rw [hg]; exact Nat.ne_of_lt (blk_lt (g := gb254) (o := .cells #[.int .i64 t243, .int .i64 t244, .int .i64 t245, .int .i64 t246, .int .i64 t247, .int .i64 t248, .int .i64 t249, .slice Ao21 t250.length co21] 29 (0, 0)) (by (with_reducible repeat (first | refine blk_drewN ?_ _ | refine blk_drew ?_ | refine blk_alloc ?_ _)); exact BK254.out)) : gb254 ≠ gb269)); have n11_ := Aside0.mk ((by rw [hg]; exact Nat.ne_of_gt (blk_lt (g := gb254) (o := .cells #[.int .i64 t243, .int .i64 t244, .int .i64 t245, .int .i64 t246, .int .i64 t247, .int .i64 t248, .int .i64 t249, .slice Ao21 t250.length co21] 29 (0, 0)) (by (with_reducible repeat (first | refine blk_drewN ?_ _ | refine blk_drew ?_ | refine blk_alloc ?_ _)); exact BK254.out)) : gb269 ≠ gb254)); clear HO_255007; clear HO267; clear BK239; clear BK254; clear HB; have HO_255007 := n0_; have HO267 := n1_; have BK239 := n2_; have BK254 := n3_; have HB := n4_; have BK269 := n5_; have GW269 := n6_; have GE269 := n7_; have NB239_269 := n8_; have NB269_239 := n9_; have NB254_269 := n10_; have NB269_254 := n11_; clear n0_ n1_ n2_ n3_ n4_ n5_ n6_ n7_ n8_ n9_ n10_ n11_; clear hb hbox hg; have hnb78 := NB269_239.out; have hnc78 := NB239_269.out; have hnb79 := NB269_254.out; have hnc79 := NB254_269.out; have hcz80_0 : w77.cell? ⟨gb269, 0, none⟩ = some (.int .i64 0) := (blk_cell BK269.out 0).trans rfl; have hcz80_1 : w77.cell? ⟨gb269, 1, none⟩ = some (.int .i64 0) := (blk_cell BK269.out 1).trans rfl; have hcz80_2 : w77.cell? ⟨gb269, 2, none⟩ = some (.int .i64 0) := (blk_cell BK269.out 2).trans rfl; have hcz80_3 : w77.cell? ⟨gb269, 3, none⟩ = some (.int .i64 0) := (blk_cell BK269.out 3).trans rfl; have hcz80_4 : w77.cell? ⟨gb269, 4, none⟩ = some (.int .i64 0) := (blk_cell BK269.out 4).trans rfl; have hcz80_5 : w77.cell? ⟨gb269, 5, none⟩ = some (.int .i64 0) := (blk_cell BK269.out 5).trans rfl; have hcz80_6 : w77.cell? ⟨gb269, 6, none⟩ = some (.int .i64 0) := (blk_cell BK269.out 6).trans rfl; have hcz80_7 : w77.cell? ⟨gb269, 7, none⟩ = some (.slice none 0 0) := (blk_cell BK269.out 7).trans rfl; have hfz80_0 := blk_frozen BK269.out 0; have hfz80_1 := blk_frozen BK269.out 1; have hfz80_2 := blk_frozen BK269.out 2; have hfz80_3 := blk_frozen BK269.out 3; have hfz80_4 := blk_frozen BK269.out 4; have hfz80_5 := blk_frozen BK269.out 5; have hfz80_6 := blk_frozen BK269.out 6; have hfz80_7 := blk_frozen BK269.out 7; obtain ⟨Ao81, co81, eo81⟩ := Kd.R_slice HO267.out; subst eo81) | ((with_reducible refine gate_callee (f := 31) rfl ?_); refine goesL_ (some 56) rfl rfl Try.func31 (by kernel_rfl) rfl #[.agg #[.int .i64 t258, .int .i64 t259, .int .i64 t260, .int .i64 t261, .int .i64 t262, .int .i64 t263, .int .i64 t264, .slice Ao81 t265.length co81]] rfl (by (try simp only [List.map_toArray, List.map_cons, List.map_nil]); first | done | rfl | (simp only [List.length_drop, List.length_take]; rfl)) ?_; (with_reducible refine (msg_Put.calls t258 t259 t260 t261 t262 t263 t264 _ _ t265 t270 t271 _ ?side1 ?side2 A43.out).mono ?_); (case side1 => refine (Kd.R_reads' (e := 9) (base := w.heap.size) (ok := fun k_ => (True ∧ some k_ ≠ (.slice Ao21 t250.length co21 : Value).ownBlock)) (n := t265.length) (c := co81) ?_).2.2; exact (by (with_reducible repeat (first | apply Kd.R_alloc | apply Kd.R_drewN | apply Kd.R_drew)); exact (Kd.R_mono (Kd.R_far (p := ⟨gb269, 7, none⟩) (Kd.R_far (p := ⟨gb269, 6, none⟩) (Kd.R_far (p := ⟨gb269, 5, none⟩) (Kd.R_far (p := ⟨gb269, 4, none⟩) (Kd.R_far (p := ⟨gb269, 3, none⟩) (Kd.R_far (p := ⟨gb269, 2, none⟩) (Kd.R_far (p := ⟨gb269, 1, none⟩) (Kd.R_far (p := ⟨gb269, 0, none⟩) (Kd.R_types HO267.out BK269.out (by decide)) (fun _ hk => hk.2) (.int .i64 t258)) (fun _ hk => hk.2) (.int .i64 t259)) (fun _ hk => hk.2) (.int .i64 t260)) (fun _ hk => hk.2) (.int .i64 t261)) (fun _ hk => hk.2) (.int .i64 t262)) (fun _ hk => hk.2) (.int .i64 t263)) (fun _ hk => hk.2) (.int .i64 t264)) (fun _ hk => hk.2) (.slice Ao81 t265.length co81)) (fun _ h_ => h_.1)))); (case side2 => exact (Kd.R_reads' HO267.out).2.1); rintro e w82 ⟨rfl, hb⟩; refine ⟨_, rfl, ?_⟩; have n0_ := Aside0.mk (Kd.R_below (by (with_reducible repeat (first | apply Kd.R_alloc | apply Kd.R_drewN | apply Kd.R_drew)); exact (Kd.R_mono (Kd.R_far (p := ⟨gb269, 7, none⟩) (Kd.R_far (p := ⟨gb269, 6, none⟩) (Kd.R_far (p := ⟨gb269, 5, none⟩) (Kd.R_far (p := ⟨gb269, 4, none⟩) (Kd.R_far (p := ⟨gb269, 3, none⟩) (Kd.R_far (p := ⟨gb269, 2, none⟩) (Kd.R_far (p := ⟨gb269, 1, none⟩) (Kd.R_far (p := ⟨gb269, 0, none⟩) (Kd.R_types HO_255007.out BK269.out (by decide)) (fun _ hk => hk.2) (.int .i64 t258)) (fun _ hk => hk.2) (.int .i64 t259)) (fun _ hk => hk.2) (.int .i64 t260)) (fun _ hk => hk.2) (.int .i64 t261)) (fun _ hk => hk.2) (.int .i64 t262)) (fun _ hk => hk.2) (.int .i64 t263)) (fun _ hk => hk.2) (.int .i64 t264)) (fun _ hk => hk.2) (.slice Ao81 t265.length co81)) (fun _ h_ => h_.1))) hb); have n1_ := Aside0.mk (Kd.R_below (by (with_reducible repeat (first | apply Kd.R_alloc | apply Kd.R_drewN | apply Kd.R_drew)); exact (Kd.R_mono (Kd.R_far (p := ⟨gb269, 7, none⟩) (Kd.R_far (p := ⟨gb269, 6, none⟩) (Kd.R_far (p := ⟨gb269, 5, none⟩) (Kd.R_far (p := ⟨gb269, 4, none⟩) (Kd.R_far (p := ⟨gb269, 3, none⟩) (Kd.R_far (p := ⟨gb269, 2, none⟩) (Kd.R_far (p := ⟨gb269, 1, none⟩) (Kd.R_far (p := ⟨gb269, 0, none⟩) (Kd.R_types HO267.out BK269.out (by decide)) (fun _ hk => hk.2) (.int .i64 t258)) (fun _ hk => hk.2) (.int .i64 t259)) (fun _ hk => hk.2) (.int .i64 t260)) (fun _ hk => hk.2) (.int .i64 t261)) (fun _ hk => hk.2) (.int .i64 t262)) (fun _ hk => hk.2) (.int .i64 t263)) (fun _ hk => hk.2) (.int .i64 t264)) (fun _ hk => hk.2) (.slice Ao81 t265.length co81)) (fun _ h_ => h_.1))) hb); have n2_ := Aside0.mk (blk_below (g := gb239) (o := .cells #[.int .i64 a0_0, .int .i64 a0_1, .int .i64 a0_2, .int .i64 a0_3, .int .i64 a0_4, .int .i64 a0_5, .int .i64 a0_6, .slice A0_7 l0_7.length c0_7] 29 (0, 0)) (by (with_reducible repeat (first | refine blk_drewN ?_ _ | refine blk_drew ?_ | refine blk_alloc ?_ _)); refine blk_far ?_ NB239_269.out _; (with_reducible repeat (first | refine blk_drewN ?_ _ | refine blk_drew ?_ | refine blk_alloc ?_ _)); refine blk_far ?_ NB239_269.out _; (with_reducible repeat (first | refine blk_drewN ?_ _ | refine blk_drew ?_ | refine blk_alloc ?_ _)); refine blk_far ?_ NB239_269.out _; (with_reducible repeat (first | refine blk_drewN ?_ _ | refine blk_drew ?_ | refine blk_alloc ?_ _)); refine blk_far ?_ NB239_269.out _; (with_reducible repeat (first | refine blk_drewN ?_ _ | refine blk_drew ?_ | refine blk_alloc ?_ _)); refine blk_far ?_ NB239_269.out _; (with_reducible repeat (first | refine blk_drewN ?_ _ | refine blk_drew ?_ | refine blk_alloc ?_ _)); refine blk_far ?_ NB239_269.out _; (with_reducible repeat (first | refine blk_drewN ?_ _ | refine blk_drew ?_ | refine blk_alloc ?_ _)); refine blk_far ?_ NB239_269.out _; (with_reducible repeat (first | refine blk_drewN ?_ _ | refine blk_drew ?_ | refine blk_alloc ?_ _)); refine blk_far ?_ NB239_269.out _; (with_reducible repeat (first | refine blk_drewN ?_ _ | refine blk_drew ?_ | refine blk_alloc ?_ _)); exact BK239.out) hb); have n3_ := Aside0.mk (blk_below (g := gb254) (o := .cells #[.int .i64 t243, .int .i64 t244, .int .i64 t245, .int .i64 t246, .int .i64 t247, .int .i64 t248, .int .i64 t249, .slice Ao21 t250.length co21] 29 (0, 0)) (by (with_reducible repeat (first | refine blk_drewN ?_ _ | refine blk_drew ?_ | refine blk_alloc ?_ _)); refine blk_far ?_ NB254_269.out _; (with_reducible repeat (first | refine blk_drewN ?_ _ | refine blk_drew ?_ | refine blk_alloc ?_ _)); refine blk_far ?_ NB254_269.out _; (with_reducible repeat (first | refine blk_drewN ?_ _ | refine blk_drew ?_ | refine blk_alloc ?_ _)); refine blk_far ?_ NB254_269.out _; (with_reducible repeat (first | refine blk_drewN ?_ _ | refine blk_drew ?_ | refine blk_alloc ?_ _)); refine blk_far ?_ NB254_269.out _; (with_reducible repeat (first | refine blk_drewN ?_ _ | refine blk_drew ?_ | refine blk_alloc ?_ _)); refine blk_far ?_ NB254_269.out _; (with_reducible repeat (first | refine blk_drewN ?_ _ | refine blk_drew ?_ | refine blk_alloc ?_ _)); refine blk_far ?_ NB254_269.out _; (with_reducible repeat (first | refine blk_drewN ?_ _ | refine blk_drew ?_ | refine blk_alloc ?_ _)); refine blk_far ?_ NB254_269.out _; (with_reducible repeat (first | refine blk_drewN ?_ _ | refine blk_drew ?_ | refine blk_alloc ?_ _)); refine blk_far ?_ NB254_269.out _; (with_reducible repeat (first | refine blk_drewN ?_ _ | refine blk_drew ?_ | refine blk_alloc ?_ _)); exact BK254.out) hb); have n4_ := Aside0.mk (blk_below (g := gb269) (o := .cells #[.int .i64 t258, .int .i64 t259, .int .i64 t260, .int .i64 t261, .int .i64 t262, .int .i64 t263, .int .i64 t264, .slice Ao81 t265.length co81] 29 (0, 0)) (by (with_reducible repeat (first | refine blk_drewN ?_ _ | refine blk_drew ?_ | refine blk_alloc ?_ _)); refine blk_put (cs := #[.int .i64 t258, .int .i64 t259, .int .i64 t260, .int .i64 t261, .int .i64 t262, .int .i64 t263, .int .i64 t264, .slice none 0 0]) ?_ 7 _ rfl; (with_reducible repeat (first | refine blk_drewN ?_ _ | refine blk_drew ?_ | refine blk_alloc ?_ _)); refine blk_put (cs := #[.int .i64 t258, .int .i64 t259, .int .i64 t260, .int .i64 t261, .int .i64 t262, .int .i64 t263, .int .i64 0, .slice none 0 0]) ?_ 6 _ rfl; (with_reducible repeat (first | refine blk_drewN ?_ _ | refine blk_drew ?_ | refine blk_alloc ?_ _)); refine blk_put (cs := #[.int .i64 t258, .int .i64 t259, .int .i64 t260, .int .i64 t261, .int .i64 t262, .int .i64 0, .int .i64 0, .slice none 0 0]) ?_ 5 _ rfl; (with_reducible repeat (first | refine blk_drewN ?_ _ | refine blk_drew ?_ | refine blk_alloc ?_ _)); refine blk_put (cs := #[.int .i64 t258, .int .i64 t259, .int .i64 t260, .int .i64 t261, .int .i64 0, .int .i64 0, .int .i64 0, .slice none 0 0]) ?_ 4 _ rfl; (with_reducible repeat (first | refine blk_drewN ?_ _ | refine blk_drew ?_ | refine blk_alloc ?_ _)); refine blk_put (cs := #[.int .i64 t258, .int .i64 t259, .int .i64 t260, .int .i64 0, .int .i64 0, .int .i64 0, .int .i64 0, .slice none 0 0]) ?_ 3 _ rfl; (with_reducible repeat (first | refine blk_drewN ?_ _ | refine blk_drew ?_ | refine blk_alloc ?_ _)); refine blk_put (cs := #[.int .i64 t258, .int .i64 t259, .int .i64 0, .int .i64 0, .int .i64 0, .int .i64 0, .int .i64 0, .slice none 0 0]) ?_ 2 _ rfl; (with_reducible repeat (first | refine blk_drewN ?_ _ | refine blk_drew ?_ | refine blk_alloc ?_ _)); refine blk_put (cs := #[.int .i64 t258, .int .i64 0, .int .i64 0, .int .i64 0, .int .i64 0, .int .i64 0, .int .i64 0, .slice none 0 0]) ?_ 1 _ rfl; (with_reducible repeat (first | refine blk_drewN ?_ _ | refine blk_drew ?_ | refine blk_alloc ?_ _)); refine blk_put (cs := #[.int .i64 0, .int .i64 0, .int .i64 0, .int .i64 0, .int .i64 0, .int .i64 0, .int .i64 0, .slice none 0 0]) ?_ 0 _ rfl; (with_reducible repeat (first | refine blk_drewN ?_ _ | refine blk_drew ?_ | refine blk_alloc ?_ _)); exact BK269.out) hb); have n5_ := Aside0.mk (below_step (by repeat (first | (with_reducible first | exact HB.out | apply below_alloc | apply pw_below_drewN | apply below_drew1 | refine below_set ?_ GE239.out | refine below_set ?_ GE254.out | refine below_set ?_ GE269.out) | exact HB.out)) hb); clear HO_255007; clear HO267; clear BK239; clear BK254; clear BK269; clear HB; have HO_255007 := n0_; have HO267 := n1_; have BK239 := n2_; have BK254 := n3_; have BK269 := n4_; have HB := n5_; clear n0_ n1_ n2_ n3_ n4_ n5_; (try clear hb); (try clear hb2); (try clear hk); (try clear hi)) | ((with_reducible refine gate_callee (f := 35) rfl ?_); refine goesL_ (some 59) rfl rfl Try.func35 (by kernel_rfl) rfl #[] rfl (by (try simp only [List.map_toArray, List.map_cons, List.map_nil]); first | done | rfl | (simp only [List.length_drop, List.length_take]; rfl)) ?_; (with_reducible refine (sextonlaw23_sent.calls  true _ A44.out).mono ?_); rintro e w83 ⟨rfl, hb⟩; refine ⟨_, rfl, ?_⟩; have n0_ := Aside0.mk (Kd.R_below (by (with_reducible repeat (first | apply Kd.R_alloc | apply Kd.R_drewN | apply Kd.R_drew)); exact HO_255007.out) hb); have n1_ := Aside0.mk (Kd.R_below (by (with_reducible repeat (first | apply Kd.R_alloc | apply Kd.R_drewN | apply Kd.R_drew)); exact HO267.out) hb); have n2_ := Aside0.mk (blk_below (g := gb239) (o := .cells #[.int .i64 a0_0, .int .i64 a0_1, .int .i64 a0_2, .int .i64 a0_3, .int .i64 a0_4, .int .i64 a0_5, .int .i64 a0_6, .slice A0_7 l0_7.length c0_7] 29 (0, 0)) (by (with_reducible repeat (first | refine blk_drewN ?_ _ | refine blk_drew ?_ | refine blk_alloc ?_ _)); exact BK239.out) hb); have n3_ := Aside0.mk (blk_below (g := gb254) (o := .cells #[.int .i64 t243, .int .i64 t244, .int .i64 t245, .int .i64 t246, .int .i64 t247, .int .i64 t248, .int .i64 t249, .slice Ao21 t250.length co21] 29 (0, 0)) (by (with_reducible repeat (first | refine blk_drewN ?_ _ | refine blk_drew ?_ | refine blk_alloc ?_ _)); exact BK254.out) hb); have n4_ := Aside0.mk (blk_below (g := gb269) (o := .cells #[.int .i64 t258, .int .i64 t259, .int .i64 t260, .int .i64 t261, .int .i64 t262, .int .i64 t263, .int .i64 t264, .slice Ao81 t265.length co81] 29 (0, 0)) (by (with_reducible repeat (first | refine blk_drewN ?_ _ | refine blk_drew ?_ | refine blk_alloc ?_ _)); exact BK269.out) hb); have n5_ := Aside0.mk (below_step (by repeat (first | (with_reducible first | exact HB.out | apply below_alloc | apply pw_below_drewN | apply below_drew1 | refine below_set ?_ GE239.out | refine below_set ?_ GE254.out | refine below_set ?_ GE269.out) | exact HB.out)) hb); clear HO_255007; clear HO267; clear BK239; clear BK254; clear BK269; clear HB; have HO_255007 := n0_; have HO267 := n1_; have BK239 := n2_; have BK254 := n3_; have BK269 := n4_; have HB := n5_; clear n0_ n1_ n2_ n3_ n4_ n5_; (try clear hb); (try clear hb2); (try clear hk); (try clear hi)))
                  go_ret
                  exact ⟨by first | rfl | (simp [errW_none, errW_some] <;> rfl) | (simp [*, errW_none, errW_some] <;> rfl), by repeat (first | (with_reducible first | exact HB.out | apply below_alloc | apply pw_below_drewN | apply below_drew1 | refine below_set ?_ GE239.out | refine below_set ?_ GE254.out | refine below_set ?_ GE269.out) | exact HB.out)⟩
              · replace c45 := Bool.eq_false_iff.mpr c45
                subst c45
                have H1 : (some false) = some r := by rw [if_neg (show ¬ (false = true) by decide)] at H; exact H
                exact absurd (H1.trans (congrArg some HRT.out)) (by decide)

end Go.Proofs.Ytfejidinfcmfjaa.P
/-
  Plain laws on numbers', texts' and rows' bytes: what is laid is read, what is read is laid. No program in sight.
-/
namespace Go.Proofs.CodecPlain

theorem ba_ext {a b : ByteArray} (h : a.data.toList = b.data.toList) : a = b := by
  cases a; cases b
  rename_i x y
  have : x = y := by cases x; cases y; simpa using h
  rw [this]
theorem ext_list (s : ByteArray) (a b : Nat) : (s.extract a b).data.toList = (s.data.toList.drop a).take (b - a) := by
  rw [ByteArray.data_extract, Array.toList_extract]
theorem app_list (a b : ByteArray) : (a ++ b).data.toList = a.data.toList ++ b.data.toList := by
  rw [ByteArray.data_append, Array.toList_append]
theorem len_list (a : ByteArray) : a.data.toList.length = a.size := by rw [Array.length_toList]; rfl

/-! ### a number's bytes -/
theorem nbytes_zero : nbytes 0 = [] := by decide
theorem tops4 (x : Int) : tops x 4 = [nbyte x 3, nbyte x 2, nbyte x 1, nbyte x 0] := rfl
theorem nbytes_rec (x : Int) (h0 : 0 < x) (h1 : x < 4294967296) : nbytes x = nbytes (x / 256) ++ [x % 256] := by
  have e3 : nbyte (x / 256) 3 = 0 := by unfold nbyte; omega
  have e2 : nbyte (x / 256) 2 = nbyte x 3 := by unfold nbyte; omega
  have e1 : nbyte (x / 256) 1 = nbyte x 2 := by unfold nbyte; omega
  have e0 : nbyte (x / 256) 0 = nbyte x 1 := by unfold nbyte; omega
  have e : nbyte x 0 = x % 256 := by unfold nbyte; omega
  have hl : nbytes (x / 256) = lead [nbyte x 3, nbyte x 2, nbyte x 1] := by
    unfold nbytes; rw [tops4, e3, e2, e1, e0]; simp [lead]
  have hr : nbytes x = lead ([nbyte x 3, nbyte x 2, nbyte x 1] ++ [x % 256]) := by
    unfold nbytes; rw [tops4, e]; rfl
  rw [hr, hl]
  by_cases hn : lead [nbyte x 3, nbyte x 2, nbyte x 1] = []
  · rw [lead_snoc_nil hn, hn]
    have : x % 256 ≠ 0 := by
      have z3 : nbyte x 3 = 0 := by
        by_cases z : nbyte x 3 = 0
        · exact z
        · simp [lead, z] at hn
      have z2 : nbyte x 2 = 0 := by
        by_cases z : nbyte x 2 = 0
        · exact z
        · simp [lead, z, z3] at hn
      have z1 : nbyte x 1 = 0 := by
        by_cases z : nbyte x 1 = 0
        · exact z
        · simp [lead, z, z2, z3] at hn
      unfold nbyte at z1 z2 z3
      omega
    rw [if_neg this]; rfl
  · rw [lead_snoc hn]
/-- A byte's number as a byte. -/
def u8 (n : Int) : UInt8 := UInt8.ofNat n.toNat
theorem u8_toNat {n : Int} (h0 : 0 ≤ n) (h1 : n < 256) : ((u8 n).toNat : Int) = n := by
  have : (u8 n).toNat = n.toNat % 256 := by simp [u8, UInt8.toNat_ofNat']
  omega
theorem u8_of (b : UInt8) : u8 (b.toNat : Int) = b := by
  apply UInt8.toNat_inj.1
  have h := b.toNat_lt
  have := u8_toNat (n := (b.toNat : Int)) (by omega) (by omega)
  omega
theorem nat_ind {P : Int → Prop} (h : ∀ x, 0 ≤ x → (∀ y, 0 ≤ y → y < x → P y) → P x) : ∀ x, 0 ≤ x → P x := by
  have key : ∀ n : Nat, ∀ x : Int, 0 ≤ x → x.toNat < n → P x := by
    intro n
    induction n with
    | zero => intro x _ hx; omega
    | succ n ih => intro x h0 hx; exact h x h0 (fun y hy hlt => ih y hy (by omega))
  exact fun x hx => key (x.toNat + 1) x hx (by omega)
theorem accB_nbytes : ∀ x : Int, 0 ≤ x → x < 4294967296 → accB ((nbytes x).map u8) = x := by
  apply nat_ind
  intro x h0 ih h1
  by_cases hz : x = 0
  · subst hz; rw [nbytes_zero]; rfl
  · rw [nbytes_rec x (by omega) h1, List.map_append, List.map_singleton, accB_snoc, ih (x / 256) (by omega) (by omega) (by omega), u8_toNat (by omega) (by omega)]
    omega
theorem nbytes_head : ∀ x : Int, 0 ≤ x → x < 4294967296 → ∀ b l, nbytes x = b :: l → 0 < b ∧ b < 256 := by
  apply nat_ind
  intro x h0 ih h1 b l hb
  by_cases hz : x = 0
  · subst hz; rw [nbytes_zero] at hb; cases hb
  · rw [nbytes_rec x (by omega) h1] at hb
    cases hc : nbytes (x / 256) with
    | nil =>
      rw [hc] at hb
      simp at hb
      by_cases hy : x / 256 = 0
      · omega
      · exfalso
        rw [nbytes_rec (x / 256) (by omega) (by omega)] at hc
        simp at hc
    | cons c m =>
      rw [hc] at hb
      simp at hb
      have := ih (x / 256) (by omega) (by omega) (by omega) c m hc
      omega
theorem nbytes_pos (x : Int) (h0 : 0 ≤ x) (h1 : x < 4294967296) (h : nbytes x = []) : x = 0 := by
  by_cases hz : x = 0
  · exact hz
  · rw [nbytes_rec x (by omega) h1] at h; simp at h
theorem nbytes_accB : ∀ (n : Nat) (l : List UInt8), l.length = n → n ≤ 4 → (∀ b m, l = b :: m → b.toNat ≠ 0) → (nbytes (accB l)).map u8 = l ∧ (l ≠ [] → 0 < accB l) := by
  intro n
  induction n with
  | zero => intro l hl _ _; cases l with | nil => exact ⟨rfl, fun h => absurd rfl h⟩ | cons _ _ => simp at hl
  | succ n ih =>
    intro l hl h4 hh
    have hne : l ≠ [] := by intro e; rw [e] at hl; simp at hl
    have hsp := List.dropLast_concat_getLast hne
    generalize l.dropLast = m at hsp
    generalize l.getLast hne = b at hsp
    subst hsp
    have hm : m.length = n := by simp at hl; exact hl
    have hb := b.toNat_lt
    have hbd := accB_bd (m ++ [b])
    have hbm := accB_bd m
    have h256 : accB (m ++ [b]) < 4294967296 := Int.lt_of_lt_of_le hbd.2 (by
      rw [hl]
      match n, h4 with
      | 0, _ => decide
      | 1, _ => decide
      | 2, _ => decide
      | 3, _ => decide)
    have hsn := accB_snoc m b
    have ih' := ih m hm (by omega) (fun c k e => hh c (k ++ [b]) (by rw [e]; rfl))
    have hpos : 0 < accB (m ++ [b]) := by
      cases m with
      | nil => have := hh b [] rfl; rw [hsn]; simp [accB]; omega
      | cons c k => have := ih'.2 (by simp); omega
    refine ⟨?_, fun _ => hpos⟩
    rw [nbytes_rec _ hpos h256]
    have e1 : accB (m ++ [b]) / 256 = accB m := by omega
    have e2 : accB (m ++ [b]) % 256 = (b.toNat : Int) := by omega
    rw [e1, e2, List.map_append, ih'.1, List.map_singleton, u8_of]

theorem numStr_list (n : Int) : (numStr n).data.toList = u8 ((nbytes n).length : Int) :: (nbytes n).map u8 := by
  simp [numStr, Go.strOfNums, u8]
theorem numStr_sz (n : Int) : (numStr n).size = 1 + (nbytes n).length := by rw [← len_list, numStr_list]; simp; omega
theorem hd_list (s : ByteArray) : hd s = match s.data.toList with | [] => 0 | b :: _ => b.toNat := by
  cases s with | mk d => cases d with | mk l =>
    cases l with
    | nil => unfold hd; rw [dif_neg (by show ¬ 0 < 0; omega)]
    | cons b l => unfold hd; rw [dif_pos (by show 0 < l.length + 1; omega)]; rfl

/-- What is laid is read. -/
theorem getNum_put (n : Int) (h0 : 0 ≤ n) (h1 : n ≤ 4294967295) (rest : ByteArray) : getNum (numStr n ++ rest) = (n, rest, true) := by
  have hl := nbytes_length n
  have hlist : (numStr n ++ rest).data.toList = u8 ((nbytes n).length : Int) :: ((nbytes n).map u8 ++ rest.data.toList) := by rw [app_list, numStr_list]; rfl
  have hhd : hd (numStr n ++ rest) = (nbytes n).length := by
    rw [hd_list, hlist]
    have := u8_toNat (n := ((nbytes n).length : Int)) (by omega) (by omega)
    show (u8 _).toNat = _
    omega
  have hsz : (numStr n ++ rest).size = 1 + (nbytes n).length + rest.size := by rw [size_append, numStr_sz]
  have hb : ((numStr n ++ rest).extract 1 (1 + (nbytes n).length)).data.toList = (nbytes n).map u8 := by
    rw [ext_list, hlist, Nat.add_sub_cancel_left, List.drop_one, List.tail_cons]
    rw [List.take_append_of_le_length (by simp)]
    rw [List.take_of_length_le (by simp)]
  have hr : (numStr n ++ rest).extract (1 + (nbytes n).length) (numStr n ++ rest).size = rest := by
    apply ba_ext
    rw [ext_list, hlist, Nat.add_comm 1, List.drop_succ_cons, List.drop_append_of_le_length (by simp), List.drop_of_length_le (by simp), List.nil_append]
    rw [List.take_of_length_le]
    rw [len_list]; omega
  unfold getNum
  rw [hhd, if_neg (by omega), if_neg, hb, hr, accB_nbytes n h0 (by omega)]
  rintro ⟨hne, hz⟩
  rw [hd_list, hb] at hz
  cases hc : nbytes n with
  | nil => rw [hc] at hne; simp at hne
  | cons b l =>
    rw [hc] at hz
    have := nbytes_head n h0 (by omega) b l hc
    have h2 := u8_toNat (n := b) (by omega) this.2
    simp at hz
    omega
/-- What is read is laid. -/
theorem getNum_got {s : ByteArray} {n : Int} {rest : ByteArray} (h : getNum s = (n, rest, true)) : 0 ≤ n ∧ n ≤ 4294967295 ∧ s = numStr n ++ rest := by
  have hbd := getNum_bd s
  rw [h] at hbd
  refine ⟨hbd.1, by have := hbd.2; simp only at this; omega, ?_⟩
  unfold getNum at h
  split at h
  · simp at h
  · rename_i h1
    split at h
    · simp at h
    · rename_i h2
      simp only [Prod.mk.injEq, and_true] at h
      obtain ⟨rfl, rfl⟩ := h
      have hbl : ((s.extract 1 (1 + hd s)).data.toList).length = hd s := by rw [len_list, ByteArray.size_extract]; omega
      have hk := nbytes_accB (hd s) _ hbl (by omega) (by
        intro b m e hz
        apply h2
        refine ⟨fun h0 => by rw [e] at hbl; simp at hbl; omega, ?_⟩
        rw [hd_list, e]; exact hz)
      apply ba_ext
      have hlen : (nbytes (accB (s.extract 1 (1 + hd s)).data.toList)).length = hd s := by
        have := congrArg List.length hk.1
        rw [List.length_map, hbl] at this
        exact this
      rw [app_list, numStr_list, hk.1, hlen, ext_list, ext_list]
      cases hs : s.data.toList with
      | nil => have := len_list s; rw [hs] at this; simp at this; omega
      | cons b l =>
        have hb : hd s = b.toNat := by rw [hd_list, hs]
        have hsz : s.size = l.length + 1 := by rw [← len_list, hs]; rfl
        rw [hb, u8_of, Nat.add_comm 1, Nat.add_sub_cancel, List.drop_one, List.tail_cons, List.drop_succ_cons, List.cons_append]
        rw [List.take_of_length_le (l := l.drop b.toNat) (by rw [List.length_drop]; omega), List.take_append_drop]

/-! ### texts -/
theorem getText_put (t : ByteArray) (h : t.size ≤ 4000) (rest : ByteArray) : getText (textStr t ++ rest) = (t, rest, true) := by
  have hg : getNum (textStr t ++ rest) = ((t.size : Int), t ++ rest, true) := by
    unfold textStr
    rw [ByteArray.append_assoc]
    exact getNum_put _ (by omega) (by omega) _
  unfold getText
  rw [hg]
  simp only
  rw [if_pos ⟨trivial, by omega, by rw [size_append]; omega⟩]
  have e1 : (t ++ rest).extract 0 (t.size : Int).toNat = t := by
    apply ba_ext; rw [ext_list, app_list, Int.toNat_natCast, List.drop_zero, Nat.sub_zero, List.take_append_of_le_length (by rw [len_list]; exact Nat.le_refl _), List.take_of_length_le (by rw [len_list]; exact Nat.le_refl _)]
  have e2 : (t ++ rest).extract (t.size : Int).toNat (t ++ rest).size = rest := by
    apply ba_ext
    rw [ext_list, app_list, Int.toNat_natCast, List.drop_append_of_le_length (by rw [len_list]; exact Nat.le_refl _), List.drop_of_length_le (by rw [len_list]; exact Nat.le_refl _), List.nil_append, size_append, Nat.add_sub_cancel_left]
    rw [List.take_of_length_le (by rw [len_list]; exact Nat.le_refl _)]
  rw [e1, e2]
theorem getText_got {s t rest : ByteArray} (h : getText s = (t, rest, true)) : t.size ≤ 4000 ∧ s = textStr t ++ rest := by
  unfold getText at h
  split at h
  · rename_i hc
    obtain ⟨n, r, ok, hn⟩ : ∃ n r ok, getNum s = (n, r, ok) := ⟨_, _, _, rfl⟩
    rw [hn] at h hc
    simp only at h hc
    obtain ⟨rfl, hc1, hc2⟩ := hc
    obtain ⟨h0, h1, hs⟩ := getNum_got hn
    simp only [Prod.mk.injEq, and_true] at h
    obtain ⟨rfl, rfl⟩ := h
    have hsz : ((r.extract 0 n.toNat).size : Int) = n := by rw [ByteArray.size_extract]; omega
    refine ⟨by omega, ?_⟩
    unfold textStr
    rw [hsz, ByteArray.append_assoc, hs]
    congr 1
    apply ba_ext
    rw [app_list, ext_list, ext_list, List.drop_zero, Nat.sub_zero]
    rw [List.take_of_length_le (l := r.data.toList.drop n.toNat) (by rw [List.length_drop, len_list]; omega), List.take_append_drop]
  · simp at h
theorem getText_no {s : ByteArray} (h : (getText s).2.2 = false) : getText s = (⟨#[]⟩, ⟨#[]⟩, false) := by
  unfold getText at h ⊢
  split
  · rename_i hc; rw [if_pos hc] at h; simp at h
  · rfl
theorem getNum_no' {s : ByteArray} (h : (getNum s).2.2 = false) : getNum s = (0, ⟨#[]⟩, false) := by
  unfold getNum at h ⊢
  split
  · rfl
  · split
    · rfl
    · rename_i h1 h2; rw [if_neg h1, if_neg h2] at h; simp at h

/-! ### rows -/
theorem getTexts_put : ∀ (l : List ByteArray) (_ : ∀ t ∈ l, t.size ≤ 4000) (rest : ByteArray), getTexts l.length (catStr (l.map textStr) ++ rest) = (l, rest, true)
  | [], _, rest => by
    have : (⟨#[]⟩ : ByteArray) ++ rest = rest := ba_ext (by rw [app_list]; rfl)
    simp [getTexts, catStr, this]
  | t :: l, h, rest => by
    have hg : getText (catStr ((t :: l).map textStr) ++ rest) = (t, catStr (l.map textStr) ++ rest, true) := by
      rw [List.map_cons, catStr, ByteArray.append_assoc]
      exact getText_put t (h t List.mem_cons_self) _
    have ih := getTexts_put l (fun x hx => h x (List.mem_cons_of_mem _ hx)) rest
    rw [List.length_cons, getTexts, hg]
    simp [ih]
theorem getTexts_got : ∀ (n : Nat) (s : ByteArray) (l : List ByteArray) (rest : ByteArray), getTexts n s = (l, rest, true) → l.length = n ∧ (∀ t ∈ l, t.size ≤ 4000) ∧ s = catStr (l.map textStr) ++ rest
  | 0, s, l, rest, h => by
    simp [getTexts] at h
    obtain ⟨rfl, rfl⟩ := h
    exact ⟨rfl, by simp, ba_ext (by rw [app_list]; rfl)⟩
  | n + 1, s, l, rest, h => by
    unfold getTexts at h
    obtain ⟨t, r, ok, ht⟩ : ∃ t r ok, getText s = (t, r, ok) := ⟨_, _, _, rfl⟩
    rw [ht] at h
    simp only at h
    split at h
    · rename_i hok
      subst hok
      obtain ⟨m, q, k, hm⟩ : ∃ m q k, getTexts n r = (m, q, k) := ⟨_, _, _, rfl⟩
      rw [hm] at h
      simp only at h
      split at h
      · rename_i hk
        subst hk
        simp only [Prod.mk.injEq, and_true] at h
        obtain ⟨rfl, rfl⟩ := h
        obtain ⟨h1, h2, h3⟩ := getTexts_got n r m q hm
        obtain ⟨h4, h5⟩ := getText_got ht
        refine ⟨by simp [h1], fun x hx => ?_, ?_⟩
        · rcases List.mem_cons.1 hx with rfl | hx
          · exact h4
          · exact h2 x hx
        · rw [List.map_cons, catStr, ByteArray.append_assoc, ← h3, h5]
      · simp at h
    · simp at h
theorem getRow_put (l : List ByteArray) (hl : l.length ≤ 1000) (h : ∀ t ∈ l, t.size ≤ 4000) (rest : ByteArray) : getRow (rowStr l ++ rest) = (l, rest, true) := by
  have hg : getNum (rowStr l ++ rest) = ((l.length : Int), catStr (l.map textStr) ++ rest, true) := by
    unfold rowStr
    rw [ByteArray.append_assoc]
    exact getNum_put _ (by omega) (by omega) _
  unfold getRow
  rw [hg]
  simp only
  rw [if_pos ⟨trivial, by omega⟩, Int.toNat_natCast]
  exact getTexts_put l h rest
theorem getRow_got {s : ByteArray} {l : List ByteArray} {rest : ByteArray} (h : getRow s = (l, rest, true)) : l.length ≤ 1000 ∧ (∀ t ∈ l, t.size ≤ 4000) ∧ s = rowStr l ++ rest := by
  unfold getRow at h
  split at h
  · rename_i hc
    obtain ⟨n, r, ok, hn⟩ : ∃ n r ok, getNum s = (n, r, ok) := ⟨_, _, _, rfl⟩
    rw [hn] at h hc
    simp only at h hc
    obtain ⟨rfl, hc1⟩ := hc
    obtain ⟨h0, h1, hs⟩ := getNum_got hn
    obtain ⟨h2, h3, h4⟩ := getTexts_got _ _ _ _ h
    refine ⟨by omega, h3, ?_⟩
    unfold rowStr
    rw [h2, ByteArray.append_assoc, ← h4, hs]
    congr 2
    omega
  · simp at h
theorem getTexts_no : ∀ (n : Nat) (s : ByteArray), (getTexts n s).2.2 = false → getTexts n s = ([], ⟨#[]⟩, false)
  | 0, s, h => by simp [getTexts] at h
  | n + 1, s, h => by
    unfold getTexts at h ⊢
    split
    · rename_i h1
      rw [if_pos h1] at h
      split
      · rename_i h2; rw [if_pos h2] at h; simp at h
      · rfl
    · rfl
theorem getRow_no {s : ByteArray} (h : (getRow s).2.2 = false) : getRow s = ([], ⟨#[]⟩, false) := by
  unfold getRow at h ⊢
  split
  · rename_i hc; rw [if_pos hc] at h; exact getTexts_no _ _ h
  · rfl

end Go.Proofs.CodecPlain
-- Written by a program of this session (xprint.py) over the kit's print.py.
namespace Go.Proofs.Ytfejidinfcmfjaa.P
open Go.RowKit Go.Proofs.YtfejidinfcmfjaaW.PrintWords Go.Proofs.YtfejidinfcmfjaaW.PrintLast Go.Proofs.YtfejidinfcmfjaaW.PrintMore
attribute [local go_sem] max2_int min2_int max_two min_two max_three min_three max_four min_four   -- for this text's walks alone
set_option linter.unusedVariables false
set_option linter.unusedSimpArgs false

/-! ### sextonref01_Number: function 62 -/
mutual
def sextonref01_Number.j0 : Nat → Int → Bool → Option (ByteArray × Int)
  | 0, _, _ => none
  | k + 1, x0, x11 => if x11 = true then (some ((⟨#[]⟩ : ByteArray), 1)) else (sextonref01_Number.l0 k x0 (⟨#[]⟩ : ByteArray) 0)
def sextonref01_Number.l0 : Nat → Int → ByteArray → Int → Option (ByteArray × Int)
  | 0, _, _, _ => none
  | k + 1, x0, x4, x5 => if x0 > 0 then ((some (([(Int.tmod x0 256) % 256] : List Int) : List Int)).bind fun y333 => (if (strOfNums y333).size + x4.size ≤ 9223372036854775807 then (sextonref01_Number.l0 k (wrap64 (Int.tdiv x0 256)) ((strOfNums y333) ++ x4) (wrap64 (x5 + 1))) else (none))) else ((some (([(x5) % 256] : List Int) : List Int)).bind fun y336 => (if (strOfNums y336).size + x4.size ≤ 9223372036854775807 then (some ((strOfNums y336) ++ x4, 0)) else (none)))
end
def sextonref01_Number.f (k : Nat) (a0 : Int) : Option (ByteArray × Int) := if a0 < 0 then (sextonref01_Number.j0 k a0 true) else (sextonref01_Number.j0 k a0 (decide (a0 > 4294967295)))
theorem sextonref01_Number.mono_l : ∀ k, (∀ y0 y1, LeO (sextonref01_Number.j0 k y0 y1) (sextonref01_Number.j0 (k + 1) y0 y1)) ∧ (∀ y0 y1 y2, LeO (sextonref01_Number.l0 k y0 y1 y2) (sextonref01_Number.l0 (k + 1) y0 y1 y2))
  | 0 => ⟨fun _ _ r h => by simp [sextonref01_Number.j0] at h, fun _ _ _ r h => by simp [sextonref01_Number.l0] at h⟩
  | k + 1 => by
    obtain ⟨ih0, ih1⟩ := sextonref01_Number.mono_l k
    refine ⟨?_, ?_⟩
    · intro y0 y1
      unfold sextonref01_Number.j0
      repeat' first
      | (with_reducible exact ih0 _ _)
      | (with_reducible exact ih1 _ _ _)
      | (with_reducible exact LeO.refl _)
      | (with_reducible exact LeO.none _)
      | (with_reducible refine LeO.ite ?_ ?_)
      | (with_reducible refine LeO.bind ?_ (fun _ => ?_))
      | exact ih0 _ _
      | exact ih1 _ _ _
      | exact LeO.none _
      | refine LeO.ite ?_ ?_
      | refine LeO.bind ?_ (fun _ => ?_)
    · intro y0 y1 y2
      unfold sextonref01_Number.l0
      repeat' first
      | (with_reducible exact ih0 _ _)
      | (with_reducible exact ih1 _ _ _)
      | (with_reducible exact LeO.refl _)
      | (with_reducible exact LeO.none _)
      | (with_reducible refine LeO.ite ?_ ?_)
      | (with_reducible refine LeO.bind ?_ (fun _ => ?_))
      | exact ih0 _ _
      | exact ih1 _ _ _
      | exact LeO.none _
      | refine LeO.ite ?_ ?_
      | refine LeO.bind ?_ (fun _ => ?_)
theorem sextonref01_Number.mono : ∀ a0 k, LeO (sextonref01_Number.f k a0) (sextonref01_Number.f (k + 1) a0) := by
  intro a0 k
  obtain ⟨ih0, ih1⟩ := sextonref01_Number.mono_l k
  unfold sextonref01_Number.f
  repeat' first
      | (with_reducible exact ih0 _ _)
      | (with_reducible exact ih1 _ _ _)
      | (with_reducible exact LeO.refl _)
      | (with_reducible exact LeO.none _)
      | (with_reducible refine LeO.ite ?_ ?_)
      | (with_reducible refine LeO.bind ?_ (fun _ => ?_))
      | exact ih0 _ _
      | exact ih1 _ _ _
      | exact LeO.none _
      | refine LeO.ite ?_ ?_
      | refine LeO.bind ?_ (fun _ => ?_)
set_option maxHeartbeats 8000000 in
set_option maxRecDepth 100000 in
theorem sextonref01_Number.calls (k : Nat) (a0 : Int) (r1 : ByteArray) (r2 : Int) (w : World) (h : sextonref01_Number.f k a0 = some (r1, r2)) :
    Calls Try.prog 62 #[.int .i64 a0] w fun e w' => e = .returned (.tuple #[.string r1, .int .i64 r2]) ∧ Below w.heap.size w w' := by
  have HB := Aside0.mk (Below.refl w.heap.size w)
  have H : (if a0 < 0 then (sextonref01_Number.j0 k a0 true) else (sextonref01_Number.j0 k a0 (decide (a0 > 4294967295)))) = some (r1, r2) := h
  clear h
  have HC2 := Aside0.mk H
  clear H
  go_enter Try.func62, Try.ntmps62
  go_upto_region 1 with (fail)
  go_cut [11] (fun v11 wc => ∃ (kq : Nat) (x11_1 : Bool), v11 = .bool x11_1 ∧ Aside0 (sextonref01_Number.j0 kq a0 x11_1 = some (r1, r2)) ∧ Aside0 (kq ≤ k) ∧ Aside0 (Below w.heap.size w wc))
  case first =>
    have H := HC2.out
    clear HC2
    by_cases c3 : a0 < 0
    · rw [if_pos c3] at H
      have c3b0 : decide (a0 < 0) = true := decide_eq_true c3
      clear c3
      (first | rw [c3b0] | (simp only [i64_w, i32_w]; rw [c3b0]) | skip)
      have H' := Aside0.mk H
      clear H
      go_wp2
      go_meet
      case rel => exact ⟨_, (true), (by first | rfl | (simp; done) | (simp [*]; done)), H', ⟨by first | omega | exact Nat.le_refl _⟩, ⟨by repeat (first | (with_reducible first | exact HB.out | apply below_alloc | apply pw_below_drewN | apply below_drew1) | exact HB.out)⟩⟩
    · rw [if_neg c3] at H
      have c3b0 : decide (a0 < 0) = false := decide_eq_false c3
      clear c3
      (first | rw [c3b0] | (simp only [i64_w, i32_w]; rw [c3b0]) | skip)
      have H' := Aside0.mk H
      clear H
      go_wp2
      go_meet
      case rel => exact ⟨_, (decide (a0 > 4294967295)), (by first | rfl | (simp; done) | (simp [*]; done)), H', ⟨by first | omega | exact Nat.le_refl _⟩, ⟨by repeat (first | (with_reducible first | exact HB.out | apply below_alloc | apply pw_below_drewN | apply below_drew1) | exact HB.out)⟩⟩
  case rest =>
    clear HC2
    try clear p2
    try clear c3
    try clear c3b0
    obtain ⟨kq, x11_1, rfl, HA, HJ1, HB⟩ := hcut
    cases kq with
    | zero => exact absurd HA.out (by simp [sextonref01_Number.j0])
    | succ kj1 =>
      have H := HA.out
      clear HA
      simp only [sextonref01_Number.j0] at H
      by_cases c4 : x11_1 = true
      · subst c4
        have H1 : (some ((⟨#[]⟩ : ByteArray), 1)) = some (r1, r2) := by rw [if_pos rfl] at H; exact H
        clear H
        have H := H1
        clear H1
        simp only [Option.some.injEq, Prod.mk.injEq] at H
        obtain ⟨rfl, rfl⟩ := H
        go_wp2
        go_ret2
        exact ⟨by first | rfl | (simp [errW_none, errW_some] <;> rfl) | (simp [*, errW_none, errW_some] <;> rfl), by repeat (first | (with_reducible first | exact HB.out | apply below_alloc | apply pw_below_drewN | apply below_drew1) | exact HB.out)⟩
      · replace c4 := Bool.eq_false_iff.mpr c4
        subst c4
        have H1 : (sextonref01_Number.l0 kj1 a0 (⟨#[]⟩ : ByteArray) 0) = some (r1, r2) := by rw [if_neg (show ¬ (false = true) by decide)] at H; exact H
        clear H
        have H := H1
        clear H1
        have H' := Aside0.mk H
        clear H
        go_wp2
        go_loopg [0, 4, 5] kj1 (fun kq v0 v4 v5 w' => ∃ (x0_2 : Int) (x4_2 : ByteArray) (x5_2 : Int), v0 = .int .i64 x0_2 ∧ v4 = .string x4_2 ∧ v5 = .int .i64 x5_2 ∧ Aside0 (sextonref01_Number.l0 kq x0_2 x4_2 x5_2 = some (r1, r2)) ∧ Aside0 (kq ≤ kj1) ∧ Aside0 (Below w.heap.size w w'))
        case atStart => exact ⟨(a0), ((⟨#[]⟩ : ByteArray)), (0), (by first | rfl | (simp; done) | (simp [*]; done)), (by first | rfl | (simp; done) | (simp [*]; done)), (by first | rfl | (simp; done) | (simp [*]; done)), H', ⟨Nat.le_refl _⟩, ⟨by repeat (first | (with_reducible first | exact HB.out | apply below_alloc | apply pw_below_drewN | apply below_drew1) | exact HB.out)⟩⟩
        case round =>
          clear H'
          try clear p2
          try clear c3
          try clear c3b0
          try clear c4
          try clear p2
          obtain ⟨x0_2, x4_2, x5_2, rfl, rfl, rfl, HA, HK2, HB⟩ := hrel
          cases gk with
          | zero => exact absurd HA.out (by simp [sextonref01_Number.l0])
          | succ k2 =>
            have H := HA.out
            clear HA
            simp only [sextonref01_Number.l0] at H
            by_cases c5 : x0_2 > 0
            · rw [if_pos c5] at H
              have c5b0 : decide (0 < x0_2) = true := decide_eq_true c5
              clear c5
              obtain ⟨y333, hy333⟩ : ∃ y_ : List Int, y_ = (([(Int.tmod x0_2 256) % 256] : List Int)) := ⟨_, rfl⟩
              replace H : (if (strOfNums y333).size + x4_2.size ≤ 9223372036854775807 then (sextonref01_Number.l0 k2 (wrap64 (Int.tdiv x0_2 256)) ((strOfNums y333) ++ x4_2) (wrap64 (x5_2 + 1))) else (none)) = some (r1, r2) := by first | (rw [hy333]; with_reducible exact H) | (have H2_ := (Option.bind_some _ _).symm.trans H; rw [hy333]; with_reducible exact H2_) | (have H2_ := (Option.bind_some _ _).symm.trans H; with_reducible exact H2_) | with_reducible exact H | (rw [hy333]; exact H) | exact H
              have Ny333 := Aside0.mk hy333
              clear hy333
              by_cases c6 : (strOfNums y333).size + x4_2.size ≤ 9223372036854775807
              · rw [if_pos c6] at H
                have c6b0 := eq_true c6
                have c6b1 : decide ((strOfNums y333).size + x4_2.size ≤ 9223372036854775807) = true := decide_eq_true c6
                try have c6b2 : (9223372036854775807 < (strOfNums y333).size + x4_2.size) = False := eq_false (Nat.not_lt.2 c6)
                have H' := Aside0.mk H
                clear H
                go_wp2_with (first | ((with_reducible refine gate_dst (N := 17) rfl ?_); refine Kd.R_lit (Kd.int .u8) _ 5 ?hg (N := 17) ?hd (xs := ([(Int.tmod x0_2 256) % 256] : List Int)) (inner := [.int .u8 ((Int.tmod x0_2 256) % 256)]) (ok := fun _ => True) (okp := fun _ => True) ?hr ?hp (fun _ hk => hk) trivial (Below.refl _ _) (Nat.le_refl _) (by simp) ?_; (case hd => rfl); (case hg => rfl); (case hr => first | (go_simp; done) | (go_simp; rfl)); (case hp => exact (Reps.one (show Kd.M (Kd.int .u8) _ _ _ ((Int.tmod x0_2 256) % 256) [.int .u8 ((Int.tmod x0_2 256) % 256)] from rfl) (Reps.none _ _))); intro v334 w7 ho8 hb hg_ hnew_; clear hg_ hnew_; (first | rw [← Ny333.out] at ho8 | (simp only [Int.reduceToNat] at ho8; rw [← Ny333.out] at ho8)); have n0_ := Aside0.mk (Kd.R_lower ho8 (below_size (by repeat (first | (with_reducible first | exact HB.out | apply below_alloc | apply pw_below_drewN | apply below_drew1) | exact HB.out)))); have n1_ := Aside0.mk (below_step (by repeat (first | (with_reducible first | exact HB.out | apply below_alloc | apply pw_below_drewN | apply below_drew1) | exact HB.out)) hb); clear HB; have HO335 := n0_; have HB := n1_; clear n0_ n1_; clear hb ho8; have hcv9 := own_string (P := Try.prog) Try.underlying74 Try.underlying5 Try.underlying9 (Kd.own_of_R HO335.out)))
                go_roundg k2
                case measure => have := HJ1.out; have := HK2.out; omega
                case rel => exact ⟨(wrap64 (Int.tdiv x0_2 256)), ((strOfNums y333) ++ x4_2), (wrap64 (x5_2 + 1)), (by first | rfl | (simp; done) | (simp [*]; done)), (by first | rfl | (simp; done) | (simp [*]; done)), (by first | rfl | (simp; done) | (simp [*]; done)), H', ⟨by have := HJ1.out; have := HK2.out; omega⟩, ⟨by repeat (first | (with_reducible first | exact HB.out | apply below_alloc | apply pw_below_drewN | apply below_drew1) | exact HB.out)⟩⟩
              · rw [if_neg c6] at H
                exact absurd H (by simp)
            · rw [if_neg c5] at H
              have c5b0 : decide (0 < x0_2) = false := decide_eq_false c5
              clear c5
              obtain ⟨y336, hy336⟩ : ∃ y_ : List Int, y_ = (([(x5_2) % 256] : List Int)) := ⟨_, rfl⟩
              replace H : (if (strOfNums y336).size + x4_2.size ≤ 9223372036854775807 then (some ((strOfNums y336) ++ x4_2, 0)) else (none)) = some (r1, r2) := by first | (rw [hy336]; with_reducible exact H) | (have H2_ := (Option.bind_some _ _).symm.trans H; rw [hy336]; with_reducible exact H2_) | (have H2_ := (Option.bind_some _ _).symm.trans H; with_reducible exact H2_) | with_reducible exact H | (rw [hy336]; exact H) | exact H
              have Ny336 := Aside0.mk hy336
              clear hy336
              by_cases c10 : (strOfNums y336).size + x4_2.size ≤ 9223372036854775807
              · rw [if_pos c10] at H
                have c10b0 := eq_true c10
                have c10b1 : decide ((strOfNums y336).size + x4_2.size ≤ 9223372036854775807) = true := decide_eq_true c10
                try have c10b2 : (9223372036854775807 < (strOfNums y336).size + x4_2.size) = False := eq_false (Nat.not_lt.2 c10)
                simp only [Option.some.injEq, Prod.mk.injEq] at H
                obtain ⟨rfl, rfl⟩ := H
                go_wp2_with (first | ((with_reducible refine gate_dst (N := 27) rfl ?_); refine Kd.R_lit (Kd.int .u8) _ 5 ?hg (N := 27) ?hd (xs := ([(x5_2) % 256] : List Int)) (inner := [.int .u8 ((x5_2) % 256)]) (ok := fun _ => True) (okp := fun _ => True) ?hr ?hp (fun _ hk => hk) trivial (Below.refl _ _) (Nat.le_refl _) (by simp) ?_; (case hd => rfl); (case hg => rfl); (case hr => first | (go_simp; done) | (go_simp; rfl)); (case hp => exact (Reps.one (show Kd.M (Kd.int .u8) _ _ _ ((x5_2) % 256) [.int .u8 ((x5_2) % 256)] from rfl) (Reps.none _ _))); intro v337 w11 ho12 hb hg_ hnew_; clear hg_ hnew_; (first | rw [← Ny336.out] at ho12 | (simp only [Int.reduceToNat] at ho12; rw [← Ny336.out] at ho12)); have n0_ := Aside0.mk (Kd.R_lower ho12 (below_size (by repeat (first | (with_reducible first | exact HB.out | apply below_alloc | apply pw_below_drewN | apply below_drew1) | exact HB.out)))); have n1_ := Aside0.mk (below_step (by repeat (first | (with_reducible first | exact HB.out | apply below_alloc | apply pw_below_drewN | apply below_drew1) | exact HB.out)) hb); clear HB; have HO338 := n0_; have HB := n1_; clear n0_ n1_; clear hb ho12; have hcv13 := own_string (P := Try.prog) Try.underlying74 Try.underlying5 Try.underlying9 (Kd.own_of_R HO338.out)))
                go_ret2
                exact ⟨by first | rfl | (simp [errW_none, errW_some] <;> rfl) | (simp [*, errW_none, errW_some] <;> rfl), by repeat (first | (with_reducible first | exact HB.out | apply below_alloc | apply pw_below_drewN | apply below_drew1) | exact HB.out)⟩
              · rw [if_neg c10] at H
                exact absurd H (by simp)

end Go.Proofs.Ytfejidinfcmfjaa.P
-- Written by a program of this session (xprint.py) over the kit's print.py.
namespace Go.Proofs.Ytfejidinfcmfjaa.P
open Go.RowKit Go.Proofs.YtfejidinfcmfjaaW.PrintWords Go.Proofs.YtfejidinfcmfjaaW.PrintLast Go.Proofs.YtfejidinfcmfjaaW.PrintMore
attribute [local go_sem] max2_int min2_int max_two min_two max_three min_three max_four min_four   -- for this text's walks alone
set_option linter.unusedVariables false
set_option linter.unusedSimpArgs false

/-! ### sextonref01_Text: function 80 -/
def sextonref01_Text.f (k : Nat) (a0 : ByteArray) : Option (ByteArray × Int) := if (a0.size : Int) > 4000 then (some ((⟨#[]⟩ : ByteArray), 2)) else ((sextonref01_Number.f k (a0.size : Int)).bind fun bt339 => (if bt339.1.size + a0.size ≤ 9223372036854775807 then (some (bt339.1 ++ a0, 0)) else (none)))
theorem sextonref01_Text.mono : ∀ a0 k, LeO (sextonref01_Text.f k a0) (sextonref01_Text.f (k + 1) a0) := by
  intro a0 k
  unfold sextonref01_Text.f
  repeat' first
      | (with_reducible exact sextonref01_Number.mono _ _)
      | (with_reducible exact LeO.refl _)
      | (with_reducible exact LeO.none _)
      | (with_reducible refine LeO.ite ?_ ?_)
      | (with_reducible refine LeO.bind ?_ (fun _ => ?_))
      | exact sextonref01_Number.mono _ _
      | exact LeO.none _
      | refine LeO.ite ?_ ?_
      | refine LeO.bind ?_ (fun _ => ?_)
set_option maxHeartbeats 8000000 in
set_option maxRecDepth 100000 in
theorem sextonref01_Text.calls (k : Nat) (a0 : ByteArray) (r1 : ByteArray) (r2 : Int) (w : World) (h : sextonref01_Text.f k a0 = some (r1, r2)) :
    Calls Try.prog 80 #[.string a0] w fun e w' => e = .returned (.tuple #[.string r1, .int .i64 r2]) ∧ Below w.heap.size w w' := by
  have HB := Aside0.mk (Below.refl w.heap.size w)
  have H : (if (a0.size : Int) > 4000 then (some ((⟨#[]⟩ : ByteArray), 2)) else ((sextonref01_Number.f k (a0.size : Int)).bind fun bt339 => (if bt339.1.size + a0.size ≤ 9223372036854775807 then (some (bt339.1 ++ a0, 0)) else (none)))) = some (r1, r2) := h
  clear h
  by_cases c2 : (a0.size : Int) > 4000
  · rw [if_pos c2] at H
    have c2b0 : decide (4000 < (a0.size : Int)) = true := decide_eq_true c2
    have c2b1 : decide (4000 < a0.size) = true := decide_eq_true (by omega)
    clear c2
    simp only [Option.some.injEq, Prod.mk.injEq] at H
    obtain ⟨rfl, rfl⟩ := H
    go_enter Try.func80, Try.ntmps80
    go_wp2
    go_ret2
    exact ⟨by first | rfl | (simp [errW_none, errW_some] <;> rfl) | (simp [*, errW_none, errW_some] <;> rfl), by repeat (first | (with_reducible first | exact HB.out | apply below_alloc | apply pw_below_drewN | apply below_drew1) | exact HB.out)⟩
  · rw [if_neg c2] at H
    have c2b0 : decide (4000 < (a0.size : Int)) = false := decide_eq_false c2
    have c2b1 : decide (4000 < a0.size) = false := decide_eq_false (by omega)
    clear c2
    replace H := Option.bind_eq_some_iff.mp H
    obtain ⟨⟨t339, t340⟩, A30, H⟩ := H
    replace H : (if t339.size + a0.size ≤ 9223372036854775807 then (some (t339 ++ a0, 0)) else (none)) = some (r1, r2) := H
    have A3 := Aside0.mk A30
    clear A30
    by_cases c4 : t339.size + a0.size ≤ 9223372036854775807
    · rw [if_pos c4] at H
      have c4b0 := eq_true c4
      have c4b1 : decide (t339.size + a0.size ≤ 9223372036854775807) = true := decide_eq_true c4
      try have c4b2 : (9223372036854775807 < t339.size + a0.size) = False := eq_false (Nat.not_lt.2 c4)
      simp only [Option.some.injEq, Prod.mk.injEq] at H
      obtain ⟨rfl, rfl⟩ := H
      go_enter Try.func80, Try.ntmps80
      go_wp2_with (first | ((with_reducible refine gate_callee (f := 62) rfl ?_); refine goesL_ (some 12) rfl rfl Try.func62 (by kernel_rfl) rfl #[.int .i64 (a0.size : Int)] rfl (by (try simp only [List.map_toArray, List.map_cons, List.map_nil]); first | done | rfl | (simp only [List.length_drop, List.length_take]; rfl)) ?_; (with_reducible refine (sextonref01_Number.calls k (a0.size : Int) t339 t340 _ A3.out).mono ?_); rintro e w5 ⟨rfl, hb⟩; refine ⟨_, rfl, ?_⟩; have n0_ := Aside0.mk (below_step (by repeat (first | (with_reducible first | exact HB.out | apply below_alloc | apply pw_below_drewN | apply below_drew1) | exact HB.out)) hb); clear HB; have HB := n0_; clear n0_; (try clear hb); (try clear hb2); (try clear hk); (try clear hi)))
      go_ret2
      exact ⟨by first | rfl | (simp [errW_none, errW_some] <;> rfl) | (simp [*, errW_none, errW_some] <;> rfl), by repeat (first | (with_reducible first | exact HB.out | apply below_alloc | apply pw_below_drewN | apply below_drew1) | exact HB.out)⟩
    · rw [if_neg c4] at H
      exact absurd H (by simp)

end Go.Proofs.Ytfejidinfcmfjaa.P
-- Written by a program of this session (xprint.py) over the kit's print.py.
namespace Go.Proofs.Ytfejidinfcmfjaa.P
open Go.RowKit Go.Proofs.YtfejidinfcmfjaaW.PrintWords Go.Proofs.YtfejidinfcmfjaaW.PrintLast Go.Proofs.YtfejidinfcmfjaaW.PrintMore
attribute [local go_sem] max2_int min2_int max_two min_two max_three min_three max_four min_four   -- for this text's walks alone
set_option linter.unusedVariables false
set_option linter.unusedSimpArgs false

/-! ### sextonref01_Row: function 63 -/
def sextonref01_Row.l0 : Nat → List ByteArray → ByteArray → Int → Option (ByteArray × Int)
  | 0, _, _, _ => none
  | k + 1, x0, x4, x6 => if x6 < (x0.length : Int) then (if 0 ≤ x6 then ((sextonref01_Text.f k (rdOf ByteArray.empty x0 x6)).bind fun bt344 => (if bt344.2 = 0 then (if x4.size + bt344.1.size ≤ 9223372036854775807 then (sextonref01_Row.l0 k x0 (x4 ++ bt344.1) (wrap64 (x6 + 1))) else (none)) else (some ((⟨#[]⟩ : ByteArray), bt344.2)))) else (none)) else (some (x4, 0))
def sextonref01_Row.f (k : Nat) (l0 : List ByteArray) : Option (ByteArray × Int) := if (l0.length : Int) > 1000 then (some ((⟨#[]⟩ : ByteArray), 2)) else ((sextonref01_Number.f k (l0.length : Int)).bind fun bt341 => (sextonref01_Row.l0 k l0 bt341.1 0))
theorem sextonref01_Row.mono_l : ∀ k, (∀ y0 y1 y2, LeO (sextonref01_Row.l0 k y0 y1 y2) (sextonref01_Row.l0 (k + 1) y0 y1 y2))
  | 0 => fun _ _ _ r h => by simp [sextonref01_Row.l0] at h
  | k + 1 => by
    have ih0 := sextonref01_Row.mono_l k
    · intro y0 y1 y2
      unfold sextonref01_Row.l0
      repeat' first
      | (with_reducible exact ih0 _ _ _)
      | (with_reducible exact sextonref01_Number.mono _ _)
      | (with_reducible exact sextonref01_Text.mono _ _)
      | (with_reducible exact LeO.refl _)
      | (with_reducible exact LeO.none _)
      | (with_reducible refine LeO.ite ?_ ?_)
      | (with_reducible refine LeO.bind ?_ (fun _ => ?_))
      | exact ih0 _ _ _
      | exact sextonref01_Number.mono _ _
      | exact sextonref01_Text.mono _ _
      | exact LeO.none _
      | refine LeO.ite ?_ ?_
      | refine LeO.bind ?_ (fun _ => ?_)
theorem sextonref01_Row.mono : ∀ a0 k, LeO (sextonref01_Row.f k a0) (sextonref01_Row.f (k + 1) a0) := by
  intro a0 k
  have ih0 := sextonref01_Row.mono_l k
  unfold sextonref01_Row.f
  repeat' first
      | (with_reducible exact ih0 _ _ _)
      | (with_reducible exact sextonref01_Number.mono _ _)
      | (with_reducible exact sextonref01_Text.mono _ _)
      | (with_reducible exact LeO.refl _)
      | (with_reducible exact LeO.none _)
      | (with_reducible refine LeO.ite ?_ ?_)
      | (with_reducible refine LeO.bind ?_ (fun _ => ?_))
      | exact ih0 _ _ _
      | exact sextonref01_Number.mono _ _
      | exact sextonref01_Text.mono _ _
      | exact LeO.none _
      | refine LeO.ite ?_ ?_
      | refine LeO.bind ?_ (fun _ => ?_)
set_option maxHeartbeats 8000000 in
set_option maxRecDepth 100000 in
theorem sextonref01_Row.calls (k : Nat) (A0 : Option Addr) (c0 : Nat) (l0 : List ByteArray) (r1 : ByteArray) (r2 : Int) (w : World) (hr0 : Kd.C Kd.string w A0 l0.length l0) (hc0 : l0.length ≤ c0) (h : sextonref01_Row.f k l0 = some (r1, r2)) :
    Calls Try.prog 63 #[.slice A0 l0.length c0] w fun e w' => e = .returned (.tuple #[.string r1, .int .i64 r2]) ∧ Below w.heap.size w w' := by
  have HR0 := Aside0.mk hr0
  have HC0 := Aside0.mk hc0
  clear hr0 hc0
  have HB := Aside0.mk (Below.refl w.heap.size w)
  have H : (if (l0.length : Int) > 1000 then (some ((⟨#[]⟩ : ByteArray), 2)) else ((sextonref01_Number.f k (l0.length : Int)).bind fun bt341 => (sextonref01_Row.l0 k l0 bt341.1 0))) = some (r1, r2) := h
  clear h
  by_cases c2 : (l0.length : Int) > 1000
  · rw [if_pos c2] at H
    have c2b0 : decide (1000 < (l0.length : Int)) = true := decide_eq_true c2
    have c2b1 : decide (1000 < l0.length) = true := decide_eq_true (by omega)
    clear c2
    simp only [Option.some.injEq, Prod.mk.injEq] at H
    obtain ⟨rfl, rfl⟩ := H
    go_enter Try.func63, Try.ntmps63
    go_wp2
    go_ret2
    exact ⟨by first | rfl | (simp [errW_none, errW_some] <;> rfl) | (simp [*, errW_none, errW_some] <;> rfl), by repeat (first | (with_reducible first | exact HB.out | apply below_alloc | apply pw_below_drewN | apply below_drew1) | exact HB.out)⟩
  · rw [if_neg c2] at H
    have c2b0 : decide (1000 < (l0.length : Int)) = false := decide_eq_false c2
    have c2b1 : decide (1000 < l0.length) = false := decide_eq_false (by omega)
    clear c2
    replace H := Option.bind_eq_some_iff.mp H
    obtain ⟨⟨t341, t342⟩, A30, H⟩ := H
    replace H : (sextonref01_Row.l0 k l0 t341 0) = some (r1, r2) := H
    have A3 := Aside0.mk A30
    clear A30
    have H' := Aside0.mk H
    clear H
    go_enter Try.func63, Try.ntmps63
    go_wp2_with (first | ((with_reducible refine gate_callee (f := 62) rfl ?_); refine goesL_ (some 15) rfl rfl Try.func62 (by kernel_rfl) rfl #[.int .i64 (l0.length : Int)] rfl (by (try simp only [List.map_toArray, List.map_cons, List.map_nil]); first | done | rfl | (simp only [List.length_drop, List.length_take]; rfl)) ?_; (with_reducible refine (sextonref01_Number.calls k (l0.length : Int) t341 t342 _ A3.out).mono ?_); rintro e w4 ⟨rfl, hb⟩; refine ⟨_, rfl, ?_⟩; have n0_ := Aside0.mk (below_step (by repeat (first | (with_reducible first | exact HB.out | apply below_alloc | apply pw_below_drewN | apply below_drew1) | exact HB.out)) hb); clear HB; have HB := n0_; clear n0_; (try clear hb); (try clear hb2); (try clear hk); (try clear hi)))
    go_loopg [4, 6] k (fun kq v4 v6 w' => ∃ (x4_1 : ByteArray) (x6_1 : Int), v4 = .string x4_1 ∧ v6 = .int .i64 x6_1 ∧ Aside0 (sextonref01_Row.l0 kq l0 x4_1 x6_1 = some (r1, r2)) ∧ Aside0 (kq ≤ k) ∧ Aside0 (Below w.heap.size w w'))
    case atStart => exact ⟨(t341), (0), (by first | rfl | (simp; done) | (simp [*]; done)), (by first | rfl | (simp; done) | (simp [*]; done)), H', ⟨Nat.le_refl _⟩, ⟨by repeat (first | (with_reducible first | exact HB.out | apply below_alloc | apply pw_below_drewN | apply below_drew1) | exact HB.out)⟩⟩
    case round =>
      clear H'
      try clear c2
      try clear c2b0
      try clear c2b1
      try clear p2
      obtain ⟨x4_1, x6_1, rfl, rfl, HA, HK1, HB⟩ := hrel
      cases gk with
      | zero => exact absurd HA.out (by simp [sextonref01_Row.l0])
      | succ k1 =>
        have H := HA.out
        clear HA
        simp only [sextonref01_Row.l0] at H
        by_cases c5 : x6_1 < (l0.length : Int)
        · rw [if_pos c5] at H
          have c5b0 : decide (x6_1 < (l0.length : Int)) = true := decide_eq_true c5
          clear c5
          by_cases c6 : 0 ≤ x6_1
          · rw [if_pos c6] at H
            have c6b0 : decide (0 ≤ x6_1) = true := decide_eq_true c6
            clear c6
            replace H := Option.bind_eq_some_iff.mp H
            obtain ⟨⟨t344, t345⟩, A70, H⟩ := H
            replace H : (if t345 = 0 then (if x4_1.size + t344.size ≤ 9223372036854775807 then (sextonref01_Row.l0 k1 l0 (x4_1 ++ t344) (wrap64 (x6_1 + 1))) else (none)) else (some ((⟨#[]⟩ : ByteArray), t345))) = some (r1, r2) := H
            have A7 := Aside0.mk A70
            clear A70
            by_cases c8 : t345 = 0
            · rw [if_pos c8] at H
              have c8b0 : (t345 == 0) = true := beq_iff_eq.mpr c8
              have c8b1 : (t345 != 0) = false := bne_eq_false_iff_eq.mpr c8
              clear c8
              by_cases c9 : x4_1.size + t344.size ≤ 9223372036854775807
              · rw [if_pos c9] at H
                have c9b0 := eq_true c9
                have c9b1 : decide (x4_1.size + t344.size ≤ 9223372036854775807) = true := decide_eq_true c9
                try have c9b2 : (9223372036854775807 < x4_1.size + t344.size) = False := eq_false (Nat.not_lt.2 c9)
                have H' := Aside0.mk H
                clear H
                have p343 : 0 ≤ (x6_1 : Int) := of_decide_eq_true (by first | (with_reducible assumption) | assumption)
                have q343 : x6_1 < (l0.length : Int) := of_decide_eq_true (by first | (with_reducible assumption) | assumption)
                obtain ⟨ad343, e343, hx343_0⟩ := Kd.at_string HR0.out x6_1 p343 q343
                cases e343
                replace hx343_0 := (HB.out.cell (World.block_lt_of_cell? w _ hx343_0)).trans hx343_0
                replace p343 := eq_true p343
                replace q343 := eq_true q343
                go_wp2_with (first | ((with_reducible refine gate_callee (f := 80) rfl ?_); refine goesL_ (some 29) rfl rfl Try.func80 (by kernel_rfl) rfl #[.string (rdOf ByteArray.empty l0 x6_1)] rfl (by (try simp only [List.map_toArray, List.map_cons, List.map_nil]); first | done | rfl | (simp only [List.length_drop, List.length_take]; rfl)) ?_; (with_reducible refine (sextonref01_Text.calls k1 (rdOf ByteArray.empty l0 x6_1) t344 t345 _ A7.out).mono ?_); rintro e w10 ⟨rfl, hb⟩; refine ⟨_, rfl, ?_⟩; have n0_ := Aside0.mk (below_step (by repeat (first | (with_reducible first | exact HB.out | apply below_alloc | apply pw_below_drewN | apply below_drew1) | exact HB.out)) hb); clear HB; have HB := n0_; clear n0_; (try clear hb); (try clear hb2); (try clear hk); (try clear hi)))
                go_roundg k1
                case measure => have := HK1.out; omega
                case rel => exact ⟨(x4_1 ++ t344), (wrap64 (x6_1 + 1)), (by first | rfl | (simp; done) | (simp [*]; done)), (by first | rfl | (simp; done) | (simp [*]; done)), H', ⟨by have := HK1.out; omega⟩, ⟨by repeat (first | (with_reducible first | exact HB.out | apply below_alloc | apply pw_below_drewN | apply below_drew1) | exact HB.out)⟩⟩
              · rw [if_neg c9] at H
                exact absurd H (by simp)
            · rw [if_neg c8] at H
              have c8b0 : (t345 == 0) = false := beq_eq_false_iff_ne.mpr c8
              have c8b1 : (t345 != 0) = true := bne_iff_ne.mpr c8
              simp only [Option.some.injEq, Prod.mk.injEq] at H
              obtain ⟨rfl, rfl⟩ := H
              have p343 : 0 ≤ (x6_1 : Int) := of_decide_eq_true (by first | (with_reducible assumption) | assumption)
              have q343 : x6_1 < (l0.length : Int) := of_decide_eq_true (by first | (with_reducible assumption) | assumption)
              obtain ⟨ad343, e343, hx343_0⟩ := Kd.at_string HR0.out x6_1 p343 q343
              cases e343
              replace hx343_0 := (HB.out.cell (World.block_lt_of_cell? w _ hx343_0)).trans hx343_0
              replace p343 := eq_true p343
              replace q343 := eq_true q343
              go_wp2_with (first | ((with_reducible refine gate_callee (f := 80) rfl ?_); refine goesL_ (some 29) rfl rfl Try.func80 (by kernel_rfl) rfl #[.string (rdOf ByteArray.empty l0 x6_1)] rfl (by (try simp only [List.map_toArray, List.map_cons, List.map_nil]); first | done | rfl | (simp only [List.length_drop, List.length_take]; rfl)) ?_; (with_reducible refine (sextonref01_Text.calls k1 (rdOf ByteArray.empty l0 x6_1) t344 t345 _ A7.out).mono ?_); rintro e w11 ⟨rfl, hb⟩; refine ⟨_, rfl, ?_⟩; have n0_ := Aside0.mk (below_step (by repeat (first | (with_reducible first | exact HB.out | apply below_alloc | apply pw_below_drewN | apply below_drew1) | exact HB.out)) hb); clear HB; have HB := n0_; clear n0_; (try clear hb); (try clear hb2); (try clear hk); (try clear hi)))
              go_ret2
              exact ⟨by first | rfl | (simp [errW_none, errW_some] <;> rfl) | (simp [*, errW_none, errW_some] <;> rfl), by repeat (first | (with_reducible first | exact HB.out | apply below_alloc | apply pw_below_drewN | apply below_drew1) | exact HB.out)⟩
          · rw [if_neg c6] at H
            exact absurd H (by simp)
        · rw [if_neg c5] at H
          have c5b0 : decide (x6_1 < (l0.length : Int)) = false := decide_eq_false c5
          clear c5
          simp only [Option.some.injEq, Prod.mk.injEq] at H
          obtain ⟨rfl, rfl⟩ := H
          go_wp2
          go_ret2
          exact ⟨by first | rfl | (simp [errW_none, errW_some] <;> rfl) | (simp [*, errW_none, errW_some] <;> rfl), by repeat (first | (with_reducible first | exact HB.out | apply below_alloc | apply pw_below_drewN | apply below_drew1) | exact HB.out)⟩

end Go.Proofs.Ytfejidinfcmfjaa.P
-- Written by a program of this session (xprint.py) over the kit's print.py.
namespace Go.Proofs.Ytfejidinfcmfjaa.P
open Go.RowKit Go.Proofs.YtfejidinfcmfjaaW.PrintWords Go.Proofs.YtfejidinfcmfjaaW.PrintLast Go.Proofs.YtfejidinfcmfjaaW.PrintMore
attribute [local go_sem] max2_int min2_int max_two min_two max_three min_three max_four min_four   -- for this text's walks alone
set_option linter.unusedVariables false
set_option linter.unusedSimpArgs false

/-! ### sextonref01_Own: function 73 -/
def sextonref01_Own.f (l0 : List ByteArray) : Option (List ByteArray) := if ([] : List ByteArray).length + l0.length < 8796093022208 then (some (([] : List ByteArray) ++ l0)) else (none)
set_option maxHeartbeats 8000000 in
set_option maxRecDepth 100000 in
theorem sextonref01_Own.calls (A0 : Option Addr) (c0 : Nat) (l0 : List ByteArray) (r : List ByteArray) (w : World) (hr0 : Kd.C Kd.string w A0 l0.length l0) (hc0 : l0.length ≤ c0) (h : sextonref01_Own.f l0 = some r) :
    Calls Try.prog 73 #[.slice A0 l0.length c0] w fun e w' => ∃ v0_ : Value, e = .returned (v0_) ∧ Kd.R Kd.string 9 w' w.heap.size (fun _ => True) v0_ r ∧ Below w.heap.size w w' := by
  have HR0 := Aside0.mk hr0
  have HC0 := Aside0.mk hc0
  clear hr0 hc0
  have HB := Aside0.mk (Below.refl w.heap.size w)
  have H : (if ([] : List ByteArray).length + l0.length < 8796093022208 then (some (([] : List ByteArray) ++ l0)) else (none)) = some r := h
  clear h
  by_cases c2 : ([] : List ByteArray).length + l0.length < 8796093022208
  · rw [if_pos c2] at H
    have LMc2 := Aside0.mk c2
    clear c2
    obtain ⟨y105, hy105⟩ : ∃ y_ : List ByteArray, y_ = (([] : List ByteArray) ++ l0) := ⟨_, rfl⟩
    replace H : (some y105) = some r := by first | (rw [hy105]; with_reducible exact H) | (have H2_ := (Option.bind_some _ _).symm.trans H; rw [hy105]; with_reducible exact H2_) | (have H2_ := (Option.bind_some _ _).symm.trans H; with_reducible exact H2_) | with_reducible exact H | (rw [hy105]; exact H) | exact H
    have Ny105 := Aside0.mk hy105
    clear hy105
    obtain rfl := Option.some.inj H
    go_enter Try.func73, Try.ntmps73
    go_wp2_with (first | ((with_reducible refine gate_builtin (b := .append) (xs := #[.tmp 4, .tmp 5]) rfl ?_); at_builtin; refine Kd.R_append_rows Kd.string (w0 := w) w.heap.size rfl (.tmp 4) (.tmp 5) 27 9 (.string ⟨#[]⟩) 16 rfl Try.underlying27 info9 rfl (by decide) (by omega) (.slice none 0 0) ([] : List ByteArray) l0 _ _ _ (fun _ => True) (fun _ => False) rfl rfl ?aO ?aR (fun _ _ h => h) (fun _ h => h.elim) ?aF ?aB ?aS ?aL ?_; (case aR => repeat (first | exact HR0.out | (with_reducible refine Kd.C_alloc ?_ _) | (with_reducible refine Kd.C_drewN ?_ _) | (with_reducible refine Kd.C_drew ?_))); (case aB => exact (by repeat (first | (with_reducible first | exact HB.out | apply below_alloc | apply pw_below_drewN | apply below_drew1) | exact HB.out))); (case aF => exact (fun _ _ => trivial)); (case aO => exact ((Kd.R_nil _ _ _ _ (fun _ => True)))); (case aS => exact (below_size (by repeat (first | (with_reducible first | exact HB.out | apply below_alloc | apply pw_below_drewN | apply below_drew1) | exact HB.out)))); (case aL => have := LMc2.out; omega); intro v106 w3 ho hb hg hat; rw [← Ny105.out] at ho; have n0_ := Aside0.mk (hb); have n1_ := Aside0.mk (ho); clear HB; have HB := n0_; have HO107 := n1_; clear n0_ n1_; clear ho hb hg hat))
    go_ret
    exact ⟨_, by first | rfl | (simp [errW_none, errW_some] <;> rfl) | (simp [*, errW_none, errW_some] <;> rfl), by (with_reducible repeat (first | apply Kd.R_alloc | apply Kd.R_drewN | apply Kd.R_drew)); exact HO107.out, by repeat (first | (with_reducible first | exact HB.out | apply below_alloc | apply pw_below_drewN | apply below_drew1) | exact HB.out)⟩
  · rw [if_neg c2] at H
    exact absurd H (by simp)

end Go.Proofs.Ytfejidinfcmfjaa.P
/-
  What the references of chapter 1 answer, told plainly.
-/
namespace Go.Proofs.Ytfejidinfcmfjaa.P
open Go.RowKit Go.Proofs.CodecPlain Go.Proofs.YtfejidinfcmfjaaW.PrintWords Go.Proofs.YtfejidinfcmfjaaW.PrintLast

theorem ev_if_pos {α : Type} {p : Nat → Prop} [∀ k, Decidable (p k)] {a b : Nat → Option α} {r : α} (h : ∀ k, p k) (k : Ev a r) : Ev (fun n => if p n then a n else b n) r :=
  k.congr (fun n => if_pos (h n))
theorem toList_inj {a b : ByteArray} (h : a.toList = b.toList) : a = b := by
  rw [ByteArray.toList_eq, ByteArray.toList_eq] at h; exact ba_ext h
theorem wrap_id {x : Int} (h0 : -9223372036854775808 ≤ x) (h1 : x ≤ 9223372036854775807) : wrap64 x = x := by unfold wrap64; omega

theorem strOfNums_size (l : List Int) : (strOfNums l).size = l.length := by simp [strOfNums, ByteArray.size]
theorem strOfNums_list (l : List Int) : (strOfNums l).data.toList = l.map u8 := by simp [strOfNums, u8]

theorem refNumber_l0 : ∀ x : Int, 0 ≤ x → x < 4294967296 → ∀ (acc : ByteArray) (c : Int), acc.size + (nbytes x).length ≤ 1000 → 0 ≤ c → c + ((nbytes x).length : Int) ≤ 1000 →
    Ev (fun k => sextonref01_Number.l0 k x acc c) (strOfNums [(c + ((nbytes x).length : Int)) % 256] ++ (strOfNums (nbytes x) ++ acc), 0) := by
  apply nat_ind
  intro x h0 ih h1 acc c ha hc0 hc1
  by_cases hz : x = 0
  · subst hz
    refine Ev.step (f := fun _ => some (strOfNums [c % 256] ++ acc, 0)) (fun k => ?_) ?_
    · simp only [sextonref01_Number.l0]
      rw [if_neg (by omega)]
      simp only [Option.bind_some]
      rw [if_pos (by rw [strOfNums_size]; simp; omega)]
    · rw [nbytes_zero]
      have : strOfNums [] ++ acc = acc := ba_ext (by rw [app_list, strOfNums_list]; rfl)
      simp only [List.length_nil, Int.natCast_zero, Int.add_zero, this]
      exact Ev.now _
  · refine Ev.step (f := fun k => sextonref01_Number.l0 k (x / 256) (strOfNums [x % 256] ++ acc) (c + 1)) (fun k => ?_) ?_
    · simp only [sextonref01_Number.l0]
      rw [if_pos (by omega)]
      simp only [Option.bind_some]
      rw [if_pos (by rw [strOfNums_size]; simp; omega), Int.tdiv_eq_ediv_of_nonneg h0, wrap_id (x := x / 256) (by omega) (by omega), wrap_id (x := c + 1) (by omega) (by omega), Int.tmod_eq_emod_of_nonneg h0]
      congr 4
      omega
    · have hlen : (nbytes x).length = (nbytes (x / 256)).length + 1 := by rw [nbytes_rec x (by omega) h1]; simp
      have := ih (x / 256) (by omega) (by omega) (by omega) (strOfNums [x % 256] ++ acc) (c + 1) (by
        rw [CodecPlain.size_append, strOfNums_size]; simp; rw [hlen] at ha; omega) (by omega) (by omega)
      rw [nbytes_rec x (by omega) h1]
      have e1 : strOfNums (nbytes (x / 256)) ++ (strOfNums [x % 256] ++ acc) = strOfNums (nbytes (x / 256) ++ [x % 256]) ++ acc := ba_ext (by simp only [app_list, strOfNums_list]; simp)
      rw [e1] at this
      have e2 : c + 1 + ((nbytes (x / 256)).length : Int) = c + ((nbytes (x / 256) ++ [x % 256]).length : Int) := by simp; omega
      rw [e2] at this
      exact this

theorem refNumber (n : Int) : Ev (fun k => sextonref01_Number.f k n) (if 0 ≤ n ∧ n ≤ 4294967295 then (numStr n, 0) else (⟨#[]⟩, 1)) := by
  by_cases h0 : n < 0
  · rw [if_neg (by omega)]
    refine Ev.congr (f := fun k => sextonref01_Number.j0 k n true) (fun k => by unfold sextonref01_Number.f; rw [if_pos h0]) ?_
    exact Ev.step (f := fun _ => some (⟨#[]⟩, 1)) (fun k => by simp [sextonref01_Number.j0]) (Ev.now _)
  · refine Ev.congr (f := fun k => sextonref01_Number.j0 k n (decide (n > 4294967295))) (fun k => by unfold sextonref01_Number.f; rw [if_neg h0]) ?_
    by_cases h1 : n > 4294967295
    · rw [if_neg (by omega), decide_eq_true h1]
      exact Ev.step (f := fun _ => some (⟨#[]⟩, 1)) (fun k => by simp [sextonref01_Number.j0]) (Ev.now _)
    · rw [if_pos (by omega), decide_eq_false h1]
      refine Ev.step (f := fun k => sextonref01_Number.l0 k n ⟨#[]⟩ 0) (fun k => by simp [sextonref01_Number.j0]) ?_
      have hl := nbytes_length n
      have := refNumber_l0 n (by omega) (by omega) ⟨#[]⟩ 0 (by have : (⟨#[]⟩ : ByteArray).size = 0 := rfl; omega) (by omega) (by omega)
      have e : strOfNums [(0 + ((nbytes n).length : Int)) % 256] ++ (strOfNums (nbytes n) ++ ⟨#[]⟩) = numStr n := ba_ext (by
        simp only [app_list, strOfNums_list, numStr_list]
        rw [show (0 + ((nbytes n).length : Int)) % 256 = ((nbytes n).length : Int) by omega]
        simp)
      rw [e] at this
      exact this

theorem refText (s : ByteArray) : Ev (fun k => sextonref01_Text.f k s) (if s.size ≤ 4000 then (textStr s, 0) else (⟨#[]⟩, 2)) := by
  by_cases h : s.size ≤ 4000
  · rw [if_pos h]
    have hn := refNumber (s.size : Int)
    rw [if_pos (by omega)] at hn
    have hs := numStr_size (s.size : Int)
    refine Ev.congr (f := fun k => (sextonref01_Number.f k (s.size : Int)).bind fun bt116 => (if bt116.1.size + s.size ≤ 9223372036854775807 then (some (bt116.1 ++ s, 0)) else (none))) (fun k => by unfold sextonref01_Text.f; rw [if_neg (by omega)]) ?_
    refine Ev.bind hn (Ev.congr (f := fun _ => some (textStr s, 0)) (fun k => ?_) (Ev.now _))
    simp only
    rw [if_pos (by omega)]
    rfl
  · rw [if_neg h]
    exact Ev.congr (f := fun _ => some (⟨#[]⟩, 2)) (fun k => by unfold sextonref01_Text.f; rw [if_pos (by omega)]) (Ev.now _)

/-- What a row's loop tells, some texts having been told. -/
theorem refRow_l0 (l : List ByteArray) (hl : l.length ≤ 1000) (d : Nat) : ∀ (k : Nat) (acc : ByteArray), k + d = l.length → acc.size ≤ 5 + k * 4005 →
    Ev (fun r => sextonref01_Row.l0 r l acc (k : Int)) (if (l.drop k).all (fun s => decide (s.size ≤ 4000)) = true then (acc ++ catStr ((l.drop k).map textStr), 0) else (⟨#[]⟩, 2)) := by
  induction d with
  | zero =>
    intro k acc hk ha
    have hd : l.drop k = [] := List.drop_of_length_le (by omega)
    rw [hd]
    refine Ev.step (f := fun _ => some (acc, 0)) (fun r => by simp only [sextonref01_Row.l0]; rw [if_neg (by omega)]) ?_
    have : acc ++ catStr [] = acc := ba_ext (by simp [app_list, catStr])
    simp only [List.all_nil, List.map_nil, if_true, this]
    exact Ev.now _
  | succ d ih =>
    intro k acc hk ha
    have hlt : k < l.length := by omega
    have hd : l.drop k = l[k] :: l.drop (k + 1) := List.drop_eq_getElem_cons hlt
    have ht := refText l[k]
    refine Ev.step (f := fun r => (sextonref01_Text.f r l[k]).bind fun bt121 => (if bt121.2 = 0 then (if acc.size + bt121.1.size ≤ 9223372036854775807 then (sextonref01_Row.l0 r l (acc ++ bt121.1) ((k + 1 : Nat) : Int)) else (none)) else (some ((⟨#[]⟩ : ByteArray), bt121.2)))) (fun r => ?_) ?_
    · simp only [sextonref01_Row.l0]
      rw [if_pos (by omega), if_pos (by omega), rd_string l k hlt, wrap_id (by omega) (by omega)]
      rfl
    · by_cases hs : l[k].size ≤ 4000
      · rw [if_pos hs] at ht
        have hts := textStr_size l[k]
        refine Ev.bind ht ?_
        have hn := ih (k + 1) (acc ++ textStr l[k]) (by omega) (by rw [CodecPlain.size_append]; omega)
        refine Ev.congr (f := fun r => sextonref01_Row.l0 r l (acc ++ textStr l[k]) ((k + 1 : Nat) : Int)) (fun r => by simp only; rw [if_pos trivial, if_pos (by omega)]) ?_
        rw [hd]
        simp only [List.all_cons, hs, decide_true, Bool.true_and, List.map_cons, catStr]
        rw [← ByteArray.append_assoc]
        exact hn
      · rw [if_neg hs] at ht
        refine Ev.bind ht ?_
        refine Ev.congr (f := fun _ => some (⟨#[]⟩, 2)) (fun r => by simp only; rw [if_neg (by decide)]) ?_
        rw [hd, if_neg (fun h => hs (of_decide_eq_true (List.all_eq_true.1 h l[k] List.mem_cons_self)))]
        exact Ev.now _

theorem refRow (l : List ByteArray) : Ev (fun k => sextonref01_Row.f k l) (if 1000 < l.length then (⟨#[]⟩, 2) else if l.all (fun s => decide (s.size ≤ 4000)) = true then (rowStr l, 0) else (⟨#[]⟩, 2)) := by
  by_cases h : 1000 < l.length
  · rw [if_pos h]
    exact Ev.congr (f := fun _ => some (⟨#[]⟩, 2)) (fun k => by unfold sextonref01_Row.f; rw [if_pos (by omega)]) (Ev.now _)
  · rw [if_neg h]
    have hn := refNumber (l.length : Int)
    rw [if_pos (by omega)] at hn
    have hs := numStr_size (l.length : Int)
    refine Ev.congr (f := fun k => (sextonref01_Number.f k (l.length : Int)).bind fun bt118 => (sextonref01_Row.l0 k l bt118.1 0)) (fun k => by unfold sextonref01_Row.f; rw [if_neg (by omega)]) ?_
    exact Ev.bind hn (refRow_l0 l (by omega) l.length 0 (numStr (l.length : Int)) (by omega) (by omega))

theorem refTexts_l0 (a b : List ByteArray) (hl : a.length = b.length) (hm : a.length ≤ 9223372036854775806) (d : Nat) : ∀ k : Nat, k + d = a.length → Ev (fun r => sextonref01_Texts.l0 r a b (k : Int)) (decide (a.drop k = b.drop k)) := by
  induction d with
  | zero =>
    intro k hk
    have h1 : a.drop k = [] := List.drop_of_length_le (by omega)
    have h2 : b.drop k = [] := List.drop_of_length_le (by omega)
    rw [h1, h2]
    exact Ev.step (f := fun _ => some true) (fun r => by simp only [sextonref01_Texts.l0]; rw [if_neg (by omega)]) (Ev.now _)
  | succ d ih =>
    intro k hk
    have ha : k < a.length := by omega
    have hb : k < b.length := by omega
    have e1 : a.drop k = a[k] :: a.drop (k + 1) := List.drop_eq_getElem_cons ha
    have e2 : b.drop k = b[k] :: b.drop (k + 1) := List.drop_eq_getElem_cons hb
    by_cases he : a[k] = b[k]
    · refine Ev.step (f := fun r => sextonref01_Texts.l0 r a b ((k + 1 : Nat) : Int)) (fun r => ?_) ?_
      · simp only [sextonref01_Texts.l0]
        rw [if_pos (by omega), if_pos (by omega), if_pos (by omega), rd_string a k ha, rd_string b k hb, if_pos (by rw [he]), wrap_id (by omega) (by omega)]
        rfl
      · have := ih (k + 1) (by omega)
        rw [e1, e2, he]
        simp only [List.cons.injEq, true_and]
        exact this
    · refine Ev.step (f := fun _ => some false) (fun r => ?_) ?_
      · simp only [sextonref01_Texts.l0]
        rw [if_pos (by omega), if_pos (by omega), if_pos (by omega), rd_string a k ha, rd_string b k hb, if_neg (fun h => he (toList_inj h))]
      · rw [e1, e2, decide_eq_false (fun h => he (List.cons.inj h).1)]
        exact Ev.now _
theorem refTexts (a b : List ByteArray) (hm : a.length ≤ 9223372036854775806) : Ev (fun r => sextonref01_Texts.f r a b) (decide (a = b)) := by
  by_cases hl : a.length = b.length
  · refine Ev.congr (f := fun r => sextonref01_Texts.l0 r a b 0) (fun r => by unfold sextonref01_Texts.f; rw [if_pos (by omega)]) ?_
    have := refTexts_l0 a b hl hm a.length 0 (by omega)
    simpa using this
  · rw [decide_eq_false (fun h => hl (by rw [h]))]
    exact Ev.congr (f := fun _ => some false) (fun r => by unfold sextonref01_Texts.f; rw [if_neg (by omega)]) (Ev.now _)
theorem refOwn (l : List ByteArray) (h : l.length < 8796093022208) : sextonref01_Own.f l = some l := by
  unfold sextonref01_Own.f
  rw [if_pos (by simpa using h)]
  rfl
end Go.Proofs.Ytfejidinfcmfjaa.P
/-
  A message's bytes: what is put is got, whatever stands behind; what is got is put.
-/
namespace Go.Proofs.Ytfejidinfcmfjaa.MS
open Go.RowKit Go.Proofs Go.Proofs.CodecPlain Go.Proofs.YtfejidinfcmfjaaW.PrintWords Go.Proofs.YtfejidinfcmfjaaW.PrintLast Go.Proofs.Ytfejidinfcmfjaa.P

def InN (n : Int) : Prop := 0 ≤ n ∧ n ≤ 4294967295
theorem cat_cons (n : Int) (ns : List Int) : catStr ((n :: ns).map numStr) = numStr n ++ catStr (ns.map numStr) := rfl
theorem getNs_put : ∀ (ns : List Int) (_ : ∀ n ∈ ns, InN n) (rest : ByteArray), getNs ns.length (catStr (ns.map numStr) ++ rest) = (ns, rest, true)
  | [], _, rest => by
    show ([], ByteArray.empty ++ rest, true) = _
    rw [ByteArray.empty_append]
  | n :: ns, h, rest => by
    have hn := h n List.mem_cons_self
    have ih := getNs_put ns (fun m hm => h m (List.mem_cons_of_mem _ hm)) rest
    rw [cat_cons, ByteArray.append_assoc]
    simp only [List.length_cons, getNs]
    rw [getNum_put n hn.1 hn.2, if_pos rfl, ih]
theorem getNs_got : ∀ (k : Nat) (s : ByteArray) (ns : List Int) (rest : ByteArray), getNs k s = (ns, rest, true) → ns.length = k ∧ (∀ n ∈ ns, InN n) ∧ s = catStr (ns.map numStr) ++ rest
  | 0, s, ns, rest, h => by
    simp only [getNs, Prod.mk.injEq] at h
    obtain ⟨rfl, rfl, _⟩ := h
    refine ⟨rfl, by simp, ?_⟩
    show s = ByteArray.empty ++ s
    rw [ByteArray.empty_append]
  | k + 1, s, ns, rest, h => by
    simp only [getNs] at h
    obtain ⟨n, r, ok, hg⟩ : ∃ n r ok, getNum s = (n, r, ok) := ⟨_, _, _, rfl⟩
    rw [hg] at h
    cases ok
    · rw [if_neg (show ¬ (false = true) by decide)] at h
      simp only [Prod.mk.injEq] at h
      cases h.2.2
    · rw [if_pos rfl] at h
      simp only [Prod.mk.injEq] at h
      obtain ⟨rfl, h2, h3⟩ := h
      obtain ⟨e1, e2, e3⟩ := getNs_got k r (getNs k r).1 rest (by rw [← h2, ← h3])
      obtain ⟨g1, g2, g3⟩ := getNum_got hg
      refine ⟨by simp [e1], fun m hm => ?_, ?_⟩
      · rcases List.mem_cons.1 hm with rfl | hm
        · exact ⟨g1, g2⟩
        · exact e2 m hm
      · rw [cat_cons, ByteArray.append_assoc, ← e3]; exact g3
theorem msg_parts (n0 n1 n2 n3 n4 n5 n6 : Int) (l : List ByteArray) (h : isB n0 n1 n2 n3 n4 n5 n6 l = true) (rest : ByteArray) :
    getNs 7 (msgStr n0 n1 n2 n3 n4 n5 n6 l ++ rest) = ([n0, n1, n2, n3, n4, n5, n6], rowStr l ++ rest, true) ∧ getRow (rowStr l ++ rest) = (l, rest, true) := by
  obtain ⟨b0, b1, b2, b3, b4, b5, b6, hl, hsz⟩ := isB_bd h
  refine ⟨?_, getRow_put l (by omega) (fun t ht => by have := hsz t ht; omega) rest⟩
  unfold msgStr
  rw [ByteArray.append_assoc]
  exact getNs_put [n0, n1, n2, n3, n4, n5, n6] (by
    intro n hn
    simp only [List.mem_cons, List.not_mem_nil, or_false] at hn
    rcases hn with rfl | rfl | rfl | rfl | rfl | rfl | rfl <;> assumption) _
theorem app_nil (s : ByteArray) : s ++ (⟨#[]⟩ : ByteArray) = s := ByteArray.append_empty
theorem getM_put (n0 n1 n2 n3 n4 n5 n6 : Int) (l : List ByteArray) (h : isB n0 n1 n2 n3 n4 n5 n6 l = true) : getM (getNs 7 (msgStr n0 n1 n2 n3 n4 n5 n6 l)) = (n0, n1, n2, n3, n4, n5, n6, l, 0) := by
  obtain ⟨h1, h2⟩ := msg_parts n0 n1 n2 n3 n4 n5 n6 l h ⟨#[]⟩
  rw [app_nil] at h1
  rw [h1]
  unfold getM
  simp only [h2]
  rw [if_pos ⟨trivial, trivial, h⟩]
theorem getM_got (s : ByteArray) : getM (getNs 7 s) = (0, 0, 0, 0, 0, 0, 0, [], 30) ∨ ∃ n0 n1 n2 n3 n4 n5 n6 l, getM (getNs 7 s) = (n0, n1, n2, n3, n4, n5, n6, l, 0) ∧ isB n0 n1 n2 n3 n4 n5 n6 l = true ∧ msgStr n0 n1 n2 n3 n4 n5 n6 l = s := by
  obtain ⟨ns, rest, ok, hg⟩ : ∃ ns rest ok, getNs 7 s = (ns, rest, ok) := ⟨_, _, _, rfl⟩
  cases ok
  · exact .inl (getM_no (by rw [hg]))
  · obtain ⟨e1, _, e3⟩ := getNs_got 7 s ns rest hg
    obtain ⟨n0, n1, n2, n3, n4, n5, n6, rfl⟩ : ∃ n0 n1 n2 n3 n4 n5 n6, ns = [n0, n1, n2, n3, n4, n5, n6] := by
      match ns, e1 with
      | [n0, n1, n2, n3, n4, n5, n6], _ => exact ⟨_, _, _, _, _, _, _, rfl⟩
    obtain ⟨l, r, ok, hr⟩ : ∃ l r ok, getRow rest = (l, r, ok) := ⟨_, _, _, rfl⟩
    have hm : getM (getNs 7 s) = if ok = true ∧ r = ⟨#[]⟩ ∧ isB n0 n1 n2 n3 n4 n5 n6 l = true then (n0, n1, n2, n3, n4, n5, n6, l, 0) else (0, 0, 0, 0, 0, 0, 0, [], 30) := by
      rw [hg]; unfold getM; simp only [hr]
    by_cases hc : ok = true ∧ r = ⟨#[]⟩ ∧ isB n0 n1 n2 n3 n4 n5 n6 l = true
    · rw [if_pos hc] at hm
      obtain ⟨rfl, rfl, hi⟩ := hc
      obtain ⟨_, _, hrow⟩ := getRow_got hr
      rw [app_nil] at hrow
      exact .inr ⟨_, _, _, _, _, _, _, _, hm, hi, by unfold msgStr; rw [← hrow]; exact e3.symm⟩
    · rw [if_neg hc] at hm
      exact .inl hm
theorem put_f (n0 n1 n2 n3 n4 n5 n6 : Int) (l : List ByteArray) : msg_Put.f n0 n1 n2 n3 n4 n5 n6 l = some (if isB n0 n1 n2 n3 n4 n5 n6 l = true then (msgStr n0 n1 n2 n3 n4 n5 n6 l, 0) else (⟨#[]⟩, 1)) := by
  unfold msg_Put.f
  split <;> rfl
theorem get_f (s : ByteArray) : msg_Get.f s = some (getM (getNs 7 s)) := rfl
theorem same_ev (a0 a1 a2 a3 a4 a5 a6 : Int) (l : List ByteArray) (b0 b1 b2 b3 b4 b5 b6 : Int) (m : List ByteArray) (hl : l.length ≤ 100000) :
    Ev (fun k => sextonref23_Same.f k a0 a1 a2 a3 a4 a5 a6 l b0 b1 b2 b3 b4 b5 b6 m) (decide (a0 = b0 ∧ a1 = b1 ∧ a2 = b2 ∧ a3 = b3 ∧ a4 = b4 ∧ a5 = b5 ∧ a6 = b6 ∧ l = m)) := by
  obtain ⟨K, e⟩ := refTexts l m (by omega)
  simp only at e
  refine ⟨K, fun k hk => ?_⟩
  show sextonref23_Same.f k a0 a1 a2 a3 a4 a5 a6 l b0 b1 b2 b3 b4 b5 b6 m = _
  unfold sextonref23_Same.f
  rw [e k hk]
  by_cases h0 : a0 = b0
  · by_cases h1 : a1 = b1
    · by_cases h2 : a2 = b2
      · by_cases h3 : a3 = b3
        · by_cases h4 : a4 = b4
          · by_cases h5 : a5 = b5
            · by_cases h6 : a6 = b6
              · simp [h0, h1, h2, h3, h4, h5, h6]
              · simp [h6]
            · simp [h5]
          · simp [h4]
        · simp [h3]
      · simp [h2]
    · simp [h1]
  · simp [h0]
/-- Big answers for every message; where it says no there are at most 80 texts. -/
theorem big_f (n0 n1 n2 n3 n4 n5 n6 : Int) (l : List ByteArray) : ∃ r, (∀ k, 200 < k → sextonref23_Big.f k n0 n1 n2 n3 n4 n5 n6 l = some r) ∧ (r = false → l.length ≤ 80) := by
  unfold sextonref23_Big.f
  by_cases h80 : l.length ≤ 80
  · have : ∀ i : Nat, i ≤ l.length → ∃ r, ∀ k, 2 * (l.length - i) + 2 < k → sextonref23_Big.l0 k (i : Int) n0 n1 n2 n3 n4 n5 n6 l = some r := by
      intro i
      induction hd : l.length - i generalizing i with
      | zero =>
        intro hi
        refine ⟨decide ((l.length : Int) > 80), fun k hk => ?_⟩
        obtain ⟨k, rfl⟩ : ∃ m, k = m + 2 := ⟨k - 2, by omega⟩
        simp only [sextonref23_Big.l0]
        rw [if_neg (by omega)]
        simp only [sextonref23_Big.j1]
        rw [if_neg (by decide)]
      | succ d ih =>
        intro hi
        obtain ⟨r, hr⟩ := ih (i + 1) (by omega) (by omega)
        have step : ∀ k, 2 * (d + 1) + 2 < k → sextonref23_Big.l0 k (i : Int) n0 n1 n2 n3 n4 n5 n6 l = if ((rdOf ByteArray.empty l (i : Int)).size : Int) > 400 then some true else some r := by
          intro k hk
          obtain ⟨k, rfl⟩ : ∃ m, k = m + 2 := ⟨k - 2, by omega⟩
          simp only [sextonref23_Big.l0]
          rw [if_pos (by omega), decide_eq_true (by omega)]
          simp only [sextonref23_Big.j1]
          rw [if_pos trivial, if_pos (by omega), if_pos (by omega), show wrap64 ((i : Int) + 1) = ((i + 1 : Nat) : Int) by unfold wrap64; omega, hr k (by omega)]
        by_cases h1 : ((rdOf ByteArray.empty l (i : Int)).size : Int) > 400
        · exact ⟨true, fun k hk => by rw [step k hk, if_pos h1]⟩
        · exact ⟨r, fun k hk => by rw [step k hk, if_neg h1]⟩
    obtain ⟨r, hr⟩ := this 0 (by omega)
    exact ⟨r, fun k hk => hr k (by omega), fun _ => h80⟩
  · refine ⟨true, fun k hk => ?_, fun h => by cases h⟩
    obtain ⟨k, rfl⟩ : ∃ m, k = m + 2 := ⟨k - 2, by omega⟩
    simp only [sextonref23_Big.l0]
    rw [if_pos (by omega), decide_eq_false (by omega)]
    simp only [sextonref23_Big.j1]
    rw [if_neg (by decide), decide_eq_true (by omega)]
end Go.Proofs.Ytfejidinfcmfjaa.MS
/-
  What can be read as data reads as a value of its kind: kind by kind, for the rows of the statements.
-/
namespace Go.Proofs.Ytfejidinfcmfjaa.Opens
open Go.ChangeShapes Go.WideShapes Go.ChangeAt Go.RowKit Go.Proofs.YtfejidinfcmfjaaW.PrintWords

def Opens (P : Program) {α : Type} (kd : Kd α) (ok : α → Prop) (t : TypeId) : Prop :=
  ∀ {H : Type} (enc : TypeId × Value → H) (W : World) (base : Nat) (spare : Nat → Bool) (held : Bool) (fuel : Nat) (cs : List Value) (x : DataW H × List MemPlace),
    DataW.trod enc P W base spare held fuel t cs = some x → ∃ a, kd.K W a cs ∧ ok a
def OkInt (k : IntKind) (n : Int) : Prop := (Lit.int k n).wf = true
def OkStr (s : ByteArray) : Prop := s.size ≤ maxLen
def OkList {α : Type} (ok : α → Prop) (l : List α) : Prop := l.length ≤ maxLen ∧ ∀ a ∈ l, ok a
def OkTrue {α : Type} (_ : α) : Prop := True
def OkPair {α β : Type} (p : α → Prop) (q : β → Prop) (x : α × β) : Prop := p x.1 ∧ q x.2

section
variable {P : Program} {t e : TypeId}
theorem opens_int {k : IntKind} (ht : P.underlying t = some (.int k)) : Opens P (Kd.int k) (OkInt k) t := by
  intro H enc W base spare held fuel cs x h
  obtain ⟨n, rfl, _, hw⟩ := DataW.trod_int ht h
  exact ⟨n, rfl, hw⟩
theorem opens_bool (ht : P.underlying t = some .bool) : Opens P Kd.bool OkTrue t := by
  intro H enc W base spare held fuel cs x h
  obtain ⟨b, rfl, _⟩ := DataW.trod_bool ht h
  exact ⟨b, rfl, trivial⟩
theorem opens_string (ht : P.underlying t = some .string) : Opens P Kd.string OkStr t := by
  intro H enc W base spare held fuel cs x h
  obtain ⟨s, rfl, _, hs⟩ := DataW.trod_string ht h
  exact ⟨s, rfl, hs⟩
theorem addr_add (a : Addr) (x i : Nat) : a.add (x + i) = (a.add x).add i := by
  unfold Addr.add
  by_cases h1 : x = 0 <;> by_cases h2 : i = 0 <;> simp [h1, h2, Nat.add_assoc]
theorem opens_slice {α : Type} {kd : Kd α} {ok : α → Prop} (ht : P.underlying t = some (.slice e)) (hc : P.cellsOf e = kd.sz) (he : Opens P kd ok e) : Opens P (Kd.slice e kd) (OkList ok) t := by
  intro H enc W base spare held fuel cs x h
  rcases DataW.trod_slice ht h with ⟨rfl, _⟩ | ⟨a, len, cap, elems, rest, n, _, rfl, _, hb, hl, hm, hlen, hel, _, _⟩
  · exact ⟨[], ⟨none, 0, rfl, Nat.le_refl _, rfl, by simp, fun h0 => absurd h0 (Nat.lt_irrefl 0)⟩, by simp [maxLen], by simp⟩
  · have each : ∀ i, i < len → ∃ (y : α) (c : List Value), c.length = kd.sz ∧ kd.K W y c ∧ ok y ∧ ∀ j u, c[j]? = some u → W.cell? ((a.add (i * kd.sz)).add j) = some u := by
      intro i hi
      have h1 := hel i hi
      rw [hc, List.getElem?_eq_getElem (by omega), Option.bind_eq_some_iff] at h1
      obtain ⟨c, hcs, hy⟩ := h1
      obtain ⟨y, hK, hok⟩ := he enc W base spare held n c _ hy
      obtain ⟨_, hcl, hcell⟩ := World.cells?_some hcs
      refine ⟨y, c, kd.K_len hK, hK, hok, fun j u hj => ?_⟩
      have hjl : j < kd.sz := by have := (List.getElem?_eq_some_iff.1 hj).1; rw [kd.K_len hK] at this; exact this
      rw [hcell j hjl, hj]
    have pick : ∃ l : List α, l.length = len ∧ ∀ i y, l[i]? = some y → ∃ c : List Value, c.length = kd.sz ∧ kd.K W y c ∧ ok y ∧ ∀ j u, c[j]? = some u → W.cell? ((a.add (i * kd.sz)).add j) = some u := by
      have key : ∀ m, m ≤ len → ∃ l : List α, l.length = m ∧ ∀ i y, l[i]? = some y → ∃ c : List Value, c.length = kd.sz ∧ kd.K W y c ∧ ok y ∧ ∀ j u, c[j]? = some u → W.cell? ((a.add (i * kd.sz)).add j) = some u := by
        intro m
        induction m with
        | zero => intro _; exact ⟨[], rfl, fun i y h => by simp at h⟩
        | succ m ih =>
          intro hm
          obtain ⟨l, hl1, hl2⟩ := ih (by omega)
          obtain ⟨y, c, h1, h2, h3, h4⟩ := each m (by omega)
          refine ⟨l ++ [y], by simp [hl1], fun i z hz => ?_⟩
          rcases Nat.lt_or_ge i l.length with hi | hi
          · rw [List.getElem?_append_left hi] at hz
            exact hl2 i z hz
          · have : i = l.length := by
              have := (List.getElem?_eq_some_iff.1 hz).1
              rw [List.length_append, List.length_singleton] at this
              omega
            subst this
            have hz' : y = z := by simpa using hz
            subst hz'
            exact ⟨c, h1, h2, h3, by rw [hl1]; exact h4⟩
      exact key len (Nat.le_refl _)
    obtain ⟨l, hl1, hl2⟩ := pick
    subst hl1
    refine ⟨l, ⟨some a, cap, rfl, hl, rfl, by unfold maxLen at hm; omega, fun _ => ⟨a, rfl, fun j p hj => ?_⟩⟩, by omega, fun y hy => ?_⟩
    · obtain ⟨c, h1, h2, _, h4⟩ := hl2 j p hj
      refine ⟨c, h1, h2, fun i u hu => ?_⟩
      rw [← h4 i u hu, addr_add]
    · obtain ⟨i, hi⟩ := List.getElem?_of_mem hy
      obtain ⟨_, _, _, h3, _⟩ := hl2 i y hi
      exact h3

/-- The same of fields in line, from one place of the cells on. -/
def OpensF (P : Program) {α : Type} (kd : Kd α) (ok : α → Prop) (fs : List Field) (off len : Nat) : Prop :=
  ∀ {H : Type} (enc : TypeId × Value → H) (W : World) (base : Nat) (spare : Nat → Bool) (held : Bool) (n : Nat) (cs : List Value),
    (∀ f ∈ fs, ∃ y, DataW.trod enc P W base spare held n f.type ((cs.drop f.offset).take (P.cellsOf f.type)) = some y) → off + len ≤ cs.length → ∃ a, kd.K W a ((cs.drop off).take len) ∧ ok a
theorem opensF_one {α : Type} {kd : Kd α} {ok : α → Prop} {f : Field} {t off len : Nat} (h : Opens P kd ok t) (ht : f.type = t) (ho : f.offset = off) (hl : P.cellsOf t = len) : OpensF P kd ok [f] off len := by
  intro H enc W base spare held n cs hf _
  obtain ⟨y, hy⟩ := hf f List.mem_cons_self
  subst ht ho hl
  exact h enc W base spare held n _ y hy
theorem opensF_pair {α β : Type} {kd : Kd α} {kd' : Kd β} {ok : α → Prop} {ok' : β → Prop} {f : Field} {fs : List Field} {t off len len' : Nat} (h : Opens P kd ok t) (ht : f.type = t) (ho : f.offset = off) (hl : P.cellsOf t = len)
    (h' : OpensF P kd' ok' fs (off + len) len') : OpensF P (Kd.pair kd kd') (OkPair ok ok') (f :: fs) off (len + len') := by
  intro H enc W base spare held n cs hf hle
  obtain ⟨y, hy⟩ := hf f List.mem_cons_self
  subst ht ho hl
  obtain ⟨a, ha, hoka⟩ := h enc W base spare held n _ y hy
  obtain ⟨b, hb, hokb⟩ := h' enc W base spare held n cs (fun g hg => hf g (List.mem_cons_of_mem _ hg)) (by omega)
  refine ⟨(a, b), ⟨_, _, ?_, ha, hb⟩, hoka, hokb⟩
  rw [List.take_add, List.drop_drop]
theorem opens_struct {α β : Type} {kd : Kd α} {ok : α → Prop} {fs : Array Field} {len : Nat} (ht : P.underlying t = some (.struct fs)) (hc : P.cellsOf t = len) (h : OpensF P kd ok fs.toList 0 len) (f : β → α) (g : α → β) (hg : ∀ a, f (g a) = a) :
    Opens P (Kd.iso kd f) (fun b => ok (f b)) t := by
  intro H enc W base spare held fuel cs x hx
  obtain ⟨xs, n, _, _, hl, hlen, hf⟩ := DataW.trod_struct ht hx
  obtain ⟨a, ha, hok⟩ := h enc W base spare held n cs (fun fd hfd => by
    obtain ⟨i, hi⟩ := List.getElem?_of_mem hfd
    have h1 := hf i fd (by simpa using hi)
    have hi2 : i < xs.length := by
      have := (List.getElem?_eq_some_iff.1 hi).1
      rw [hlen]; simpa using this
    rw [List.getElem?_eq_getElem hi2] at h1
    exact ⟨_, h1⟩) (by omega)
  refine ⟨g a, ?_, by show ok (f (g a)); rw [hg]; exact hok⟩
  show kd.K W (f (g a)) cs
  rw [hg]
  have : (cs.drop 0).take len = cs := by rw [List.drop_zero]; exact List.take_of_length_le (by omega)
  rw [this] at ha
  exact ha
theorem opens_struct_id {α : Type} {kd : Kd α} {ok : α → Prop} {fs : Array Field} {len : Nat} (ht : P.underlying t = some (.struct fs)) (hc : P.cellsOf t = len) (h : OpensF P kd ok fs.toList 0 len) : Opens P kd ok t :=
  opens_struct ht hc h id id (fun _ => rfl)

/-! ### a parameter, opened -/
variable {H : Type} {enc : TypeId × Value → H} {W : World} {base : Nat} {spare : Nat → Bool} {held : Bool} {r : Reach} {b0 : Nat} {v : Value} {d : DataW H} {ps : List MemPlace}
theorem param_slice {α : Type} {kd : Kd α} {ok : List α → Prop} (ht : P.underlying t = some (.slice e)) (h : Opens P (Kd.slice e kd) ok t) (hval : Value.okWide P W r b0 t v) (hd : DataW.Trod enc P W base spare held t v d ps) :
    ∃ A c l, v = .slice A l.length c ∧ l.length ≤ c ∧ Kd.C kd W A l.length l ∧ ok l := by
  obtain ⟨a, len, cap, rfl⟩ := okWide_slice ht hval
  obtain ⟨fuel, hf⟩ := hd
  obtain ⟨l, ⟨A, c, hcs, hl, hC⟩, hok⟩ := h enc W base spare held fuel _ _ hf
  have : Value.slice a len cap = Value.slice A l.length c := by simpa [Value.cells] using hcs
  exact ⟨A, c, l, this, hl, hC, hok⟩
theorem param_struct {α : Type} {kd : Kd α} {ok : α → Prop} {fs : Array Field} (ht : P.underlying t = some (.struct fs)) (h : Opens P kd ok t) (hval : Value.okWide P W r b0 t v) (hd : DataW.Trod enc P W base spare held t v d ps) :
    ∃ cs a, v = .agg cs ∧ kd.K W a cs.toList ∧ ok a := by
  obtain ⟨cs, rfl, hsz⟩ := okWide_struct ht hval
  obtain ⟨fuel, hf⟩ := hd
  obtain ⟨a, hK, hok⟩ := h enc W base spare held fuel _ _ hf
  exact ⟨cs, a, rfl, hK, hok⟩
theorem agg_eq {cs : Array Value} {l : List Value} (h : cs.toList = l) : cs = l.toArray := by rw [← h]
end
end Go.Proofs.Ytfejidinfcmfjaa.Opens
/-
  The plain statement of MsgBack: what is put is got, what is got is put.
-/
namespace Go.Proofs.Ytfejidinfcmfjaa.Pure
open Go.RowKit Go.Proofs Go.Proofs.CodecPlain Go.Proofs.YtfejidinfcmfjaaW.PrintWords Go.Proofs.YtfejidinfcmfjaaW.PrintLast Go.Proofs.Ytfejidinfcmfjaa.P Go.Proofs.Ytfejidinfcmfjaa.MS Go.Proofs.Ytfejidinfcmfjaa.Opens

theorem back_j1 (k : Nat) (s : ByteArray) : sextonlaw23_MsgBack.j1 (k + 2) s false = some true := by
  simp only [sextonlaw23_MsgBack.j1]
  rw [if_neg (by decide), get_f, Option.bind_some]
  rcases getM_got s with h | ⟨n0, n1, n2, n3, n4, n5, n6, l, h, hi, hs⟩
  · rw [h, put_f, Option.bind_some]
    simp only [sextonlaw23_sent.f]
    rw [Option.bind_some, if_pos rfl, if_neg (by decide)]
  · rw [h, put_f, if_pos hi, Option.bind_some]
    simp only [sextonlaw23_sent.f]
    rw [Option.bind_some, if_pos rfl, if_pos trivial, if_pos trivial, hs, if_pos rfl, msg_is_f, Option.bind_some, hi]
theorem back_j0 (k : Nat) (s : ByteArray) (n0 n1 n2 n3 n4 n5 n6 : Int) (l : List ByteArray) (hl : l.length ≤ 80)
    (hsame : sextonref23_Same.f (k + 3) n0 n1 n2 n3 n4 n5 n6 l n0 n1 n2 n3 n4 n5 n6 l = some true) : sextonlaw23_MsgBack.j0 (k + 4) s false n0 n1 n2 n3 n4 n5 n6 l = some true := by
  simp only [sextonlaw23_MsgBack.j0]
  rw [if_neg (by decide), put_f, Option.bind_some]
  by_cases hi : isB n0 n1 n2 n3 n4 n5 n6 l = true
  · rw [if_pos hi, get_f, Option.bind_some, if_pos rfl, getM_put n0 n1 n2 n3 n4 n5 n6 l hi, if_pos rfl, hsame, Option.bind_some, if_pos rfl, msg_is_f, Option.bind_some, hi]
    exact back_j1 (k + 1) s
  · rw [if_neg hi, get_f, Option.bind_some, if_neg (by decide), msg_is_f, Option.bind_some]
    have : isB n0 n1 n2 n3 n4 n5 n6 l = false := by simpa using hi
    rw [this]
    exact back_j1 (k + 1) s
theorem MsgBack (a0_0 a0_1 a0_2 a0_3 a0_4 a0_5 a0_6 : Int) (l0_7 : List ByteArray) (a1 : ByteArray) {okp : Prop} (h0 : okp) (h1 : OkStr a1) : ∃ k, sextonlaw23_MsgBack.f k a0_0 a0_1 a0_2 a0_3 a0_4 a0_5 a0_6 l0_7 a1 = some true := by
  obtain ⟨r, hb, h80⟩ := big_f a0_0 a0_1 a0_2 a0_3 a0_4 a0_5 a0_6 l0_7
  have out : ∀ k, sextonlaw23_MsgBack.j0 (k + 1) a1 true a0_0 a0_1 a0_2 a0_3 a0_4 a0_5 a0_6 l0_7 = some true := fun k => by
    simp only [sextonlaw23_MsgBack.j0]
    rw [if_pos trivial]
  cases r with
  | true =>
    refine ⟨300, ?_⟩
    unfold sextonlaw23_MsgBack.f
    rw [hb 300 (by omega), Option.bind_some, if_pos rfl]
    exact out 299
  | false =>
    obtain ⟨K, e⟩ := same_ev a0_0 a0_1 a0_2 a0_3 a0_4 a0_5 a0_6 l0_7 a0_0 a0_1 a0_2 a0_3 a0_4 a0_5 a0_6 l0_7 (by have := h80 rfl; omega)
    simp only at e
    refine ⟨K + 300 + 4, ?_⟩
    unfold sextonlaw23_MsgBack.f
    rw [hb _ (by omega), Option.bind_some, if_neg (by decide)]
    by_cases hs : (a1.size : Int) > 800
    · rw [decide_eq_true hs]; exact out (K + 300 + 3)
    · rw [decide_eq_false hs]
      refine back_j0 (K + 300) a1 _ _ _ _ _ _ _ _ (h80 rfl) ?_
      rw [e _ (by omega)]
      simp
end Go.Proofs.Ytfejidinfcmfjaa.Pure
