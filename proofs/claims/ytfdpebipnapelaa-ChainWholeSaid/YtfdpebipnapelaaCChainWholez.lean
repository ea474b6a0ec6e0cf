/-
  The walk and the plain statement of ChainWhole, joined.
-/
import Derived.Test.YtfdpebipnapelaaPx0
import Derived.Test.YtfdpebipnapelaaC13d
import Derived.Test.YtfdpebipnapelaaC13a
import Derived.Test.YtfdpebipnapelaaC13b
import Derived.Test.YtfdpebipnapelaaC13c
set_option linter.unusedVariables false
set_option linter.unusedSimpArgs false
/-
  The walk of ChainWhole, by the print; the ways that would answer false are closed.
-/
namespace Go.Proofs.Ytfdpebipnapelaa.P
open Go.RowKit Go.Proofs.YtfdpebipnapelaaW.PrintWords Go.Proofs.YtfdpebipnapelaaW.PrintLast Go.Proofs.YtfdpebipnapelaaW.PrintMore
attribute [local go_sem] max2_int min2_int max_two min_two max_three min_three max_four min_four   -- for this text's walks alone
set_option linter.unusedVariables false
set_option linter.unusedSimpArgs false

/-! ### sextonlaw13_ChainWhole: function 9 -/
mutual
def sextonlaw13_ChainWhole.j0 : Nat → ByteArray → Int → Int → List ByteArray → Bool → Option (Bool)
  | 0, _, _, _, _, _ => none
  | k + 1, x0, x1, x2, x3, x22 => if x22 = true then (some true) else ((chain_Describe.f k x0 x1 x2).bind fun bt242 => (if bt242.2.2.2.2 = 0 then ((sextonref01_Own.f x3).bind fun t253 => (sextonlaw13_ChainWhole.l0 k x0 bt242.2.2.2.1 t253 (wrap64 ((bt242.2.2.2.1.length : Int) - 1)) bt242.1 bt242.2.1 bt242.2.2.1)) else ((sextonlaw13_cut.f).bind fun t252 => (if t252 = true then (some ((bt242.2.2.2.1.length : Int) == 0)) else (some false)))))
def sextonlaw13_ChainWhole.l0 : Nat → ByteArray → List ByteArray → List ByteArray → Int → Int → Int → List Int → Option (Bool)
  | 0, _, _, _, _, _, _, _ => none
  | k + 1, x0, x10, x12, x13, x252000, x252001, x252002 => if x13 ≥ 0 then (if 0 ≤ x13 then (if x13 < (x10.length : Int) then (if x12.length < 8796093022208 then (sextonlaw13_ChainWhole.l0 k x0 x10 (x12 ++ [rdOf ByteArray.empty x10 x13]) (wrap64 (x13 - 1)) x252000 x252001 x252002) else (none)) else (none)) else (none)) else ((chain_Whole.f x252000 x252001 x252002 x12).bind fun bt260 => ((sextonlaw13_cut.f).bind fun t262 => (if t262 = true then (if bt260.2 = 0 then (if bt260.1.toList = x0.toList then ((chain_Have.f x252000 x252001 x252002 x12).bind fun t263 => (if (t263.length : Int) = (x10.length : Int) then (some true) else ((sextonlaw13_twins.f k x12).bind fun t266 => (some t266)))) else ((sextonlaw13_twins.f k x12).bind fun t267 => (some t267))) else ((sextonlaw13_twins.f k x12).bind fun t268 => (some t268))) else (some false))))
end
def sextonlaw13_ChainWhole.f (k : Nat) (a0 : ByteArray) (a1 : Int) (a2 : Int) (l3 : List ByteArray) : Option (Bool) := if (a0.size : Int) > 200 then (sextonlaw13_ChainWhole.j0 k a0 a1 a2 l3 true) else ((sextonlaw13_far.f k l3).bind fun t241 => (sextonlaw13_ChainWhole.j0 k a0 a1 a2 l3 t241))
theorem sextonlaw13_ChainWhole.mono_l : ∀ k, (∀ y0 y1 y2 y3 y4, LeO (sextonlaw13_ChainWhole.j0 k y0 y1 y2 y3 y4) (sextonlaw13_ChainWhole.j0 (k + 1) y0 y1 y2 y3 y4)) ∧ (∀ y0 y1 y2 y3 y4 y5 y6, LeO (sextonlaw13_ChainWhole.l0 k y0 y1 y2 y3 y4 y5 y6) (sextonlaw13_ChainWhole.l0 (k + 1) y0 y1 y2 y3 y4 y5 y6))
  | 0 => ⟨fun _ _ _ _ _ r h => by simp [sextonlaw13_ChainWhole.j0] at h, fun _ _ _ _ _ _ _ r h => by simp [sextonlaw13_ChainWhole.l0] at h⟩
  | k + 1 => by
    obtain ⟨ih0, ih1⟩ := sextonlaw13_ChainWhole.mono_l k
    refine ⟨?_, ?_⟩
    · intro y0 y1 y2 y3 y4
      unfold sextonlaw13_ChainWhole.j0
      repeat' first
      | (with_reducible exact ih0 _ _ _ _ _)
      | (with_reducible exact ih1 _ _ _ _ _ _ _)
      | (with_reducible exact chain_Describe.mono _ _ _ _)
      | (with_reducible exact sextonlaw13_far.mono _ _)
      | (with_reducible exact sextonlaw13_twins.mono _ _)
      | (with_reducible exact LeO.refl _)
      | (with_reducible exact LeO.none _)
      | (with_reducible refine LeO.ite ?_ ?_)
      | (with_reducible refine LeO.bind ?_ (fun _ => ?_))
      | exact ih0 _ _ _ _ _
      | exact ih1 _ _ _ _ _ _ _
      | exact chain_Describe.mono _ _ _ _
      | exact sextonlaw13_far.mono _ _
      | exact sextonlaw13_twins.mono _ _
      | exact LeO.none _
      | refine LeO.ite ?_ ?_
      | refine LeO.bind ?_ (fun _ => ?_)
    · intro y0 y1 y2 y3 y4 y5 y6
      unfold sextonlaw13_ChainWhole.l0
      repeat' first
      | (with_reducible exact ih0 _ _ _ _ _)
      | (with_reducible exact ih1 _ _ _ _ _ _ _)
      | (with_reducible exact chain_Describe.mono _ _ _ _)
      | (with_reducible exact sextonlaw13_far.mono _ _)
      | (with_reducible exact sextonlaw13_twins.mono _ _)
      | (with_reducible exact LeO.refl _)
      | (with_reducible exact LeO.none _)
      | (with_reducible refine LeO.ite ?_ ?_)
      | (with_reducible refine LeO.bind ?_ (fun _ => ?_))
      | exact ih0 _ _ _ _ _
      | exact ih1 _ _ _ _ _ _ _
      | exact chain_Describe.mono _ _ _ _
      | exact sextonlaw13_far.mono _ _
      | exact sextonlaw13_twins.mono _ _
      | exact LeO.none _
      | refine LeO.ite ?_ ?_
      | refine LeO.bind ?_ (fun _ => ?_)
theorem sextonlaw13_ChainWhole.mono : ∀ a0 a1 a2 a3 k, LeO (sextonlaw13_ChainWhole.f k a0 a1 a2 a3) (sextonlaw13_ChainWhole.f (k + 1) a0 a1 a2 a3) := by
  intro a0 a1 a2 a3 k
  obtain ⟨ih0, ih1⟩ := sextonlaw13_ChainWhole.mono_l k
  unfold sextonlaw13_ChainWhole.f
  repeat' first
      | (with_reducible exact ih0 _ _ _ _ _)
      | (with_reducible exact ih1 _ _ _ _ _ _ _)
      | (with_reducible exact chain_Describe.mono _ _ _ _)
      | (with_reducible exact sextonlaw13_far.mono _ _)
      | (with_reducible exact sextonlaw13_twins.mono _ _)
      | (with_reducible exact LeO.refl _)
      | (with_reducible exact LeO.none _)
      | (with_reducible refine LeO.ite ?_ ?_)
      | (with_reducible refine LeO.bind ?_ (fun _ => ?_))
      | exact ih0 _ _ _ _ _
      | exact ih1 _ _ _ _ _ _ _
      | exact chain_Describe.mono _ _ _ _
      | exact sextonlaw13_far.mono _ _
      | exact sextonlaw13_twins.mono _ _
      | exact LeO.none _
      | refine LeO.ite ?_ ?_
      | refine LeO.bind ?_ (fun _ => ?_)
set_option maxHeartbeats 8000000 in
set_option maxRecDepth 100000 in
theorem sextonlaw13_ChainWhole.calls (k : Nat) (a0 : ByteArray) (a1 : Int) (a2 : Int) (A3 : Option Addr) (c3 : Nat) (l3 : List ByteArray) (r : Bool) (hrt : r = true := by rfl) (w : World) (hr3 : Kd.C Kd.string w A3 l3.length l3) (hc3 : l3.length ≤ c3) (h : sextonlaw13_ChainWhole.f k a0 a1 a2 l3 = some r) :
    Calls Try.prog 9 #[.string a0, .int .i64 a1, .int .i64 a2, .slice A3 l3.length c3] w fun e w' => e = .returned (.bool r) ∧ Below w.heap.size w w' := by
  have HRT := Aside0.mk hrt
  have hu24 := Try.underlying24
  have HR3 := Aside0.mk hr3
  have HC3 := Aside0.mk hc3
  clear hr3 hc3
  have HB := Aside0.mk (Below.refl w.heap.size w)
  have H : (if (a0.size : Int) > 200 then (sextonlaw13_ChainWhole.j0 k a0 a1 a2 l3 true) else ((sextonlaw13_far.f k l3).bind fun t241 => (sextonlaw13_ChainWhole.j0 k a0 a1 a2 l3 t241))) = some r := h
  clear h
  have HC5 := Aside0.mk H
  clear H
  go_enter Try.func9, Try.ntmps9
  go_upto_region 1 with (fail)
  go_cut [22] (fun v22 wc => ∃ (kq : Nat) (x22_4 : Bool), v22 = .bool x22_4 ∧ Aside0 (sextonlaw13_ChainWhole.j0 kq a0 a1 a2 l3 x22_4 = some r) ∧ Aside0 (kq ≤ k) ∧ Aside0 (Below w.heap.size w wc))
  case first =>
    have H := HC5.out
    clear HC5
    by_cases c6 : (a0.size : Int) > 200
    · rw [if_pos c6] at H
      have c6b0 : decide (200 < (a0.size : Int)) = true := decide_eq_true c6
      have c6b1 : decide (200 < a0.size) = true := decide_eq_true (by omega)
      clear c6
      (first | rw [c6b0] | (simp only [i64_w, i32_w]; rw [c6b0]) | skip)
      have H' := Aside0.mk H
      clear H
      go_wp2
      go_meet
      case rel => exact ⟨_, (true), (by first | rfl | (simp; done) | (simp [*]; done)), H', ⟨by first | omega | exact Nat.le_refl _⟩, ⟨by repeat (first | (with_reducible first | exact HB.out | apply below_alloc | apply pw_below_drewN | apply below_drew1) | exact HB.out)⟩⟩
    · rw [if_neg c6] at H
      have c6b0 : decide (200 < (a0.size : Int)) = false := decide_eq_false c6
      have c6b1 : decide (200 < a0.size) = false := decide_eq_false (by omega)
      clear c6
      (first | rw [c6b0] | (simp only [i64_w, i32_w]; rw [c6b0]) | skip)
      replace H := Option.bind_eq_some_iff.mp H
      obtain ⟨t241, A70, H⟩ := H
      replace H : (sextonlaw13_ChainWhole.j0 k a0 a1 a2 l3 t241) = some r := H
      have A7 := Aside0.mk A70
      clear A70
      have H' := Aside0.mk H
      clear H
      go_wp2_with (first | (go_at_call 26; (with_reducible refine (sextonlaw13_far.calls k _ _ l3 t241 _ ?side1 ?side2 A7.out).mono ?_); (case side1 => repeat (first | exact (Kd.C_below HR3.out HB.out) | (with_reducible refine Kd.C_alloc ?_ _) | (with_reducible refine Kd.C_drewN ?_ _) | (with_reducible refine Kd.C_drew ?_))); (case side2 => exact HC3.out); rintro e w' ⟨rfl, ⟨nd, rfl⟩⟩))
      go_meet
      case rel => exact ⟨_, (t241), (by first | rfl | (simp; done) | (simp [*]; done)), H', ⟨by first | omega | exact Nat.le_refl _⟩, ⟨by repeat (first | (with_reducible first | exact HB.out | apply below_alloc | apply pw_below_drewN | apply below_drew1) | exact HB.out)⟩⟩
  case rest =>
    clear HC5
    try clear p2
    try clear c3
    try clear c6
    try clear c6b0
    try clear c6b1
    obtain ⟨kq, x22_4, rfl, HA, HJ4, HB⟩ := hcut
    cases kq with
    | zero => exact absurd HA.out (by simp [sextonlaw13_ChainWhole.j0])
    | succ kj4 =>
      have H := HA.out
      clear HA
      simp only [sextonlaw13_ChainWhole.j0] at H
      by_cases c8 : x22_4 = true
      · subst c8
        have H1 : (some true) = some r := by rw [if_pos rfl] at H; exact H
        clear H
        have H := H1
        clear H1
        obtain rfl := Option.some.inj H
        go_wp2
        go_ret
        exact ⟨by first | rfl | (simp [errW_none, errW_some] <;> rfl) | (simp [*, errW_none, errW_some] <;> rfl), by repeat (first | (with_reducible first | exact HB.out | apply below_alloc | apply pw_below_drewN | apply below_drew1) | exact HB.out)⟩
      · replace c8 := Bool.eq_false_iff.mpr c8
        subst c8
        have H1 : ((chain_Describe.f kj4 a0 a1 a2).bind fun bt242 => (if bt242.2.2.2.2 = 0 then ((sextonref01_Own.f l3).bind fun t253 => (sextonlaw13_ChainWhole.l0 kj4 a0 bt242.2.2.2.1 t253 (wrap64 ((bt242.2.2.2.1.length : Int) - 1)) bt242.1 bt242.2.1 bt242.2.2.1)) else ((sextonlaw13_cut.f).bind fun t252 => (if t252 = true then (some ((bt242.2.2.2.1.length : Int) == 0)) else (some false))))) = some r := by rw [if_neg (show ¬ (false = true) by decide)] at H; exact H
        clear H
        have H := H1
        clear H1
        replace H := Option.bind_eq_some_iff.mp H
        obtain ⟨⟨t242, t243, t244, t247, t250⟩, A90, H⟩ := H
        replace H : (if t250 = 0 then ((sextonref01_Own.f l3).bind fun t253 => (sextonlaw13_ChainWhole.l0 kj4 a0 t247 t253 (wrap64 ((t247.length : Int) - 1)) t242 t243 t244)) else ((sextonlaw13_cut.f).bind fun t252 => (if t252 = true then (some ((t247.length : Int) == 0)) else (some false)))) = some r := H
        have A9 := Aside0.mk A90
        clear A90
        by_cases c10 : t250 = 0
        · rw [if_pos c10] at H
          have c10b0 : (t250 == 0) = true := beq_iff_eq.mpr c10
          have c10b1 : (t250 != 0) = false := bne_eq_false_iff_eq.mpr c10
          clear c10
          replace H := Option.bind_eq_some_iff.mp H
          obtain ⟨t253, A110, H⟩ := H
          replace H : (sextonlaw13_ChainWhole.l0 kj4 a0 t247 t253 (wrap64 ((t247.length : Int) - 1)) t242 t243 t244) = some r := H
          have A11 := Aside0.mk A110
          clear A110
          have H' := Aside0.mk H
          clear H
          go_wp2_with (first | ((with_reducible refine gate_callee (f := 30) rfl ?_); refine goesL_ (some 27) rfl rfl Try.func30 (by kernel_rfl) rfl #[.string a0, .int .i64 a1, .int .i64 a2] rfl (by (try simp only [List.map_toArray, List.map_cons, List.map_nil]); first | done | rfl | (simp only [List.length_drop, List.length_take]; rfl)) ?_; (with_reducible refine (chain_Describe.calls kj4 a0 a1 a2 t242 t243 t244 t247 t250 _ A9.out).mono ?_); rintro e w12 ⟨v245, v248, rfl, ho0, ho1, hb⟩; refine ⟨_, rfl, ?_⟩; have n0_ := Aside0.mk (Kd.R_lower ho0 (below_size (by repeat (first | (with_reducible first | exact HB.out | apply below_alloc | apply pw_below_drewN | apply below_drew1) | exact HB.out)))); have n1_ := Aside0.mk (Kd.R_lower ho1 (below_size (by repeat (first | (with_reducible first | exact HB.out | apply below_alloc | apply pw_below_drewN | apply below_drew1) | exact HB.out)))); have n2_ := Aside0.mk (below_step (by repeat (first | (with_reducible first | exact HB.out | apply below_alloc | apply pw_below_drewN | apply below_drew1) | exact HB.out)) hb); clear HB; have HO246 := n0_; have HO249 := n1_; have HB := n2_; clear n0_ n1_ n2_; (try clear hb); (try clear hb2); (try clear hk); (try clear hi); (try clear ho0); (try clear ho1)) | ((with_reducible refine gate_dst (N := 9) rfl ?_); (try (refine gate_guard (by rfl) ?_; dsimp only)); refine box_event ?hg (N := 9) ?hd (cs := #[.int .i64 0, .int .i64 0, .slice none 0 0]) (t := 24) ?hr ?_; (case hd => rfl); (case hg => rfl); (case hr => first | (go_simp; done) | (go_simp; rfl)); intro gb251 hg w13 hbox hb; have n0_ := Aside0.mk (Kd.R_below (by (with_reducible repeat (first | apply Kd.R_alloc | apply Kd.R_drewN | apply Kd.R_drew)); exact HO246.out) hb); have n1_ := Aside0.mk (Kd.R_below (by (with_reducible repeat (first | apply Kd.R_alloc | apply Kd.R_drewN | apply Kd.R_drew)); exact HO249.out) hb); have n2_ := Aside0.mk (below_step (by repeat (first | (with_reducible first | exact HB.out | apply below_alloc | apply pw_below_drewN | apply below_drew1) | exact HB.out)) hb); have n3_ := Aside0.mk (hbox); have n4_ := Aside0.mk ((by rw [hg]; exact (below_size (by repeat (first | (with_reducible first | exact HB.out | apply below_alloc | apply pw_below_drewN | apply below_drew1) | exact HB.out))) : w.heap.size ≤ gb251)); have n5_ := Aside0.mk ((by rw [hg]; exact (below_size (by repeat (first | (with_reducible first | exact HB.out | apply below_alloc | apply pw_below_drewN | apply below_drew1) | exact HB.out))) : w.heap.size ≤ gb251)); clear HO246; clear HO249; clear HB; have HO246 := n0_; have HO249 := n1_; have HB := n2_; have BK251 := n3_; have GW251 := n4_; have GE251 := n5_; clear n0_ n1_ n2_ n3_ n4_ n5_; clear hb hbox hg; have hcz14_0 : w13.cell? ⟨gb251, 0, none⟩ = some (.int .i64 0) := (blk_cell BK251.out 0).trans rfl; have hcz14_1 : w13.cell? ⟨gb251, 1, none⟩ = some (.int .i64 0) := (blk_cell BK251.out 1).trans rfl; have hcz14_2 : w13.cell? ⟨gb251, 2, none⟩ = some (.slice none 0 0) := (blk_cell BK251.out 2).trans rfl; have hfz14_0 := blk_frozen BK251.out 0; have hfz14_1 := blk_frozen BK251.out 1; have hfz14_2 := blk_frozen BK251.out 2; obtain ⟨Ao15, co15, eo15⟩ := Kd.R_slice HO246.out; subst eo15) | ((with_reducible refine gate_callee (f := 27) rfl ?_); refine goesL_ (some 40) rfl rfl Try.func27 (by kernel_rfl) rfl #[.slice A3 l3.length c3] rfl (by (try simp only [List.map_toArray, List.map_cons, List.map_nil]); first | done | rfl | (simp only [List.length_drop, List.length_take]; rfl)) ?_; (with_reducible refine (sextonref01_Own.calls _ _ l3 t253 _ ?side1 ?side2 A11.out).mono ?_); (case side1 => exact Kd.C_below HR3.out (by repeat (first | (with_reducible first | exact HB.out | apply below_alloc | apply pw_below_drewN | apply below_drew1 | refine below_set ?_ GE251.out) | exact HB.out))); (case side2 => exact HC3.out); rintro e w16 ⟨v254, rfl, ho0, hb⟩; refine ⟨_, rfl, ?_⟩; have n0_ := Aside0.mk (Kd.R_below (by (with_reducible repeat (first | apply Kd.R_alloc | apply Kd.R_drewN | apply Kd.R_drew)); exact (Kd.R_mono (Kd.R_far (p := ⟨gb251, 2, none⟩) (Kd.R_far (p := ⟨gb251, 1, none⟩) (Kd.R_far (p := ⟨gb251, 0, none⟩) (Kd.R_types HO246.out BK251.out (by decide)) (fun _ hk => hk.2) (.int .i64 t242)) (fun _ hk => hk.2) (.int .i64 t243)) (fun _ hk => hk.2) (.slice Ao15 t244.length co15)) (fun _ h_ => h_.1))) hb); have n1_ := Aside0.mk (Kd.R_elder' (by (with_reducible repeat (first | apply Kd.R_alloc | apply Kd.R_drewN | apply Kd.R_drew)); exact (Kd.R_mono (Kd.R_far (p := ⟨gb251, 2, none⟩) (Kd.R_far (p := ⟨gb251, 1, none⟩) (Kd.R_far (p := ⟨gb251, 0, none⟩) (Kd.R_types HO249.out BK251.out (by decide)) (fun _ hk => hk.2) (.int .i64 t242)) (fun _ hk => hk.2) (.int .i64 t243)) (fun _ hk => hk.2) (.slice Ao15 t244.length co15)) (fun _ h_ => h_.1))) (Kd.R_base ho0) hb); have n2_ := Aside0.mk (Kd.R_lower (Kd.R_new' ho0 (Kd.R_lt (by (with_reducible repeat (first | apply Kd.R_alloc | apply Kd.R_drewN | apply Kd.R_drew)); exact (Kd.R_mono (Kd.R_far (p := ⟨gb251, 2, none⟩) (Kd.R_far (p := ⟨gb251, 1, none⟩) (Kd.R_far (p := ⟨gb251, 0, none⟩) (Kd.R_types HO249.out BK251.out (by decide)) (fun _ hk => hk.2) (.int .i64 t242)) (fun _ hk => hk.2) (.int .i64 t243)) (fun _ hk => hk.2) (.slice Ao15 t244.length co15)) (fun _ h_ => h_.1))))) (below_size (by repeat (first | (with_reducible first | exact HB.out | apply below_alloc | apply pw_below_drewN | apply below_drew1 | refine below_set ?_ GE251.out) | exact HB.out)))); have n3_ := Aside0.mk (blk_below (g := gb251) (o := .cells #[.int .i64 t242, .int .i64 t243, .slice Ao15 t244.length co15] 24 (0, 0)) (by (with_reducible repeat (first | refine blk_drewN ?_ _ | refine blk_drew ?_ | refine blk_alloc ?_ _)); refine blk_put (cs := #[.int .i64 t242, .int .i64 t243, .slice none 0 0]) ?_ 2 _ rfl; (with_reducible repeat (first | refine blk_drewN ?_ _ | refine blk_drew ?_ | refine blk_alloc ?_ _)); refine blk_put (cs := #[.int .i64 t242, .int .i64 0, .slice none 0 0]) ?_ 1 _ rfl; (with_reducible repeat (first | refine blk_drewN ?_ _ | refine blk_drew ?_ | refine blk_alloc ?_ _)); refine blk_put (cs := #[.int .i64 0, .int .i64 0, .slice none 0 0]) ?_ 0 _ rfl; (with_reducible repeat (first | refine blk_drewN ?_ _ | refine blk_drew ?_ | refine blk_alloc ?_ _)); exact BK251.out) hb); have n4_ := Aside0.mk (below_step (by repeat (first | (with_reducible first | exact HB.out | apply below_alloc | apply pw_below_drewN | apply below_drew1 | refine below_set ?_ GE251.out) | exact HB.out)) hb); clear HO246; clear HO249; clear BK251; clear HB; have HO246 := n0_; have HO249 := n1_; have HO255 := n2_; have BK251 := n3_; have HB := n4_; clear n0_ n1_ n2_ n3_ n4_; (try clear hb); (try clear hb2); (try clear hk); (try clear hi); (try clear ho0); obtain ⟨Ao17, co17, eo17⟩ := Kd.R_slice HO249.out; subst eo17))
          go_loopg [12, 13] kj4 (fun kq v12 v13 w' => ∃ (x12_2 : List ByteArray) (x13_2 : Int), v13 = .int .i64 x13_2 ∧ Aside0 (sextonlaw13_ChainWhole.l0 kq a0 t247 x12_2 x13_2 t242 t243 t244 = some r) ∧ Aside0 (kq ≤ kj4) ∧ Aside0 (Kd.R Kd.string 9 w' w.heap.size (fun k_ => some k_ ≠ (v12 : Value).ownBlock) (.slice Ao17 t247.length co17) t247) ∧ Aside0 (Kd.R Kd.string 9 w' w.heap.size (fun k_ => some k_ ≠ ((.slice Ao17 t247.length co17) : Value).ownBlock) v12 x12_2) ∧ Aside0 (Kd.R (Kd.int .i64) 3 w' w.heap.size (fun _ => True) (.slice Ao15 t244.length co15) t244) ∧ Aside0 (w'.heap[gb251]? = some (.cells #[.int .i64 t242, .int .i64 t243, (.slice Ao15 t244.length co15)] 24 (0, 0))) ∧ Aside0 (Below w.heap.size w w'))
          case atStart => exact ⟨(t253), (wrap64 ((t247.length : Int) - 1)), (by first | rfl | (simp; done) | (simp [*]; done)), H', ⟨Nat.le_refl _⟩, ⟨by (with_reducible repeat (first | apply Kd.R_alloc | apply Kd.R_drewN | apply Kd.R_drew)); exact Kd.R_mono HO249.out (fun _ hk => hk.2)⟩, ⟨by (with_reducible repeat (first | apply Kd.R_alloc | apply Kd.R_drewN | apply Kd.R_drew)); exact Kd.R_mono HO255.out (fun _ hk => hk.2)⟩, ⟨by (with_reducible repeat (first | apply Kd.R_alloc | apply Kd.R_drewN | apply Kd.R_drew)); exact HO246.out⟩, ⟨by (with_reducible repeat (first | refine blk_drewN ?_ _ | refine blk_drew ?_ | refine blk_alloc ?_ _)); exact BK251.out⟩, ⟨by repeat (first | (with_reducible first | exact HB.out | apply below_alloc | apply pw_below_drewN | apply below_drew1 | refine below_set ?_ GE251.out) | exact HB.out)⟩⟩
          case round =>
            clear H'
            try clear c1
            try clear c2
            try clear p2
            try clear c3
            try clear c6
            try clear c6b0
            try clear c6b1
            try clear p6
            try clear c8
            try clear c9
            try clear c10
            try clear c10b0
            try clear c10b1
            try clear hcz14_0
            try clear hcz14_1
            try clear hcz14_2
            try clear hfz14_0
            try clear hfz14_1
            try clear hfz14_2
            try clear p2
            obtain ⟨x12_2, x13_2, rfl, HA, HK2, HO_10, HO_12, HO_252002, BK251, HB⟩ := hrel
            cases gk with
            | zero => exact absurd HA.out (by simp [sextonlaw13_ChainWhole.l0])
            | succ k2 =>
              have H := HA.out
              clear HA
              simp only [sextonlaw13_ChainWhole.l0] at H
              by_cases c18 : x13_2 ≥ 0
              · rw [if_pos c18] at H
                have c18b0 : decide (0 ≤ x13_2) = true := decide_eq_true c18
                clear c18
                by_cases c19 : 0 ≤ x13_2
                · rw [if_pos c19] at H
                  have c19b0 : decide (0 ≤ x13_2) = true := decide_eq_true c19
                  clear c19
                  by_cases c20 : x13_2 < (t247.length : Int)
                  · rw [if_pos c20] at H
                    have c20b0 : decide (x13_2 < (t247.length : Int)) = true := decide_eq_true c20
                    clear c20
                    by_cases c21 : x12_2.length < 8796093022208
                    · rw [if_pos c21] at H
                      have LMc21 := Aside0.mk c21
                      clear c21
                      obtain ⟨y257, hy257⟩ : ∃ y_ : List ByteArray, y_ = (x12_2 ++ [rdOf ByteArray.empty t247 x13_2]) := ⟨_, rfl⟩
                      replace H : (sextonlaw13_ChainWhole.l0 k2 a0 t247 y257 (wrap64 (x13_2 - 1)) t242 t243 t244) = some r := by first | (rw [hy257]; with_reducible exact H) | (have H2_ := (Option.bind_some _ _).symm.trans H; rw [hy257]; with_reducible exact H2_) | (have H2_ := (Option.bind_some _ _).symm.trans H; with_reducible exact H2_) | with_reducible exact H | (rw [hy257]; exact H) | exact H
                      have Ny257 := Aside0.mk hy257
                      clear hy257
                      have H' := Aside0.mk H
                      clear H
                      have p256 : 0 ≤ (x13_2 : Int) := of_decide_eq_true (by first | (with_reducible assumption) | assumption)
                      have q256 : x13_2 < (t247.length : Int) := of_decide_eq_true (by first | (with_reducible assumption) | assumption)
                      obtain ⟨ad256, e256, hx256_0⟩ := Kd.at_string (Kd.R_reads' HO_10.out).2.2 x13_2 p256 q256
                      cases e256
                      replace p256 := eq_true p256
                      replace q256 := eq_true q256
                      go_wp2_with (first | ((with_reducible refine gate_builtin (b := .append) (xs := #[.tmp 48, .tmp 53]) rfl ?_); (try (refine gate_guard (by rfl) ?_; dsimp only)); at_builtin; refine Kd.R_append Kd.string (w0 := w) w.heap.size rfl (.tmp 48) (.tmp 53) 40 9 (.string ⟨#[]⟩) 16 rfl Try.underlying40 info9 rfl (by decide) (by omega) u12 x12_2 (rdOf ByteArray.empty t247 x13_2) [.string (rdOf ByteArray.empty t247 x13_2)] (fun k_ => some k_ ≠ (.slice (some ad256) t247.length co17 : Value).ownBlock) (fun _ => False) rfl rfl ?aP (fun _ hk => hk.elim) ?aF ?aO ?aB ?aS ?aL ?_; (case aP => exact rfl); (case aB => exact (by repeat (first | (with_reducible first | exact HB.out | apply below_alloc | apply pw_below_drewN | apply below_drew1 | refine below_set ?_ GE251.out) | exact HB.out))); (case aF => exact (fun k_ hk => Kd.fresh' (Kd.R_lt (by (with_reducible repeat (first | apply Kd.R_alloc | apply Kd.R_drewN | apply Kd.R_drew)); exact HO_10.out)) k_ hk)); (case aO => exact (by (with_reducible repeat (first | apply Kd.R_alloc | apply Kd.R_drewN | apply Kd.R_drew)); exact HO_12.out)); (case aS => exact (below_size (by repeat (first | (with_reducible first | exact HB.out | apply below_alloc | apply pw_below_drewN | apply below_drew1 | refine below_set ?_ GE251.out) | exact HB.out)))); (case aL => have := LMc21.out; omega); intro v258 w22 ho hb hg hat; rw [← Ny257.out] at ho; have n0_ := Aside0.mk (Kd.R_after (ok := (fun _ => True)) (by (with_reducible repeat (first | apply Kd.R_alloc | apply Kd.R_drewN | apply Kd.R_drew)); exact Kd.R_mono HO_10.out (fun _ hk => ⟨trivial, hk⟩)) hg hat); have n1_ := Aside0.mk (Kd.R_over' (by (with_reducible repeat (first | apply Kd.R_alloc | apply Kd.R_drewN | apply Kd.R_drew)); exact HO_252002.out) (Kd.R_typed (by (with_reducible repeat (first | apply Kd.R_alloc | apply Kd.R_drewN | apply Kd.R_drew)); exact HO_12.out)) (by decide) hg); have n2_ := Aside0.mk (blk_grown (g := gb251) (o := .cells #[.int .i64 t242, .int .i64 t243, .slice Ao15 t244.length co15] 24 (0, 0)) (by (with_reducible repeat (first | refine blk_drewN ?_ _ | refine blk_drew ?_ | refine blk_alloc ?_ _)); exact BK251.out) hg (Kd.R_ne HO_12.out BK251.out (by decide))); have n3_ := Aside0.mk (hb); have n4_ := Aside0.mk (ho); clear HO_10; clear HO_252002; clear BK251; clear HB; clear HO_12; have HO_10 := n0_; have HO_252002 := n1_; have BK251 := n2_; have HB := n3_; have HO259 := n4_; clear n0_ n1_ n2_ n3_ n4_; clear ho hb hg hat))
                      go_roundg k2
                      case measure => have := HJ4.out; have := HK2.out; omega
                      case rel => exact ⟨(y257), (wrap64 (x13_2 - 1)), (by first | rfl | (simp; done) | (simp [*]; done)), H', ⟨by have := HJ4.out; have := HK2.out; omega⟩, ⟨by (with_reducible repeat (first | apply Kd.R_alloc | apply Kd.R_drewN | apply Kd.R_drew)); exact Kd.R_mono HO_10.out (fun _ hk => hk.2)⟩, ⟨by (with_reducible repeat (first | apply Kd.R_alloc | apply Kd.R_drewN | apply Kd.R_drew)); exact HO259.out⟩, ⟨by (with_reducible repeat (first | apply Kd.R_alloc | apply Kd.R_drewN | apply Kd.R_drew)); exact HO_252002.out⟩, ⟨by (with_reducible repeat (first | refine blk_drewN ?_ _ | refine blk_drew ?_ | refine blk_alloc ?_ _)); exact BK251.out⟩, ⟨by repeat (first | (with_reducible first | exact HB.out | apply below_alloc | apply pw_below_drewN | apply below_drew1 | refine below_set ?_ GE251.out) | exact HB.out)⟩⟩
                    · rw [if_neg c21] at H
                      exact absurd H (by simp)
                  · rw [if_neg c20] at H
                    exact absurd H (by simp)
                · rw [if_neg c19] at H
                  exact absurd H (by simp)
              · rw [if_neg c18] at H
                have c18b0 : decide (0 ≤ x13_2) = false := decide_eq_false c18
                clear c18
                replace H := Option.bind_eq_some_iff.mp H
                obtain ⟨⟨t260, t261⟩, A230, H⟩ := H
                replace H : ((sextonlaw13_cut.f).bind fun t262 => (if t262 = true then (if t261 = 0 then (if t260.toList = a0.toList then ((chain_Have.f t242 t243 t244 x12_2).bind fun t263 => (if (t263.length : Int) = (t247.length : Int) then (some true) else ((sextonlaw13_twins.f k2 x12_2).bind fun t266 => (some t266)))) else ((sextonlaw13_twins.f k2 x12_2).bind fun t267 => (some t267))) else ((sextonlaw13_twins.f k2 x12_2).bind fun t268 => (some t268))) else (some false))) = some r := H
                have A23 := Aside0.mk A230
                clear A230
                replace H := Option.bind_eq_some_iff.mp H
                obtain ⟨t262, A240, H⟩ := H
                replace H : (if t262 = true then (if t261 = 0 then (if t260.toList = a0.toList then ((chain_Have.f t242 t243 t244 x12_2).bind fun t263 => (if (t263.length : Int) = (t247.length : Int) then (some true) else ((sextonlaw13_twins.f k2 x12_2).bind fun t266 => (some t266)))) else ((sextonlaw13_twins.f k2 x12_2).bind fun t267 => (some t267))) else ((sextonlaw13_twins.f k2 x12_2).bind fun t268 => (some t268))) else (some false)) = some r := H
                have A24 := Aside0.mk A240
                clear A240
                by_cases c25 : t262 = true
                · subst c25
                  have H1 : (if t261 = 0 then (if t260.toList = a0.toList then ((chain_Have.f t242 t243 t244 x12_2).bind fun t263 => (if (t263.length : Int) = (t247.length : Int) then (some true) else ((sextonlaw13_twins.f k2 x12_2).bind fun t266 => (some t266)))) else ((sextonlaw13_twins.f k2 x12_2).bind fun t267 => (some t267))) else ((sextonlaw13_twins.f k2 x12_2).bind fun t268 => (some t268))) = some r := by rw [if_pos rfl] at H; exact H
                  clear H
                  have H := H1
                  clear H1
                  by_cases c26 : t261 = 0
                  · rw [if_pos c26] at H
                    have c26b0 : (t261 == 0) = true := beq_iff_eq.mpr c26
                    have c26b1 : (t261 != 0) = false := bne_eq_false_iff_eq.mpr c26
                    clear c26
                    by_cases c27 : t260.toList = a0.toList
                    · rw [if_pos c27] at H
                      have c27b0 : (t260.toList == a0.toList) = true := beq_iff_eq.mpr c27
                      have c27b1 : (t260.toList != a0.toList) = false := bne_eq_false_iff_eq.mpr c27
                      clear c27
                      replace H := Option.bind_eq_some_iff.mp H
                      obtain ⟨t263, A280, H⟩ := H
                      replace H : (if (t263.length : Int) = (t247.length : Int) then (some true) else ((sextonlaw13_twins.f k2 x12_2).bind fun t266 => (some t266))) = some r := H
                      have A28 := Aside0.mk A280
                      clear A280
                      by_cases c29 : (t263.length : Int) = (t247.length : Int)
                      · rw [if_pos c29] at H
                        have c29b0 : ((t263.length : Int) == (t247.length : Int)) = true := beq_iff_eq.mpr c29
                        have c29b1 : ((t263.length : Int) != (t247.length : Int)) = false := bne_eq_false_iff_eq.mpr c29
                        have c29b2 : (t263.length == t247.length) = true := by first | simpa using c29 | (simp at c29 ⊢; omega)
                        clear c29
                        obtain rfl := Option.some.inj H
                        have hcz30_0 : wr.cell? ⟨gb251, 0, none⟩ = some (.int .i64 t242) := (blk_cell BK251.out 0).trans rfl
                        have hcz30_1 : wr.cell? ⟨gb251, 1, none⟩ = some (.int .i64 t243) := (blk_cell BK251.out 1).trans rfl
                        have hcz30_2 : wr.cell? ⟨gb251, 2, none⟩ = some (.slice Ao15 t244.length co15) := (blk_cell BK251.out 2).trans rfl
                        have hfz30_0 := blk_frozen BK251.out 0
                        have hfz30_1 := blk_frozen BK251.out 1
                        have hfz30_2 := blk_frozen BK251.out 2
                        obtain ⟨Ao31, co31, eo31⟩ := Kd.R_slice HO_12.out
                        subst eo31
                        go_wp2_with (first | ((with_reducible refine gate_callee (f := 32) rfl ?_); refine goesL_ (some 58) rfl rfl Try.func32 (by kernel_rfl) rfl #[.agg #[.int .i64 t242, .int .i64 t243, .slice Ao15 t244.length co15], .slice Ao31 x12_2.length co31] rfl (by (try simp only [List.map_toArray, List.map_cons, List.map_nil]); first | done | rfl | (simp only [List.length_drop, List.length_take]; rfl)) ?_; (with_reducible refine (chain_Whole.calls t242 t243 _ _ t244 _ _ x12_2 t260 t261 _ ?side1 ?side2 ?side3 ?side4 A23.out).mono ?_); (case side1 => repeat (first | exact (Kd.R_reads' HO_252002.out).2.2 | (with_reducible refine Kd.C_alloc ?_ _) | (with_reducible refine Kd.C_drewN ?_ _) | (with_reducible refine Kd.C_drew ?_))); (case side2 => exact (Kd.R_reads' HO_252002.out).2.1); (case side3 => repeat (first | exact (Kd.R_reads' HO_12.out).2.2 | (with_reducible refine Kd.C_alloc ?_ _) | (with_reducible refine Kd.C_drewN ?_ _) | (with_reducible refine Kd.C_drew ?_))); (case side4 => exact (Kd.R_reads' HO_12.out).2.1); rintro e w32 ⟨rfl, hb⟩; refine ⟨_, rfl, ?_⟩; have n0_ := Aside0.mk (Kd.R_below (by (with_reducible repeat (first | apply Kd.R_alloc | apply Kd.R_drewN | apply Kd.R_drew)); exact HO_10.out) hb); have n1_ := Aside0.mk (Kd.R_below (by (with_reducible repeat (first | apply Kd.R_alloc | apply Kd.R_drewN | apply Kd.R_drew)); exact HO_12.out) hb); have n2_ := Aside0.mk (Kd.R_below (by (with_reducible repeat (first | apply Kd.R_alloc | apply Kd.R_drewN | apply Kd.R_drew)); exact HO_252002.out) hb); have n3_ := Aside0.mk (blk_below (g := gb251) (o := .cells #[.int .i64 t242, .int .i64 t243, .slice Ao15 t244.length co15] 24 (0, 0)) (by (with_reducible repeat (first | refine blk_drewN ?_ _ | refine blk_drew ?_ | refine blk_alloc ?_ _)); exact BK251.out) hb); have n4_ := Aside0.mk (below_step (by repeat (first | (with_reducible first | exact HB.out | apply below_alloc | apply pw_below_drewN | apply below_drew1 | refine below_set ?_ GE251.out) | exact HB.out)) hb); clear HO_10; clear HO_12; clear HO_252002; clear BK251; clear HB; have HO_10 := n0_; have HO_12 := n1_; have HO_252002 := n2_; have BK251 := n3_; have HB := n4_; clear n0_ n1_ n2_ n3_ n4_; (try clear hb); (try clear hb2); (try clear hk); (try clear hi)) | ((with_reducible refine gate_callee (f := 35) rfl ?_); refine goesL_ (some 61) rfl rfl Try.func35 (by kernel_rfl) rfl #[] rfl (by (try simp only [List.map_toArray, List.map_cons, List.map_nil]); first | done | rfl | (simp only [List.length_drop, List.length_take]; rfl)) ?_; (with_reducible refine (sextonlaw13_cut.calls  true _ A24.out).mono ?_); rintro e w33 ⟨rfl, hb⟩; refine ⟨_, rfl, ?_⟩; have n0_ := Aside0.mk (Kd.R_below (by (with_reducible repeat (first | apply Kd.R_alloc | apply Kd.R_drewN | apply Kd.R_drew)); exact HO_10.out) hb); have n1_ := Aside0.mk (Kd.R_below (by (with_reducible repeat (first | apply Kd.R_alloc | apply Kd.R_drewN | apply Kd.R_drew)); exact HO_12.out) hb); have n2_ := Aside0.mk (Kd.R_below (by (with_reducible repeat (first | apply Kd.R_alloc | apply Kd.R_drewN | apply Kd.R_drew)); exact HO_252002.out) hb); have n3_ := Aside0.mk (blk_below (g := gb251) (o := .cells #[.int .i64 t242, .int .i64 t243, .slice Ao15 t244.length co15] 24 (0, 0)) (by (with_reducible repeat (first | refine blk_drewN ?_ _ | refine blk_drew ?_ | refine blk_alloc ?_ _)); exact BK251.out) hb); have n4_ := Aside0.mk (below_step (by repeat (first | (with_reducible first | exact HB.out | apply below_alloc | apply pw_below_drewN | apply below_drew1 | refine below_set ?_ GE251.out) | exact HB.out)) hb); clear HO_10; clear HO_12; clear HO_252002; clear BK251; clear HB; have HO_10 := n0_; have HO_12 := n1_; have HO_252002 := n2_; have BK251 := n3_; have HB := n4_; clear n0_ n1_ n2_ n3_ n4_; (try clear hb); (try clear hb2); (try clear hk); (try clear hi); have hcz34_0 : w33.cell? ⟨gb251, 0, none⟩ = some (.int .i64 t242) := (blk_cell BK251.out 0).trans rfl; have hcz34_1 : w33.cell? ⟨gb251, 1, none⟩ = some (.int .i64 t243) := (blk_cell BK251.out 1).trans rfl; have hcz34_2 : w33.cell? ⟨gb251, 2, none⟩ = some (.slice Ao15 t244.length co15) := (blk_cell BK251.out 2).trans rfl; have hfz34_0 := blk_frozen BK251.out 0; have hfz34_1 := blk_frozen BK251.out 1; have hfz34_2 := blk_frozen BK251.out 2) | (go_at_call 39; (with_reducible refine (chain_Have.calls t242 t243 _ _ t244 _ _ x12_2 t263 _ ?side1 ?side2 ?side3 ?side4 A28.out).mono ?_); (case side1 => repeat (first | exact (Kd.R_reads' HO_252002.out).2.2 | (with_reducible refine Kd.C_alloc ?_ _) | (with_reducible refine Kd.C_drewN ?_ _) | (with_reducible refine Kd.C_drew ?_))); (case side2 => exact (Kd.R_reads' HO_252002.out).2.1); (case side3 => repeat (first | exact (Kd.R_reads' HO_12.out).2.2 | (with_reducible refine Kd.C_alloc ?_ _) | (with_reducible refine Kd.C_drewN ?_ _) | (with_reducible refine Kd.C_drew ?_))); (case side4 => exact (Kd.R_reads' HO_12.out).2.1); rintro e w35 ⟨v264, rfl, ho0, hb⟩; have n0_ := Aside0.mk (Kd.R_below (by (with_reducible repeat (first | apply Kd.R_alloc | apply Kd.R_drewN | apply Kd.R_drew)); exact HO_10.out) hb); have n1_ := Aside0.mk (Kd.R_below (by (with_reducible repeat (first | apply Kd.R_alloc | apply Kd.R_drewN | apply Kd.R_drew)); exact HO_12.out) hb); have n2_ := Aside0.mk (Kd.R_elder' (by (with_reducible repeat (first | apply Kd.R_alloc | apply Kd.R_drewN | apply Kd.R_drew)); exact HO_252002.out) (Kd.R_base ho0) hb); have n3_ := Aside0.mk (Kd.R_lower (Kd.R_new' ho0 (Kd.R_lt (by (with_reducible repeat (first | apply Kd.R_alloc | apply Kd.R_drewN | apply Kd.R_drew)); exact HO_252002.out))) (below_size (by repeat (first | (with_reducible first | exact HB.out | apply below_alloc | apply pw_below_drewN | apply below_drew1 | refine below_set ?_ GE251.out) | exact HB.out)))); have n4_ := Aside0.mk (blk_below (g := gb251) (o := .cells #[.int .i64 t242, .int .i64 t243, .slice Ao15 t244.length co15] 24 (0, 0)) (by (with_reducible repeat (first | refine blk_drewN ?_ _ | refine blk_drew ?_ | refine blk_alloc ?_ _)); exact BK251.out) hb); have n5_ := Aside0.mk (below_step (by repeat (first | (with_reducible first | exact HB.out | apply below_alloc | apply pw_below_drewN | apply below_drew1 | refine below_set ?_ GE251.out) | exact HB.out)) hb); clear HO_10; clear HO_12; clear HO_252002; clear BK251; clear HB; have HO_10 := n0_; have HO_12 := n1_; have HO_252002 := n2_; have HO265 := n3_; have BK251 := n4_; have HB := n5_; clear n0_ n1_ n2_ n3_ n4_ n5_; (try clear hb); (try clear hb2); (try clear hk); (try clear hi); (try clear ho0); obtain ⟨Ao36, co36, eo36⟩ := Kd.R_slice HO265.out; subst eo36))
                        go_ret
                        exact ⟨by first | rfl | (simp [errW_none, errW_some] <;> rfl) | (simp [*, errW_none, errW_some] <;> rfl), by repeat (first | (with_reducible first | exact HB.out | apply below_alloc | apply pw_below_drewN | apply below_drew1 | refine below_set ?_ GE251.out) | exact HB.out)⟩
                      · rw [if_neg c29] at H
                        have c29b0 : ((t263.length : Int) == (t247.length : Int)) = false := beq_eq_false_iff_ne.mpr c29
                        have c29b1 : ((t263.length : Int) != (t247.length : Int)) = true := bne_iff_ne.mpr c29
                        have c29b2 : (t263.length == t247.length) = false := by first | simpa using c29 | (simp at c29 ⊢; omega)
                        replace H := Option.bind_eq_some_iff.mp H
                        obtain ⟨t266, A370, H⟩ := H
                        replace H : (some t266) = some r := H
                        have A37 := Aside0.mk A370
                        clear A370
                        obtain rfl := Option.some.inj H
                        have hcz38_0 : wr.cell? ⟨gb251, 0, none⟩ = some (.int .i64 t242) := (blk_cell BK251.out 0).trans rfl
                        have hcz38_1 : wr.cell? ⟨gb251, 1, none⟩ = some (.int .i64 t243) := (blk_cell BK251.out 1).trans rfl
                        have hcz38_2 : wr.cell? ⟨gb251, 2, none⟩ = some (.slice Ao15 t244.length co15) := (blk_cell BK251.out 2).trans rfl
                        have hfz38_0 := blk_frozen BK251.out 0
                        have hfz38_1 := blk_frozen BK251.out 1
                        have hfz38_2 := blk_frozen BK251.out 2
                        obtain ⟨Ao39, co39, eo39⟩ := Kd.R_slice HO_12.out
                        subst eo39
                        go_wp2_with (first | ((with_reducible refine gate_callee (f := 32) rfl ?_); refine goesL_ (some 58) rfl rfl Try.func32 (by kernel_rfl) rfl #[.agg #[.int .i64 t242, .int .i64 t243, .slice Ao15 t244.length co15], .slice Ao39 x12_2.length co39] rfl (by (try simp only [List.map_toArray, List.map_cons, List.map_nil]); first | done | rfl | (simp only [List.length_drop, List.length_take]; rfl)) ?_; (with_reducible refine (chain_Whole.calls t242 t243 _ _ t244 _ _ x12_2 t260 t261 _ ?side1 ?side2 ?side3 ?side4 A23.out).mono ?_); (case side1 => repeat (first | exact (Kd.R_reads' HO_252002.out).2.2 | (with_reducible refine Kd.C_alloc ?_ _) | (with_reducible refine Kd.C_drewN ?_ _) | (with_reducible refine Kd.C_drew ?_))); (case side2 => exact (Kd.R_reads' HO_252002.out).2.1); (case side3 => repeat (first | exact (Kd.R_reads' HO_12.out).2.2 | (with_reducible refine Kd.C_alloc ?_ _) | (with_reducible refine Kd.C_drewN ?_ _) | (with_reducible refine Kd.C_drew ?_))); (case side4 => exact (Kd.R_reads' HO_12.out).2.1); rintro e w40 ⟨rfl, hb⟩; refine ⟨_, rfl, ?_⟩; have n0_ := Aside0.mk (Kd.R_below (by (with_reducible repeat (first | apply Kd.R_alloc | apply Kd.R_drewN | apply Kd.R_drew)); exact HO_10.out) hb); have n1_ := Aside0.mk (Kd.R_below (by (with_reducible repeat (first | apply Kd.R_alloc | apply Kd.R_drewN | apply Kd.R_drew)); exact HO_12.out) hb); have n2_ := Aside0.mk (Kd.R_below (by (with_reducible repeat (first | apply Kd.R_alloc | apply Kd.R_drewN | apply Kd.R_drew)); exact HO_252002.out) hb); have n3_ := Aside0.mk (blk_below (g := gb251) (o := .cells #[.int .i64 t242, .int .i64 t243, .slice Ao15 t244.length co15] 24 (0, 0)) (by (with_reducible repeat (first | refine blk_drewN ?_ _ | refine blk_drew ?_ | refine blk_alloc ?_ _)); exact BK251.out) hb); have n4_ := Aside0.mk (below_step (by repeat (first | (with_reducible first | exact HB.out | apply below_alloc | apply pw_below_drewN | apply below_drew1 | refine below_set ?_ GE251.out) | exact HB.out)) hb); clear HO_10; clear HO_12; clear HO_252002; clear BK251; clear HB; have HO_10 := n0_; have HO_12 := n1_; have HO_252002 := n2_; have BK251 := n3_; have HB := n4_; clear n0_ n1_ n2_ n3_ n4_; (try clear hb); (try clear hb2); (try clear hk); (try clear hi)) | ((with_reducible refine gate_callee (f := 35) rfl ?_); refine goesL_ (some 61) rfl rfl Try.func35 (by kernel_rfl) rfl #[] rfl (by (try simp only [List.map_toArray, List.map_cons, List.map_nil]); first | done | rfl | (simp only [List.length_drop, List.length_take]; rfl)) ?_; (with_reducible refine (sextonlaw13_cut.calls  true _ A24.out).mono ?_); rintro e w41 ⟨rfl, hb⟩; refine ⟨_, rfl, ?_⟩; have n0_ := Aside0.mk (Kd.R_below (by (with_reducible repeat (first | apply Kd.R_alloc | apply Kd.R_drewN | apply Kd.R_drew)); exact HO_10.out) hb); have n1_ := Aside0.mk (Kd.R_below (by (with_reducible repeat (first | apply Kd.R_alloc | apply Kd.R_drewN | apply Kd.R_drew)); exact HO_12.out) hb); have n2_ := Aside0.mk (Kd.R_below (by (with_reducible repeat (first | apply Kd.R_alloc | apply Kd.R_drewN | apply Kd.R_drew)); exact HO_252002.out) hb); have n3_ := Aside0.mk (blk_below (g := gb251) (o := .cells #[.int .i64 t242, .int .i64 t243, .slice Ao15 t244.length co15] 24 (0, 0)) (by (with_reducible repeat (first | refine blk_drewN ?_ _ | refine blk_drew ?_ | refine blk_alloc ?_ _)); exact BK251.out) hb); have n4_ := Aside0.mk (below_step (by repeat (first | (with_reducible first | exact HB.out | apply below_alloc | apply pw_below_drewN | apply below_drew1 | refine below_set ?_ GE251.out) | exact HB.out)) hb); clear HO_10; clear HO_12; clear HO_252002; clear BK251; clear HB; have HO_10 := n0_; have HO_12 := n1_; have HO_252002 := n2_; have BK251 := n3_; have HB := n4_; clear n0_ n1_ n2_ n3_ n4_; (try clear hb); (try clear hb2); (try clear hk); (try clear hi); have hcz42_0 : w41.cell? ⟨gb251, 0, none⟩ = some (.int .i64 t242) := (blk_cell BK251.out 0).trans rfl; have hcz42_1 : w41.cell? ⟨gb251, 1, none⟩ = some (.int .i64 t243) := (blk_cell BK251.out 1).trans rfl; have hcz42_2 : w41.cell? ⟨gb251, 2, none⟩ = some (.slice Ao15 t244.length co15) := (blk_cell BK251.out 2).trans rfl; have hfz42_0 := blk_frozen BK251.out 0; have hfz42_1 := blk_frozen BK251.out 1; have hfz42_2 := blk_frozen BK251.out 2) | (go_at_call 39; (with_reducible refine (chain_Have.calls t242 t243 _ _ t244 _ _ x12_2 t263 _ ?side1 ?side2 ?side3 ?side4 A28.out).mono ?_); (case side1 => repeat (first | exact (Kd.R_reads' HO_252002.out).2.2 | (with_reducible refine Kd.C_alloc ?_ _) | (with_reducible refine Kd.C_drewN ?_ _) | (with_reducible refine Kd.C_drew ?_))); (case side2 => exact (Kd.R_reads' HO_252002.out).2.1); (case side3 => repeat (first | exact (Kd.R_reads' HO_12.out).2.2 | (with_reducible refine Kd.C_alloc ?_ _) | (with_reducible refine Kd.C_drewN ?_ _) | (with_reducible refine Kd.C_drew ?_))); (case side4 => exact (Kd.R_reads' HO_12.out).2.1); rintro e w43 ⟨v264, rfl, ho0, hb⟩; have n0_ := Aside0.mk (Kd.R_below (by (with_reducible repeat (first | apply Kd.R_alloc | apply Kd.R_drewN | apply Kd.R_drew)); exact HO_10.out) hb); have n1_ := Aside0.mk (Kd.R_below (by (with_reducible repeat (first | apply Kd.R_alloc | apply Kd.R_drewN | apply Kd.R_drew)); exact HO_12.out) hb); have n2_ := Aside0.mk (Kd.R_elder' (by (with_reducible repeat (first | apply Kd.R_alloc | apply Kd.R_drewN | apply Kd.R_drew)); exact HO_252002.out) (Kd.R_base ho0) hb); have n3_ := Aside0.mk (Kd.R_lower (Kd.R_new' ho0 (Kd.R_lt (by (with_reducible repeat (first | apply Kd.R_alloc | apply Kd.R_drewN | apply Kd.R_drew)); exact HO_252002.out))) (below_size (by repeat (first | (with_reducible first | exact HB.out | apply below_alloc | apply pw_below_drewN | apply below_drew1 | refine below_set ?_ GE251.out) | exact HB.out)))); have n4_ := Aside0.mk (blk_below (g := gb251) (o := .cells #[.int .i64 t242, .int .i64 t243, .slice Ao15 t244.length co15] 24 (0, 0)) (by (with_reducible repeat (first | refine blk_drewN ?_ _ | refine blk_drew ?_ | refine blk_alloc ?_ _)); exact BK251.out) hb); have n5_ := Aside0.mk (below_step (by repeat (first | (with_reducible first | exact HB.out | apply below_alloc | apply pw_below_drewN | apply below_drew1 | refine below_set ?_ GE251.out) | exact HB.out)) hb); clear HO_10; clear HO_12; clear HO_252002; clear BK251; clear HB; have HO_10 := n0_; have HO_12 := n1_; have HO_252002 := n2_; have HO265 := n3_; have BK251 := n4_; have HB := n5_; clear n0_ n1_ n2_ n3_ n4_ n5_; (try clear hb); (try clear hb2); (try clear hk); (try clear hi); (try clear ho0); obtain ⟨Ao44, co44, eo44⟩ := Kd.R_slice HO265.out; subst eo44) | (go_at_call 41; (with_reducible refine (sextonlaw13_twins.calls k2 _ _ x12_2 t266 _ ?side1 ?side2 A37.out).mono ?_); (case side1 => repeat (first | exact (Kd.R_reads' HO_12.out).2.2 | (with_reducible refine Kd.C_alloc ?_ _) | (with_reducible refine Kd.C_drewN ?_ _) | (with_reducible refine Kd.C_drew ?_))); (case side2 => exact (Kd.R_reads' HO_12.out).2.1); rintro e w45 ⟨rfl, hb⟩; have n0_ := Aside0.mk (Kd.R_below (by (with_reducible repeat (first | apply Kd.R_alloc | apply Kd.R_drewN | apply Kd.R_drew)); exact HO_10.out) hb); have n1_ := Aside0.mk (Kd.R_below (by (with_reducible repeat (first | apply Kd.R_alloc | apply Kd.R_drewN | apply Kd.R_drew)); exact HO_12.out) hb); have n2_ := Aside0.mk (Kd.R_below (by (with_reducible repeat (first | apply Kd.R_alloc | apply Kd.R_drewN | apply Kd.R_drew)); exact HO_252002.out) hb); have n3_ := Aside0.mk (Kd.R_below (by (with_reducible repeat (first | apply Kd.R_alloc | apply Kd.R_drewN | apply Kd.R_drew)); exact HO265.out) hb); have n4_ := Aside0.mk (blk_below (g := gb251) (o := .cells #[.int .i64 t242, .int .i64 t243, .slice Ao15 t244.length co15] 24 (0, 0)) (by (with_reducible repeat (first | refine blk_drewN ?_ _ | refine blk_drew ?_ | refine blk_alloc ?_ _)); exact BK251.out) hb); have n5_ := Aside0.mk (below_step (by repeat (first | (with_reducible first | exact HB.out | apply below_alloc | apply pw_below_drewN | apply below_drew1 | refine below_set ?_ GE251.out) | exact HB.out)) hb); clear HO_10; clear HO_12; clear HO_252002; clear HO265; clear BK251; clear HB; have HO_10 := n0_; have HO_12 := n1_; have HO_252002 := n2_; have HO265 := n3_; have BK251 := n4_; have HB := n5_; clear n0_ n1_ n2_ n3_ n4_ n5_; (try clear hb); (try clear hb2); (try clear hk); (try clear hi)))
                        go_ret
                        exact ⟨by first | rfl | (simp [errW_none, errW_some] <;> rfl) | (simp [*, errW_none, errW_some] <;> rfl), by repeat (first | (with_reducible first | exact HB.out | apply below_alloc | apply pw_below_drewN | apply below_drew1 | refine below_set ?_ GE251.out) | exact HB.out)⟩
                    · rw [if_neg c27] at H
                      have c27b0 : (t260.toList == a0.toList) = false := beq_eq_false_iff_ne.mpr c27
                      have c27b1 : (t260.toList != a0.toList) = true := bne_iff_ne.mpr c27
                      replace H := Option.bind_eq_some_iff.mp H
                      obtain ⟨t267, A460, H⟩ := H
                      replace H : (some t267) = some r := H
                      have A46 := Aside0.mk A460
                      clear A460
                      obtain rfl := Option.some.inj H
                      have hcz47_0 : wr.cell? ⟨gb251, 0, none⟩ = some (.int .i64 t242) := (blk_cell BK251.out 0).trans rfl
                      have hcz47_1 : wr.cell? ⟨gb251, 1, none⟩ = some (.int .i64 t243) := (blk_cell BK251.out 1).trans rfl
                      have hcz47_2 : wr.cell? ⟨gb251, 2, none⟩ = some (.slice Ao15 t244.length co15) := (blk_cell BK251.out 2).trans rfl
                      have hfz47_0 := blk_frozen BK251.out 0
                      have hfz47_1 := blk_frozen BK251.out 1
                      have hfz47_2 := blk_frozen BK251.out 2
                      obtain ⟨Ao48, co48, eo48⟩ := Kd.R_slice HO_12.out
                      subst eo48
                      go_wp2_with (first | ((with_reducible refine gate_callee (f := 32) rfl ?_); refine goesL_ (some 58) rfl rfl Try.func32 (by kernel_rfl) rfl #[.agg #[.int .i64 t242, .int .i64 t243, .slice Ao15 t244.length co15], .slice Ao48 x12_2.length co48] rfl (by (try simp only [List.map_toArray, List.map_cons, List.map_nil]); first | done | rfl | (simp only [List.length_drop, List.length_take]; rfl)) ?_; (with_reducible refine (chain_Whole.calls t242 t243 _ _ t244 _ _ x12_2 t260 t261 _ ?side1 ?side2 ?side3 ?side4 A23.out).mono ?_); (case side1 => repeat (first | exact (Kd.R_reads' HO_252002.out).2.2 | (with_reducible refine Kd.C_alloc ?_ _) | (with_reducible refine Kd.C_drewN ?_ _) | (with_reducible refine Kd.C_drew ?_))); (case side2 => exact (Kd.R_reads' HO_252002.out).2.1); (case side3 => repeat (first | exact (Kd.R_reads' HO_12.out).2.2 | (with_reducible refine Kd.C_alloc ?_ _) | (with_reducible refine Kd.C_drewN ?_ _) | (with_reducible refine Kd.C_drew ?_))); (case side4 => exact (Kd.R_reads' HO_12.out).2.1); rintro e w49 ⟨rfl, hb⟩; refine ⟨_, rfl, ?_⟩; have n0_ := Aside0.mk (Kd.R_below (by (with_reducible repeat (first | apply Kd.R_alloc | apply Kd.R_drewN | apply Kd.R_drew)); exact HO_10.out) hb); have n1_ := Aside0.mk (Kd.R_below (by (with_reducible repeat (first | apply Kd.R_alloc | apply Kd.R_drewN | apply Kd.R_drew)); exact HO_12.out) hb); have n2_ := Aside0.mk (Kd.R_below (by (with_reducible repeat (first | apply Kd.R_alloc | apply Kd.R_drewN | apply Kd.R_drew)); exact HO_252002.out) hb); have n3_ := Aside0.mk (blk_below (g := gb251) (o := .cells #[.int .i64 t242, .int .i64 t243, .slice Ao15 t244.length co15] 24 (0, 0)) (by (with_reducible repeat (first | refine blk_drewN ?_ _ | refine blk_drew ?_ | refine blk_alloc ?_ _)); exact BK251.out) hb); have n4_ := Aside0.mk (below_step (by repeat (first | (with_reducible first | exact HB.out | apply below_alloc | apply pw_below_drewN | apply below_drew1 | refine below_set ?_ GE251.out) | exact HB.out)) hb); clear HO_10; clear HO_12; clear HO_252002; clear BK251; clear HB; have HO_10 := n0_; have HO_12 := n1_; have HO_252002 := n2_; have BK251 := n3_; have HB := n4_; clear n0_ n1_ n2_ n3_ n4_; (try clear hb); (try clear hb2); (try clear hk); (try clear hi)) | ((with_reducible refine gate_callee (f := 35) rfl ?_); refine goesL_ (some 61) rfl rfl Try.func35 (by kernel_rfl) rfl #[] rfl (by (try simp only [List.map_toArray, List.map_cons, List.map_nil]); first | done | rfl | (simp only [List.length_drop, List.length_take]; rfl)) ?_; (with_reducible refine (sextonlaw13_cut.calls  true _ A24.out).mono ?_); rintro e w50 ⟨rfl, hb⟩; refine ⟨_, rfl, ?_⟩; have n0_ := Aside0.mk (Kd.R_below (by (with_reducible repeat (first | apply Kd.R_alloc | apply Kd.R_drewN | apply Kd.R_drew)); exact HO_10.out) hb); have n1_ := Aside0.mk (Kd.R_below (by (with_reducible repeat (first | apply Kd.R_alloc | apply Kd.R_drewN | apply Kd.R_drew)); exact HO_12.out) hb); have n2_ := Aside0.mk (Kd.R_below (by (with_reducible repeat (first | apply Kd.R_alloc | apply Kd.R_drewN | apply Kd.R_drew)); exact HO_252002.out) hb); have n3_ := Aside0.mk (blk_below (g := gb251) (o := .cells #[.int .i64 t242, .int .i64 t243, .slice Ao15 t244.length co15] 24 (0, 0)) (by (with_reducible repeat (first | refine blk_drewN ?_ _ | refine blk_drew ?_ | refine blk_alloc ?_ _)); exact BK251.out) hb); have n4_ := Aside0.mk (below_step (by repeat (first | (with_reducible first | exact HB.out | apply below_alloc | apply pw_below_drewN | apply below_drew1 | refine below_set ?_ GE251.out) | exact HB.out)) hb); clear HO_10; clear HO_12; clear HO_252002; clear BK251; clear HB; have HO_10 := n0_; have HO_12 := n1_; have HO_252002 := n2_; have BK251 := n3_; have HB := n4_; clear n0_ n1_ n2_ n3_ n4_; (try clear hb); (try clear hb2); (try clear hk); (try clear hi)) | (go_at_call 41; (with_reducible refine (sextonlaw13_twins.calls k2 _ _ x12_2 t267 _ ?side1 ?side2 A46.out).mono ?_); (case side1 => repeat (first | exact (Kd.R_reads' HO_12.out).2.2 | (with_reducible refine Kd.C_alloc ?_ _) | (with_reducible refine Kd.C_drewN ?_ _) | (with_reducible refine Kd.C_drew ?_))); (case side2 => exact (Kd.R_reads' HO_12.out).2.1); rintro e w51 ⟨rfl, hb⟩; have n0_ := Aside0.mk (Kd.R_below (by (with_reducible repeat (first | apply Kd.R_alloc | apply Kd.R_drewN | apply Kd.R_drew)); exact HO_10.out) hb); have n1_ := Aside0.mk (Kd.R_below (by (with_reducible repeat (first | apply Kd.R_alloc | apply Kd.R_drewN | apply Kd.R_drew)); exact HO_12.out) hb); have n2_ := Aside0.mk (Kd.R_below (by (with_reducible repeat (first | apply Kd.R_alloc | apply Kd.R_drewN | apply Kd.R_drew)); exact HO_252002.out) hb); have n3_ := Aside0.mk (blk_below (g := gb251) (o := .cells #[.int .i64 t242, .int .i64 t243, .slice Ao15 t244.length co15] 24 (0, 0)) (by (with_reducible repeat (first | refine blk_drewN ?_ _ | refine blk_drew ?_ | refine blk_alloc ?_ _)); exact BK251.out) hb); have n4_ := Aside0.mk (below_step (by repeat (first | (with_reducible first | exact HB.out | apply below_alloc | apply pw_below_drewN | apply below_drew1 | refine below_set ?_ GE251.out) | exact HB.out)) hb); clear HO_10; clear HO_12; clear HO_252002; clear BK251; clear HB; have HO_10 := n0_; have HO_12 := n1_; have HO_252002 := n2_; have BK251 := n3_; have HB := n4_; clear n0_ n1_ n2_ n3_ n4_; (try clear hb); (try clear hb2); (try clear hk); (try clear hi)))
                      go_ret
                      exact ⟨by first | rfl | (simp [errW_none, errW_some] <;> rfl) | (simp [*, errW_none, errW_some] <;> rfl), by repeat (first | (with_reducible first | exact HB.out | apply below_alloc | apply pw_below_drewN | apply below_drew1 | refine below_set ?_ GE251.out) | exact HB.out)⟩
                  · rw [if_neg c26] at H
                    have c26b0 : (t261 == 0) = false := beq_eq_false_iff_ne.mpr c26
                    have c26b1 : (t261 != 0) = true := bne_iff_ne.mpr c26
                    replace H := Option.bind_eq_some_iff.mp H
                    obtain ⟨t268, A520, H⟩ := H
                    replace H : (some t268) = some r := H
                    have A52 := Aside0.mk A520
                    clear A520
                    obtain rfl := Option.some.inj H
                    have hcz53_0 : wr.cell? ⟨gb251, 0, none⟩ = some (.int .i64 t242) := (blk_cell BK251.out 0).trans rfl
                    have hcz53_1 : wr.cell? ⟨gb251, 1, none⟩ = some (.int .i64 t243) := (blk_cell BK251.out 1).trans rfl
                    have hcz53_2 : wr.cell? ⟨gb251, 2, none⟩ = some (.slice Ao15 t244.length co15) := (blk_cell BK251.out 2).trans rfl
                    have hfz53_0 := blk_frozen BK251.out 0
                    have hfz53_1 := blk_frozen BK251.out 1
                    have hfz53_2 := blk_frozen BK251.out 2
                    obtain ⟨Ao54, co54, eo54⟩ := Kd.R_slice HO_12.out
                    subst eo54
                    go_wp2_with (first | ((with_reducible refine gate_callee (f := 32) rfl ?_); refine goesL_ (some 58) rfl rfl Try.func32 (by kernel_rfl) rfl #[.agg #[.int .i64 t242, .int .i64 t243, .slice Ao15 t244.length co15], .slice Ao54 x12_2.length co54] rfl (by (try simp only [List.map_toArray, List.map_cons, List.map_nil]); first | done | rfl | (simp only [List.length_drop, List.length_take]; rfl)) ?_; (with_reducible refine (chain_Whole.calls t242 t243 _ _ t244 _ _ x12_2 t260 t261 _ ?side1 ?side2 ?side3 ?side4 A23.out).mono ?_); (case side1 => repeat (first | exact (Kd.R_reads' HO_252002.out).2.2 | (with_reducible refine Kd.C_alloc ?_ _) | (with_reducible refine Kd.C_drewN ?_ _) | (with_reducible refine Kd.C_drew ?_))); (case side2 => exact (Kd.R_reads' HO_252002.out).2.1); (case side3 => repeat (first | exact (Kd.R_reads' HO_12.out).2.2 | (with_reducible refine Kd.C_alloc ?_ _) | (with_reducible refine Kd.C_drewN ?_ _) | (with_reducible refine Kd.C_drew ?_))); (case side4 => exact (Kd.R_reads' HO_12.out).2.1); rintro e w55 ⟨rfl, hb⟩; refine ⟨_, rfl, ?_⟩; have n0_ := Aside0.mk (Kd.R_below (by (with_reducible repeat (first | apply Kd.R_alloc | apply Kd.R_drewN | apply Kd.R_drew)); exact HO_10.out) hb); have n1_ := Aside0.mk (Kd.R_below (by (with_reducible repeat (first | apply Kd.R_alloc | apply Kd.R_drewN | apply Kd.R_drew)); exact HO_12.out) hb); have n2_ := Aside0.mk (Kd.R_below (by (with_reducible repeat (first | apply Kd.R_alloc | apply Kd.R_drewN | apply Kd.R_drew)); exact HO_252002.out) hb); have n3_ := Aside0.mk (blk_below (g := gb251) (o := .cells #[.int .i64 t242, .int .i64 t243, .slice Ao15 t244.length co15] 24 (0, 0)) (by (with_reducible repeat (first | refine blk_drewN ?_ _ | refine blk_drew ?_ | refine blk_alloc ?_ _)); exact BK251.out) hb); have n4_ := Aside0.mk (below_step (by repeat (first | (with_reducible first | exact HB.out | apply below_alloc | apply pw_below_drewN | apply below_drew1 | refine below_set ?_ GE251.out) | exact HB.out)) hb); clear HO_10; clear HO_12; clear HO_252002; clear BK251; clear HB; have HO_10 := n0_; have HO_12 := n1_; have HO_252002 := n2_; have BK251 := n3_; have HB := n4_; clear n0_ n1_ n2_ n3_ n4_; (try clear hb); (try clear hb2); (try clear hk); (try clear hi)) | ((with_reducible refine gate_callee (f := 35) rfl ?_); refine goesL_ (some 61) rfl rfl Try.func35 (by kernel_rfl) rfl #[] rfl (by (try simp only [List.map_toArray, List.map_cons, List.map_nil]); first | done | rfl | (simp only [List.length_drop, List.length_take]; rfl)) ?_; (with_reducible refine (sextonlaw13_cut.calls  true _ A24.out).mono ?_); rintro e w56 ⟨rfl, hb⟩; refine ⟨_, rfl, ?_⟩; have n0_ := Aside0.mk (Kd.R_below (by (with_reducible repeat (first | apply Kd.R_alloc | apply Kd.R_drewN | apply Kd.R_drew)); exact HO_10.out) hb); have n1_ := Aside0.mk (Kd.R_below (by (with_reducible repeat (first | apply Kd.R_alloc | apply Kd.R_drewN | apply Kd.R_drew)); exact HO_12.out) hb); have n2_ := Aside0.mk (Kd.R_below (by (with_reducible repeat (first | apply Kd.R_alloc | apply Kd.R_drewN | apply Kd.R_drew)); exact HO_252002.out) hb); have n3_ := Aside0.mk (blk_below (g := gb251) (o := .cells #[.int .i64 t242, .int .i64 t243, .slice Ao15 t244.length co15] 24 (0, 0)) (by (with_reducible repeat (first | refine blk_drewN ?_ _ | refine blk_drew ?_ | refine blk_alloc ?_ _)); exact BK251.out) hb); have n4_ := Aside0.mk (below_step (by repeat (first | (with_reducible first | exact HB.out | apply below_alloc | apply pw_below_drewN | apply below_drew1 | refine below_set ?_ GE251.out) | exact HB.out)) hb); clear HO_10; clear HO_12; clear HO_252002; clear BK251; clear HB; have HO_10 := n0_; have HO_12 := n1_; have HO_252002 := n2_; have BK251 := n3_; have HB := n4_; clear n0_ n1_ n2_ n3_ n4_; (try clear hb); (try clear hb2); (try clear hk); (try clear hi)) | (go_at_call 41; (with_reducible refine (sextonlaw13_twins.calls k2 _ _ x12_2 t268 _ ?side1 ?side2 A52.out).mono ?_); (case side1 => repeat (first | exact (Kd.R_reads' HO_12.out).2.2 | (with_reducible refine Kd.C_alloc ?_ _) | (with_reducible refine Kd.C_drewN ?_ _) | (with_reducible refine Kd.C_drew ?_))); (case side2 => exact (Kd.R_reads' HO_12.out).2.1); rintro e w57 ⟨rfl, hb⟩; have n0_ := Aside0.mk (Kd.R_below (by (with_reducible repeat (first | apply Kd.R_alloc | apply Kd.R_drewN | apply Kd.R_drew)); exact HO_10.out) hb); have n1_ := Aside0.mk (Kd.R_below (by (with_reducible repeat (first | apply Kd.R_alloc | apply Kd.R_drewN | apply Kd.R_drew)); exact HO_12.out) hb); have n2_ := Aside0.mk (Kd.R_below (by (with_reducible repeat (first | apply Kd.R_alloc | apply Kd.R_drewN | apply Kd.R_drew)); exact HO_252002.out) hb); have n3_ := Aside0.mk (blk_below (g := gb251) (o := .cells #[.int .i64 t242, .int .i64 t243, .slice Ao15 t244.length co15] 24 (0, 0)) (by (with_reducible repeat (first | refine blk_drewN ?_ _ | refine blk_drew ?_ | refine blk_alloc ?_ _)); exact BK251.out) hb); have n4_ := Aside0.mk (below_step (by repeat (first | (with_reducible first | exact HB.out | apply below_alloc | apply pw_below_drewN | apply below_drew1 | refine below_set ?_ GE251.out) | exact HB.out)) hb); clear HO_10; clear HO_12; clear HO_252002; clear BK251; clear HB; have HO_10 := n0_; have HO_12 := n1_; have HO_252002 := n2_; have BK251 := n3_; have HB := n4_; clear n0_ n1_ n2_ n3_ n4_; (try clear hb); (try clear hb2); (try clear hk); (try clear hi)))
                    go_ret
                    exact ⟨by first | rfl | (simp [errW_none, errW_some] <;> rfl) | (simp [*, errW_none, errW_some] <;> rfl), by repeat (first | (with_reducible first | exact HB.out | apply below_alloc | apply pw_below_drewN | apply below_drew1 | refine below_set ?_ GE251.out) | exact HB.out)⟩
                · replace c25 := Bool.eq_false_iff.mpr c25
                  subst c25
                  have H1 : (some false) = some r := by rw [if_neg (show ¬ (false = true) by decide)] at H; exact H
                  exact absurd (H1.trans (congrArg some HRT.out)) (by decide)
        · rw [if_neg c10] at H
          have c10b0 : (t250 == 0) = false := beq_eq_false_iff_ne.mpr c10
          have c10b1 : (t250 != 0) = true := bne_iff_ne.mpr c10
          replace H := Option.bind_eq_some_iff.mp H
          obtain ⟨t252, A620, H⟩ := H
          replace H : (if t252 = true then (some ((t247.length : Int) == 0)) else (some false)) = some r := H
          have A62 := Aside0.mk A620
          clear A620
          by_cases c63 : t252 = true
          · subst c63
            have H1 : (some ((t247.length : Int) == 0)) = some r := by rw [if_pos rfl] at H; exact H
            clear H
            have H := H1
            clear H1
            obtain rfl := Option.some.inj H
            go_wp2_with (first | ((with_reducible refine gate_callee (f := 30) rfl ?_); refine goesL_ (some 27) rfl rfl Try.func30 (by kernel_rfl) rfl #[.string a0, .int .i64 a1, .int .i64 a2] rfl (by (try simp only [List.map_toArray, List.map_cons, List.map_nil]); first | done | rfl | (simp only [List.length_drop, List.length_take]; rfl)) ?_; (with_reducible refine (chain_Describe.calls kj4 a0 a1 a2 t242 t243 t244 t247 t250 _ A9.out).mono ?_); rintro e w64 ⟨v245, v248, rfl, ho0, ho1, hb⟩; refine ⟨_, rfl, ?_⟩; have n0_ := Aside0.mk (Kd.R_lower ho0 (below_size (by repeat (first | (with_reducible first | exact HB.out | apply below_alloc | apply pw_below_drewN | apply below_drew1) | exact HB.out)))); have n1_ := Aside0.mk (Kd.R_lower ho1 (below_size (by repeat (first | (with_reducible first | exact HB.out | apply below_alloc | apply pw_below_drewN | apply below_drew1) | exact HB.out)))); have n2_ := Aside0.mk (below_step (by repeat (first | (with_reducible first | exact HB.out | apply below_alloc | apply pw_below_drewN | apply below_drew1) | exact HB.out)) hb); clear HB; have HO246 := n0_; have HO249 := n1_; have HB := n2_; clear n0_ n1_ n2_; (try clear hb); (try clear hb2); (try clear hk); (try clear hi); (try clear ho0); (try clear ho1)) | ((with_reducible refine gate_dst (N := 9) rfl ?_); (try (refine gate_guard (by rfl) ?_; dsimp only)); refine box_event ?hg (N := 9) ?hd (cs := #[.int .i64 0, .int .i64 0, .slice none 0 0]) (t := 24) ?hr ?_; (case hd => rfl); (case hg => rfl); (case hr => first | (go_simp; done) | (go_simp; rfl)); intro gb251 hg w65 hbox hb; have n0_ := Aside0.mk (Kd.R_below (by (with_reducible repeat (first | apply Kd.R_alloc | apply Kd.R_drewN | apply Kd.R_drew)); exact HO246.out) hb); have n1_ := Aside0.mk (Kd.R_below (by (with_reducible repeat (first | apply Kd.R_alloc | apply Kd.R_drewN | apply Kd.R_drew)); exact HO249.out) hb); have n2_ := Aside0.mk (below_step (by repeat (first | (with_reducible first | exact HB.out | apply below_alloc | apply pw_below_drewN | apply below_drew1) | exact HB.out)) hb); have n3_ := Aside0.mk (hbox); have n4_ := Aside0.mk ((by rw [hg]; exact (below_size (by repeat (first | (with_reducible first | exact HB.out | apply below_alloc | apply pw_below_drewN | apply below_drew1) | exact HB.out))) : w.heap.size ≤ gb251)); have n5_ := Aside0.mk ((by rw [hg]; exact (below_size (by repeat (first | (with_reducible first | exact HB.out | apply below_alloc | apply pw_below_drewN | apply below_drew1) | exact HB.out))) : w.heap.size ≤ gb251)); clear HO246; clear HO249; clear HB; have HO246 := n0_; have HO249 := n1_; have HB := n2_; have BK251 := n3_; have GW251 := n4_; have GE251 := n5_; clear n0_ n1_ n2_ n3_ n4_ n5_; clear hb hbox hg; have hcz66_0 : w65.cell? ⟨gb251, 0, none⟩ = some (.int .i64 0) := (blk_cell BK251.out 0).trans rfl; have hcz66_1 : w65.cell? ⟨gb251, 1, none⟩ = some (.int .i64 0) := (blk_cell BK251.out 1).trans rfl; have hcz66_2 : w65.cell? ⟨gb251, 2, none⟩ = some (.slice none 0 0) := (blk_cell BK251.out 2).trans rfl; have hfz66_0 := blk_frozen BK251.out 0; have hfz66_1 := blk_frozen BK251.out 1; have hfz66_2 := blk_frozen BK251.out 2; obtain ⟨Ao67, co67, eo67⟩ := Kd.R_slice HO246.out; subst eo67) | ((with_reducible refine gate_callee (f := 35) rfl ?_); refine goesL_ (some 33) rfl rfl Try.func35 (by kernel_rfl) rfl #[] rfl (by (try simp only [List.map_toArray, List.map_cons, List.map_nil]); first | done | rfl | (simp only [List.length_drop, List.length_take]; rfl)) ?_; (with_reducible refine (sextonlaw13_cut.calls  true _ A62.out).mono ?_); rintro e w68 ⟨rfl, hb⟩; refine ⟨_, rfl, ?_⟩; have n0_ := Aside0.mk (Kd.R_below (by (with_reducible repeat (first | apply Kd.R_alloc | apply Kd.R_drewN | apply Kd.R_drew)); exact (Kd.R_mono (Kd.R_far (p := ⟨gb251, 2, none⟩) (Kd.R_far (p := ⟨gb251, 1, none⟩) (Kd.R_far (p := ⟨gb251, 0, none⟩) (Kd.R_types HO246.out BK251.out (by decide)) (fun _ hk => hk.2) (.int .i64 t242)) (fun _ hk => hk.2) (.int .i64 t243)) (fun _ hk => hk.2) (.slice Ao67 t244.length co67)) (fun _ h_ => h_.1))) hb); have n1_ := Aside0.mk (Kd.R_below (by (with_reducible repeat (first | apply Kd.R_alloc | apply Kd.R_drewN | apply Kd.R_drew)); exact (Kd.R_mono (Kd.R_far (p := ⟨gb251, 2, none⟩) (Kd.R_far (p := ⟨gb251, 1, none⟩) (Kd.R_far (p := ⟨gb251, 0, none⟩) (Kd.R_types HO249.out BK251.out (by decide)) (fun _ hk => hk.2) (.int .i64 t242)) (fun _ hk => hk.2) (.int .i64 t243)) (fun _ hk => hk.2) (.slice Ao67 t244.length co67)) (fun _ h_ => h_.1))) hb); have n2_ := Aside0.mk (blk_below (g := gb251) (o := .cells #[.int .i64 t242, .int .i64 t243, .slice Ao67 t244.length co67] 24 (0, 0)) (by (with_reducible repeat (first | refine blk_drewN ?_ _ | refine blk_drew ?_ | refine blk_alloc ?_ _)); refine blk_put (cs := #[.int .i64 t242, .int .i64 t243, .slice none 0 0]) ?_ 2 _ rfl; (with_reducible repeat (first | refine blk_drewN ?_ _ | refine blk_drew ?_ | refine blk_alloc ?_ _)); refine blk_put (cs := #[.int .i64 t242, .int .i64 0, .slice none 0 0]) ?_ 1 _ rfl; (with_reducible repeat (first | refine blk_drewN ?_ _ | refine blk_drew ?_ | refine blk_alloc ?_ _)); refine blk_put (cs := #[.int .i64 0, .int .i64 0, .slice none 0 0]) ?_ 0 _ rfl; (with_reducible repeat (first | refine blk_drewN ?_ _ | refine blk_drew ?_ | refine blk_alloc ?_ _)); exact BK251.out) hb); have n3_ := Aside0.mk (below_step (by repeat (first | (with_reducible first | exact HB.out | apply below_alloc | apply pw_below_drewN | apply below_drew1 | refine below_set ?_ GE251.out) | exact HB.out)) hb); clear HO246; clear HO249; clear BK251; clear HB; have HO246 := n0_; have HO249 := n1_; have BK251 := n2_; have HB := n3_; clear n0_ n1_ n2_ n3_; (try clear hb); (try clear hb2); (try clear hk); (try clear hi); obtain ⟨Ao69, co69, eo69⟩ := Kd.R_slice HO249.out; subst eo69))
            go_ret
            exact ⟨by first | rfl | (simp [errW_none, errW_some] <;> rfl) | (simp [*, errW_none, errW_some] <;> rfl), by repeat (first | (with_reducible first | exact HB.out | apply below_alloc | apply pw_below_drewN | apply below_drew1 | refine below_set ?_ GE251.out) | exact HB.out)⟩
          · replace c63 := Bool.eq_false_iff.mpr c63
            subst c63
            have H1 : (some false) = some r := by rw [if_neg (show ¬ (false = true) by decide)] at H; exact H
            exact absurd (H1.trans (congrArg some HRT.out)) (by decide)

end Go.Proofs.Ytfdpebipnapelaa.P
/-
  The plain statement of ChainWhole: what is described is whole of its chunks, in any order, among others; or two texts with one sum are there.
-/
namespace Go.Proofs.Ytfdpebipnapelaa.Pure
open Go.RowKit Go.Proofs Go.Proofs.CodecPlain Go.Proofs.YtfdpebipnapelaaW.PrintWords Go.Proofs.YtfdpebipnapelaaW.PrintLast Go.Proofs.Ytfdpebipnapelaa.P Go.Proofs.Ytfdpebipnapelaa.Opens

theorem far_l0 (l : List ByteArray) (hl : l.length ≤ 9223372036854775807) (d : Nat) : ∀ i, i + d = l.length → ∃ b, Ev (fun k => sextonlaw13_far.l0 k l (i : Int)) b ∧ (b = false → (∀ j, i ≤ j → ∀ h : j < l.length, l[j].size ≤ 200) ∧ l.length ≤ 30) := by
  induction d with
  | zero =>
    intro i hi
    refine ⟨decide ((l.length : Int) > 30), Ev.step (f := fun _ => some _) (fun r => ?_) (Ev.now _), fun hb => ⟨fun j h1 h2 => by omega, ?_⟩⟩
    · simp only [sextonlaw13_far.l0]
      rw [if_neg (by omega)]
    · have := of_decide_eq_false hb; omega
  | succ d ih =>
    intro i hi
    have hlt : i < l.length := by omega
    have hrd : rdOf ByteArray.empty l (i : Int) = l[i] := by simp [rdOf, List.getD_eq_getElem?_getD, hlt]
    have hw : wrap64 ((i : Int) + 1) = ((i + 1 : Nat) : Int) := wrap_id (by omega) (by omega)
    by_cases hc : (l[i].size : Int) > 200
    · refine ⟨true, Ev.step (f := fun _ => some _) (fun r => ?_) (Ev.now _), fun hb => by cases hb⟩
      simp only [sextonlaw13_far.l0]
      rw [if_pos (by omega), if_pos (by omega), hrd, if_pos hc]
    · obtain ⟨b, hb1, hb2⟩ := ih (i + 1) (by omega)
      refine ⟨b, Ev.step (f := fun r => sextonlaw13_far.l0 r l ((i + 1 : Nat) : Int)) (fun r => ?_) hb1, fun hb => ⟨fun j h1 h2 => ?_, (hb2 hb).2⟩⟩
      · simp only [sextonlaw13_far.l0]
        rw [if_pos (by omega), if_pos (by omega), hrd, if_neg hc, hw]
      · rcases Nat.eq_or_lt_of_le h1 with rfl | h
        · omega
        · exact (hb2 hb).1 j (by omega) h2
theorem far_ev (l : List ByteArray) (hl : l.length ≤ 9223372036854775807) : ∃ b, Ev (fun k => sextonlaw13_far.f k l) b ∧ (b = false → (∀ s ∈ l, s.size ≤ 200) ∧ l.length ≤ 30) := by
  obtain ⟨b, h1, h2⟩ := far_l0 l hl l.length 0 (by omega)
  refine ⟨b, h1, fun hb => ⟨fun s hs => ?_, (h2 hb).2⟩⟩
  obtain ⟨j, hj, rfl⟩ := List.getElem_of_mem hs
  exact (h2 hb).1 j (by omega) hj
/-- Texts of one sum are one. -/
def NoTwins (l : List ByteArray) (i j : Nat) : Prop := ∀ (p : Nat) (q : Nat) (hp : p < l.length) (hq : q < l.length), q < p → (p < i ∨ (p = i ∧ q < j)) → sumV l[p] = sumV l[q] → l[p] = l[q]
theorem twins_l1 (l : List ByteArray) (hl : l.length ≤ 1000000000) (hs : ∀ s ∈ l, s.size ≤ 1000000000) (i : Nat) (hi : i < l.length) (next : ∃ b, Ev (fun k => sextonlaw13_twins.l0 k l ((i + 1 : Nat) : Int)) b ∧ (b = false → NoTwins l (i + 1) 0 → NoTwins l l.length 0)) (d : Nat) :
    ∀ j, j + d = i → ∃ b, Ev (fun k => sextonlaw13_twins.l1 k l (i : Int) (j : Int)) b ∧ (b = false → NoTwins l i j → NoTwins l l.length 0) := by
  induction d with
  | zero =>
    intro j hj
    obtain ⟨b, hb1, hb2⟩ := next
    have hw : wrap64 ((i : Int) + 1) = ((i + 1 : Nat) : Int) := wrap_id (by omega) (by omega)
    refine ⟨b, Ev.step (f := fun r => sextonlaw13_twins.l0 r l ((i + 1 : Nat) : Int)) (fun r => ?_) hb1, fun hb hn => hb2 hb (fun p q hp hq hqp hor => hn p q hp hq hqp (by omega))⟩
    simp only [sextonlaw13_twins.l1]
    rw [if_neg (by omega), hw]
  | succ d ih =>
    intro j hj
    have hjl : j < l.length := by omega
    have hrd : rdOf ByteArray.empty l (i : Int) = l[i] := by simp [rdOf, List.getD_eq_getElem?_getD, hi]
    have hrd2 : rdOf ByteArray.empty l (j : Int) = l[j] := by simp [rdOf, List.getD_eq_getElem?_getD, hjl]
    have hw : wrap64 ((j : Int) + 1) = ((j + 1 : Nat) : Int) := wrap_id (by omega) (by omega)
    have h1 := crcSum_f (hs _ (List.getElem_mem hi))
    have h2 := crcSum_f (hs _ (List.getElem_mem hjl))
    obtain ⟨b, hb1, hb2⟩ := ih (j + 1) (by omega)
    have more : (sumV l[i] = sumV l[j] → l[i] = l[j]) → NoTwins l i j → NoTwins l i (j + 1) := by
      intro hq hn p q hp hq' hqp hor
      rcases Nat.lt_or_ge p i with h | h
      · exact hn p q hp hq' hqp (.inl h)
      · obtain rfl : p = i := by omega
        rcases Nat.lt_or_ge q j with h' | h'
        · exact hn p q hp hq' hqp (.inr ⟨rfl, h'⟩)
        · obtain rfl : q = j := by omega
          exact hq
    by_cases e : l[i].toList = l[j].toList
    · refine ⟨b, Ev.step (f := fun r => sextonlaw13_twins.l1 r l (i : Int) ((j + 1 : Nat) : Int)) (fun r => ?_) hb1, fun hb hn => hb2 hb (more (fun _ => toList_inj e) hn)⟩
      simp only [sextonlaw13_twins.l1]
      rw [if_pos (by omega), if_pos (by omega), if_pos (by omega), if_pos (by omega), if_pos (by omega), hrd, hrd2, if_pos e, hw]
    · by_cases es : sumV l[i] = sumV l[j]
      · refine ⟨true, Ev.step (f := fun _ => some _) (fun r => ?_) (Ev.now _), fun hb => by cases hb⟩
        simp only [sextonlaw13_twins.l1]
        rw [if_pos (by omega), if_pos (by omega), if_pos (by omega), if_pos (by omega), if_pos (by omega), hrd, hrd2, if_neg e, h1, Option.bind_some, h2, Option.bind_some, if_pos es]
      · refine ⟨b, Ev.step (f := fun r => sextonlaw13_twins.l1 r l (i : Int) ((j + 1 : Nat) : Int)) (fun r => ?_) hb1, fun hb hn => hb2 hb (more (fun h => absurd h es) hn)⟩
        simp only [sextonlaw13_twins.l1]
        rw [if_pos (by omega), if_pos (by omega), if_pos (by omega), if_pos (by omega), if_pos (by omega), hrd, hrd2, if_neg e, h1, Option.bind_some, h2, Option.bind_some, if_neg es, hw]
theorem twins_l0 (l : List ByteArray) (hl : l.length ≤ 1000000000) (hs : ∀ s ∈ l, s.size ≤ 1000000000) (d : Nat) : ∀ i, i + d = l.length → ∃ b, Ev (fun k => sextonlaw13_twins.l0 k l (i : Int)) b ∧ (b = false → NoTwins l i 0 → NoTwins l l.length 0) := by
  induction d with
  | zero =>
    intro i hi
    refine ⟨false, Ev.step (f := fun _ => some _) (fun r => ?_) (Ev.now _), fun _ hn => by rwa [show l.length = i by omega]⟩
    simp only [sextonlaw13_twins.l0]
    rw [if_neg (by omega)]
  | succ d ih =>
    intro i hi
    obtain ⟨b, hb1, hb2⟩ := twins_l1 l hl hs i (by omega) (ih (i + 1) (by omega)) i 0 (by omega)
    refine ⟨b, Ev.step (f := fun r => sextonlaw13_twins.l1 r l (i : Int) ((0 : Nat) : Int)) (fun r => ?_) hb1, hb2⟩
    simp only [sextonlaw13_twins.l0]
    rw [if_pos (by omega)]
    rfl
theorem twins_ev (l : List ByteArray) (hl : l.length ≤ 1000000000) (hs : ∀ s ∈ l, s.size ≤ 1000000000) : ∃ b, Ev (fun k => sextonlaw13_twins.f k l) b ∧ (b = false → ∀ s ∈ l, ∀ t ∈ l, sumV s = sumV t → s = t) := by
  obtain ⟨b, h1, h2⟩ := twins_l0 l hl hs l.length 0 (by omega)
  refine ⟨b, h1, fun hb s hs' t ht he => ?_⟩
  have hn := h2 hb (fun p q hp hq hqp hor => by omega)
  obtain ⟨i, hi, rfl⟩ := List.getElem_of_mem hs'
  obtain ⟨j, hj, rfl⟩ := List.getElem_of_mem ht
  rcases Nat.lt_trichotomy i j with h | h | h
  · exact (hn j i hj hi h (.inl hj) he.symm).symm
  · subst h; rfl
  · exact hn i j hi hj h (.inl hi) he
/-- All chunks are there, of one sum each: they are whole. -/
theorem whole_of (s : ByteArray) (n : Nat) (b : Int) (l : List ByteArray) (hn : 1 ≤ n) (hm : metaB (s.size : Int) b ((cutV s n).map sumV) = true) (hin : ∀ x ∈ cutV s n, x ∈ l) (hone : ∀ x ∈ l, ∀ y ∈ l, sumV x = sumV y → x = y) :
    wholeV (s.size : Int) b ((cutV s n).map sumV) l = (s, 0) ∧ (haveK l ((cutV s n).map sumV) ((cutV s n).map sumV).length).length = (cutV s n).length := by
  have hf : ∀ x ∈ cutV s n, findT l (sumV x) = some x := fun x hx => by
    obtain ⟨t, ht, hm, he⟩ := findT_mem (hin x hx)
    rw [ht, hone t hm x (hin x hx) he]
  have hall : ∀ m ∈ (cutV s n).map sumV, (findT l m).isSome = true := fun m hm => by
    obtain ⟨x, hx, rfl⟩ := List.mem_map.1 hm
    rw [hf x hx]; rfl
  have hw : wholeT l ((cutV s n).map sumV) = s := by
    unfold wholeT
    rw [List.map_map]
    have : (cutV s n).map (textT l ∘ sumV) = (cutV s n).map id := List.map_congr_left (fun x hx => by
      show textT l (sumV x) = x
      unfold textT
      rw [hf x hx]; rfl)
    rw [this, List.map_id, cat_cut s n hn]
  refine ⟨?_, ?_⟩
  · unfold wholeV
    rw [if_pos hm, if_pos (List.all_eq_true.2 hall), hw, if_pos rfl]
  · rw [haveK_all hall, List.length_map]
/-- The rounds that append the chunks, the last one first. -/
theorem whole_l0 (s : ByteArray) (a b : Int) (m : List Int) (l : List ByteArray) (hl : l.length ≤ 16) (r : Bool) (i : Nat) : ∀ acc : List ByteArray, acc.length + i ≤ 100 → i ≤ l.length → Ev (fun k => sextonlaw13_ChainWhole.l0 k s l (acc ++ (l.take i).reverse) (-1) a b m) r → Ev (fun k => sextonlaw13_ChainWhole.l0 k s l acc ((i : Int) - 1) a b m) r := by
  induction i with
  | zero => intro acc _ _ h; simpa using h
  | succ i ih =>
    intro acc ha hi h
    have hlt : i < l.length := by omega
    have hrd : rdOf ByteArray.empty l (i : Int) = l[i] := by simp [rdOf, List.getD_eq_getElem?_getD, hlt]
    have hw : wrap64 ((i : Int) - 1) = (i : Int) - 1 := wrap_id (by omega) (by omega)
    refine Ev.step (f := fun r => sextonlaw13_ChainWhole.l0 r s l (acc ++ [l[i]]) ((i : Int) - 1) a b m) (fun r => ?_) (ih (acc ++ [l[i]]) (by simp; omega) (by omega) ?_)
    · rw [show ((i + 1 : Nat) : Int) - 1 = (i : Int) by omega]
      simp only [sextonlaw13_ChainWhole.l0]
      rw [if_pos (by omega), if_pos (by omega), if_pos (by omega), if_pos (by omega), hrd, hw]
    · rw [List.append_assoc]
      rw [List.take_succ_eq_append_getElem hlt, List.reverse_append] at h
      exact h
theorem ChainWhole (a0 : ByteArray) (a1 : Int) (a2 : Int) (l3 : List ByteArray) {okp : Prop} (h0 : okp) {okq : Prop} (h1 : okq) {okr : Prop} (h2 : okr) {ok : ByteArray → Prop} (h3 : (OkList ok) l3) : ∃ k, sextonlaw13_ChainWhole.f k a0 a1 a2 l3 = some true := by
  have out : ∀ k, sextonlaw13_ChainWhole.j0 (k + 1) a0 a1 a2 l3 true = some true := fun k => by
    simp only [sextonlaw13_ChainWhole.j0]
    rw [if_pos trivial]
  by_cases hs : (a0.size : Int) > 200
  · refine ⟨1, ?_⟩
    unfold sextonlaw13_ChainWhole.f
    rw [if_pos hs]
    exact out 0
  have hbig : l3.length ≤ 9223372036854775807 := h3.1
  obtain ⟨b, ⟨K, hK⟩, hb⟩ := far_ev l3 hbig
  simp only at hK
  cases b
  rotate_left
  · refine ⟨K + 1, ?_⟩
    unfold sextonlaw13_ChainWhole.f
    rw [if_neg hs, hK _ (by omega), Option.bind_some]
    exact out K
  obtain ⟨hsz, hlen⟩ := hb rfl
  rcases describe_cases a0 a1 a2 with ⟨e, he, hd⟩ | ⟨m, rfl, g1, g2, g3, hm, hd⟩
  · refine ⟨K + 18, ?_⟩
    unfold sextonlaw13_ChainWhole.f
    rw [if_neg hs, hK _ (by omega), Option.bind_some]
    simp only [sextonlaw13_ChainWhole.j0, sextonlaw13_cut.f]
    rw [if_neg (by decide), hd _ (by omega), Option.bind_some, if_neg he, Option.bind_some, if_pos rfl]
    rfl
  · have hcl := cutV_length a0 m
    have hch := chunks_le g3
    have hall : ∀ x ∈ l3 ++ (cutV a0 m).reverse, x.size ≤ 1000000000 := fun x hx => by
      rcases List.mem_append.1 hx with h | h
      · have := hsz x h; omega
      · have := mem_cut (List.mem_reverse.1 h); omega
    have hlall : (l3 ++ (cutV a0 m).reverse).length ≤ 1000000000 := by rw [List.length_append, List.length_reverse]; omega
    obtain ⟨bt, ht, htw⟩ := twins_ev (l3 ++ (cutV a0 m).reverse) hlall hall
    have hwf := whole_f (a0.size : Int) a2 (m := (cutV a0 m).map sumV) hlall hall (by rw [List.length_map]; omega)
    have hhf := have_f (a0.size : Int) a2 (m := (cutV a0 m).map sumV) hlall hall (by rw [List.length_map]; omega) (inI_sums _)
    have hend : Ev (fun k => sextonlaw13_ChainWhole.l0 k a0 (cutV a0 m) (l3 ++ (cutV a0 m).reverse) (-1) (a0.size : Int) a2 ((cutV a0 m).map sumV)) true := by
      cases bt
      · obtain ⟨w1, w2⟩ := whole_of a0 m a2 (l3 ++ (cutV a0 m).reverse) g1 hm (fun x hx => List.mem_append.2 (.inr (List.mem_reverse.2 hx))) (htw rfl)
        rw [w1] at hwf
        refine Ev.step (f := fun _ => some true) (fun r => ?_) (Ev.now _)
        simp only [sextonlaw13_ChainWhole.l0, sextonlaw13_cut.f]
        rw [if_neg (by omega), hwf, Option.bind_some, Option.bind_some, if_pos rfl, if_pos rfl, if_pos rfl, hhf, Option.bind_some, w2, if_pos rfl]
      · obtain ⟨K2, hK2⟩ := ht
        simp only at hK2
        refine Ev.step (f := fun r => (sextonlaw13_ChainWhole.l0 (r + 1) a0 (cutV a0 m) (l3 ++ (cutV a0 m).reverse) (-1) (a0.size : Int) a2 ((cutV a0 m).map sumV))) (fun r => rfl) ⟨K2, fun k hk => ?_⟩
        simp only [sextonlaw13_ChainWhole.l0, sextonlaw13_cut.f]
        rw [if_neg (by omega), hwf, Option.bind_some, Option.bind_some, if_pos rfl, hK2 k hk, hhf]
        simp only [Option.bind_some]
        split
        · split
          · split
            · rfl
            · rfl
          · rfl
        · rfl
    obtain ⟨K3, hK3⟩ := whole_l0 a0 (a0.size : Int) a2 ((cutV a0 m).map sumV) (cutV a0 m) (by omega) true (cutV a0 m).length l3 (by omega) (Nat.le_refl _) (by rw [List.take_length]; exact hend)
    simp only at hK3
    refine ⟨K + K3 + 18, ?_⟩
    unfold sextonlaw13_ChainWhole.f
    rw [if_neg hs, hK _ (by omega), Option.bind_some]
    simp only [sextonlaw13_ChainWhole.j0]
    rw [if_neg (by decide), hd _ (by omega), Option.bind_some, if_pos rfl]
    have hown : sextonref01_Own.f l3 = some l3 := by
      unfold sextonref01_Own.f
      rw [if_pos (by simp only [List.length_nil]; omega)]
      rfl
    rw [hown, Option.bind_some]
    have hw : wrap64 (((cutV a0 m).length : Int) - 1) = ((cutV a0 m).length : Int) - 1 := wrap_id (by omega) (by omega)
    rw [hw]
    exact hK3 _ (by omega)
end Go.Proofs.Ytfdpebipnapelaa.Pure
